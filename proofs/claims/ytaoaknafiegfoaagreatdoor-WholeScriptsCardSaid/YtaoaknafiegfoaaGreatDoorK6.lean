/- Part of the proof of the laws of this seat: Md4, Md5, Md7, Md8, MdB, MdC, Mf1. No conditions. -/
import Derived.Test.YtaoaknafiegfoaaGreatDoorK4
import Derived.Test.YtaoaknafiegfoaaGreatDoorK3
set_option linter.unusedVariables false
set_option linter.unusedSimpArgs false
set_option linter.unnecessarySimpa false
namespace Go.Bil
def cW (s : List Body) : Prop := s.Pairwise (fun a b => a.key < b.key)
def rX (k : Int) (s : List Body) : List Body := s.filter (fun x => decide (x.key ≠ k))
def sP (b : Body) : Bool → List Body → List Body
 | true, s => rX b.key s
 | false, [] => [b]
 | false, x :: l => if b.key ≤ x.key then b :: rX b.key (x :: l) else x :: sP b false l
def bLm (b : Body) (r : List Body × Bool) : List Body := if r.2 then r.1 else r.1 ++ [b]
theorem rZ (b : Body) : ∀ (s acc : List Body) (d : Bool), bLm b (s.foldl (fQ b) (acc, d)) = acc ++ sP b d s
 | [], acc, true => by simp [sP, rX, bLm]
 | [], acc, false => by simp [sP, bLm]
 | x :: l, acc, true => by
  have ih := rZ b l (if x.key ≠ b.key then acc ++ [x] else acc) true
  rw [List.foldl_cons]
  have e : fQ b (acc, true) x = (if x.key ≠ b.key then acc ++ [x] else acc, true) := by unfold fQ; by_cases h : x.key = b.key <;> simp [h]
  rw [e, ih]
  by_cases h : x.key = b.key <;> simp [sP, rX, h]
 | x :: l, acc, false => by
  rw [List.foldl_cons]
  by_cases hb : b.key ≤ x.key
  ·have ih := rZ b l (if x.key ≠ b.key then acc ++ [b] ++ [x] else acc ++ [b]) true
   have e : fQ b (acc, false) x = (if x.key ≠ b.key then acc ++ [b] ++ [x] else acc ++ [b], true) := by unfold fQ; by_cases h : x.key = b.key <;> simp [h, hb]
   rw [e, ih]
   by_cases h : x.key = b.key <;> simp [sP, rX, h, hb]
  ·have hne : x.key ≠ b.key := by omega
   have ih := rZ b l (acc ++ [x]) false
   have e : fQ b (acc, false) x = (acc ++ [x], false) := by unfold fQ; simp [hb, hne]
   rw [e, ih]
   simp [sP, hb]
theorem aSq (s : List Body) (b : Body) (g : Bool) : vT s b g = sP b g s := by
 have := rZ b s [] g
 rw [List.nil_append] at this
 exact this
theorem zV (b : Body) : ∀ s : List Body, (sP b false s).Perm (b :: rX b.key s)
 | [] => by simp [sP, rX]
 | x :: l => by
  unfold sP
  split
  ·exact List.Perm.refl _
  ·rename_i h
   have hne : x.key ≠ b.key := by omega
   have e : rX b.key (x :: l) = x :: rX b.key l := by simp [rX, hne]
   rw [e]
   exact ((zV b l).cons x).trans (List.Perm.swap b x _)
theorem xD {k : Int} {s : List Body} {x : Body} : x ∈ rX k s ↔ x ∈ s ∧ x.key ≠ k := by simp [rX]
theorem cW.cut {s : List Body} (h : cW s) (k : Int) : cW (rX k s) := List.Pairwise.sublist List.filter_sublist h
theorem cW.put {b : Body} : ∀ {s : List Body}, cW s → cW (sP b false s)
 | [], _ => by simp [sP, cW]
 | x :: l, h => by
  unfold sP
  have hx : ∀ y ∈ l, x.key < y.key := (List.pairwise_cons.1 h).1
  have hl : cW l := (List.pairwise_cons.1 h).2
  split
  ·rename_i hb
   refine List.pairwise_cons.2 ⟨fun y hy => ?_, h.cut _⟩
   obtain ⟨h1, h2⟩ := xD.1 hy
   rcases List.mem_cons.1 h1 with rfl | h1
   ·omega
   ·have := hx y h1; omega
  ·rename_i hb
   refine List.pairwise_cons.2 ⟨fun y hy => ?_, cW.put hl⟩
   have := (zV b l).mem_iff.1 hy
   rcases List.mem_cons.1 this with rfl | h1
   ·omega
   ·exact hx y (xD.1 h1).1
def mP (s : List Body) (b : Body) : List Body × Int :=
 if check b ≠ 0 then (s, check b) else if 0 ≤ dI b.key s then (s, 10) else if 4096 ≤ s.length then (s, 12) else (vT s b false, 0)
def pV (k : Int) : Body := ⟨k, 0, 0, 0, 0, 0, 0, 0, 0, 0⟩
def gQ (s : List Body) (k : Int) : List Body × Int := if dI k s < 0 then (s, 11) else (vT s (pV k) true, 0)
def bEc (s : List Body) (b : Body) : List Body × Int :=
 if check b ≠ 0 then (s, check b) else if dI b.key s < 0 then (s, 11) else (vT s b false, 0)
structure Rel (m s : List Body) : Prop where
 perm : s.Perm m
 sorted : cW s
theorem Rel.nil : Rel [] [] := ⟨List.Perm.refl _, by simp [cW]⟩
theorem cW.unique {s t : List Body} (h : cW s) (h' : cW t) (p : s.Perm t) : s = t :=
 List.Perm.eq_of_pairwise (le := fun (a b : Body) => a.key < b.key) (fun a b _ _ h1 h2 => by omega) h h' p
theorem cW.keys {s : List Body} (h : cW s) : jZ s := by
 unfold jZ List.Nodup
 rw [List.pairwise_map]
 exact h.imp (fun h => by omega)
theorem Rel.keys {m s : List Body} (R : Rel m s) : jZ m := R.sorted.keys.perm R.perm.symm
theorem Rel.find {m s : List Body} (R : Rel m s) (k : Int) : dI k s < 0 ↔ dI k m < 0 := by
 rw [mQ, mQ]
 exact ⟨fun h b hb => h b (R.perm.mem_iff.2 hb), fun h b hb => h b (R.perm.mem_iff.1 hb)⟩
theorem aIi {k : Int} {s : List Body} (h : dI k s < 0) : rX k s = s := List.filter_eq_self.2 fun x hx => by simpa using mQ.1 h x hx
theorem Rel.put {m s : List Body} (R : Rel m s) (b : Body) {m' : List Body} (h : m'.Perm (b :: rX b.key m)) : Rel m' (vT s b false) := by
 rw [aSq]
 exact ⟨((zV b s).trans ((R.perm.filter _).cons b)).trans h.symm, R.sorted.put⟩
theorem Rel.add {m s : List Body} (R : Rel m s) (b : Body) : Rel (nT m b).1 (mP s b).1 ∧ (mP s b).2 = (nT m b).2 := by
 unfold nT mP
 have hf := R.find b.key
 have hl := R.perm.length_eq
 by_cases h1 : check b ≠ 0
 ·rw [if_pos h1, if_pos h1]; exact ⟨R, rfl⟩
 ·rw [if_neg h1, if_neg h1]
  by_cases h2 : 0 ≤ dI b.key m
  ·have h2' : 0 ≤ dI b.key s := by omega
   rw [if_pos h2, if_pos h2']; exact ⟨R, rfl⟩
  ·have h2' : ¬ 0 ≤ dI b.key s := by omega
   rw [if_neg h2, if_neg h2', hl]
   by_cases h3 : 4096 ≤ m.length
   ·rw [if_pos h3, if_pos h3]; exact ⟨R, rfl⟩
   ·rw [if_neg h3, if_neg h3]
    refine ⟨R.put b ?_, rfl⟩
    rw [aIi (by omega)]
    exact List.perm_append_singleton b m
theorem vP {m : List Body} (h : jZ m) {i : Nat} {b : Body} (hi : m[i]? = some b) : m.eraseIdx i = rX b.key m := by
 have e : m = m.take i ++ b :: m.drop (i + 1) := by
  have hlt := (List.getElem?_eq_some_iff.1 hi).1
  have hb : m[i] = b := (List.getElem?_eq_some_iff.1 hi).2
  rw [← hb, ← List.drop_eq_getElem_cons hlt, List.take_append_drop]
 have hne := aHe h hi
 rw [List.eraseIdx_eq_take_drop_succ] at hne ⊢
 conv => rhs; rw [e]
 unfold rX
 rw [List.filter_append, List.filter_cons]
 simp only [ne_eq, not_true_eq_false, decide_false, Bool.false_eq_true, if_false]
 rw [List.filter_eq_self.2 (fun x hx => by simpa using hne x (List.mem_append_left _ hx)), List.filter_eq_self.2 (fun x hx => by simpa using hne x (List.mem_append_right _ hx))]
theorem Rel.remove {m s : List Body} (R : Rel m s) (k : Int) : Rel (lG m k).1 (gQ s k).1 ∧ (gQ s k).2 = (lG m k).2 := by
 unfold lG gQ
 have hf := R.find k
 by_cases h : dI k m < 0
 ·rw [if_pos h, if_pos (hf.2 h)]; exact ⟨R, rfl⟩
 ·rw [if_neg h, if_neg (fun h' => h (hf.1 h'))]
  refine ⟨?_, rfl⟩
  rcases eJ k m with ⟨h1, _⟩ | ⟨i, b, h1, h2, h3⟩
  ·omega
  ·rw [h3, Int.toNat_natCast, aSq]
   have hlt := (List.getElem?_eq_some_iff.1 h1).1
   have hk : (pV k).key = b.key := h2.symm
   have he : sP (pV k) true s = rX b.key s := by unfold sP; rw [hk]
   refine ⟨?_, by rw [he]; exact R.sorted.cut _⟩
   show (sP (pV k) true s).Perm _
   rw [he]
   exact (R.perm.filter _).trans ((List.Perm.of_eq (vP R.keys h1).symm).trans (rB hlt).symm)
theorem bBz {m : List Body} {i : Nat} {x : Body} (hi : i < m.length) : (m.set i x).Perm (x :: m.eraseIdx i) := by
 rw [List.set_eq_take_append_cons_drop, if_pos hi, List.eraseIdx_eq_take_drop_succ]
 exact List.perm_middle
theorem Rel.set {m s : List Body} (R : Rel m s) (b : Body) : Rel (sL m b).1 (bEc s b).1 ∧ (bEc s b).2 = (sL m b).2 := by
 unfold sL bEc
 have hf := R.find b.key
 by_cases h1 : check b ≠ 0
 ·rw [if_pos h1, if_pos h1]; exact ⟨R, rfl⟩
 ·rw [if_neg h1, if_neg h1]
  by_cases h : dI b.key m < 0
  ·rw [if_pos h, if_pos (hf.2 h)]; exact ⟨R, rfl⟩
  ·rw [if_neg h, if_neg (fun h' => h (hf.1 h'))]
   refine ⟨?_, rfl⟩
   rcases eJ b.key m with ⟨h1, _⟩ | ⟨i, c, h1, h2, h3⟩
   ·omega
   ·rw [h3, Int.toNat_natCast]
    have hlt := (List.getElem?_eq_some_iff.1 h1).1
    refine R.put b ((bBz hlt).trans ?_)
    rw [vP R.keys h1, h2]
theorem Rel.get {m s : List Body} (R : Rel m s) (k : Int) : (dI k s < 0 ∧ aDb m k = (pV 0, 11)) ∨ ∃ (i : Nat) (b : Body), dI k s = (i : Int) ∧ s[i]? = some b ∧ aDb m k = (b, 0) := by
 rcases eJ k s with ⟨h1, h2⟩ | ⟨i, b, h1, h2, h3⟩
 ·have hm : dI k m < 0 := (R.find k).1 (by omega)
  refine .inl ⟨by omega, ?_⟩
  unfold aDb
  rw [if_pos hm]
  rfl
 ·refine .inr ⟨i, b, h3, h1, ?_⟩
  have hb : b ∈ m := R.perm.mem_iff.1 (List.mem_of_getElem? h1)
  obtain ⟨j, hj⟩ := List.getElem?_of_mem hb
  have := tV R.keys hj
  rw [h2] at this
  exact yS this hj
theorem xE {a b : Int} : oU a b < 0 ↔ a < b := by unfold oU; (repeat' split) <;> omega
def aQj (b : Body) : List Body → List Body
 | [] => [b]
 | x :: l => if b.key ≤ x.key then b :: x :: l else x :: aQj b l
def aAp (m : List Body) : List Body := m.foldr aQj []
theorem yM (b : Body) : ∀ l : List Body, (aQj b l).Perm (b :: l)
 | [] => List.Perm.refl _
 | x :: l => by
  unfold aQj
  split
  ·exact List.Perm.refl _
  ·exact ((yM b l).cons x).trans (List.Perm.swap b x l)
theorem oZ : ∀ m : List Body, (aAp m).Perm m
 | [] => List.Perm.refl _
 | b :: m => (yM b (aAp m)).trans ((oZ m).cons b)
def Up (s : List Body) : Prop := s.Pairwise (fun a b => a.key ≤ b.key)
theorem aTa (b : Body) : ∀ {l : List Body}, Up l → Up (aQj b l)
 | [], _ => by simp [aQj, Up]
 | x :: l, h => by
  unfold aQj
  have hx : ∀ y ∈ l, x.key ≤ y.key := (List.pairwise_cons.1 h).1
  split
  ·rename_i hb
   refine List.pairwise_cons.2 ⟨fun y hy => ?_, h⟩
   rcases List.mem_cons.1 hy with rfl | hy
   ·exact hb
   ·have := hx y hy; omega
  ·refine List.pairwise_cons.2 ⟨fun y hy => ?_, aTa b (List.pairwise_cons.1 h).2⟩
   have := (yM b l).mem_iff.1 hy
   rcases List.mem_cons.1 this with rfl | h1
   ·omega
   ·exact hx y h1
theorem aDp : ∀ m : List Body, Up (aAp m)
 | [] => by simp [aAp, Up]
 | b :: m => aTa b (aDp m)
theorem yO {s : List Body} (h : Up s) (hk : jZ s) : cW s := by
 unfold Up at h
 unfold jZ List.Nodup at hk
 rw [List.pairwise_map] at hk
 exact (List.Pairwise.and h hk).imp (fun ⟨h1, h2⟩ => by omega)
theorem aVl {s t : List Body} (h : Up s) (h' : Up t) (p : s.Perm t) (hk : jZ s) : s = t := (yO h hk).unique (yO h' (hk.perm p.symm)) p
theorem aWg {m : List Body} (hk : jZ m) : Rel m (aAp m) := ⟨oZ m, yO (aDp m) (hk.perm (oZ m))⟩
theorem Rel.eq {m s : List Body} (R : Rel m s) : aAp m = s := (aWg R.keys).sorted.unique R.sorted ((oZ m).trans R.perm.symm)
end Go.Bil
namespace Go.Bil
structure InB (b : Body) : Prop where
 key : 0 ≤ b.key ∧ b.key ≤ 4294967295
 radius : -2147483648 ≤ b.radius ∧ b.radius ≤ 2147483647
 ax : -2147483648 ≤ b.ax ∧ b.ax ≤ 2147483647
 ay : -2147483648 ≤ b.ay ∧ b.ay ≤ 2147483647
 mass : -2147483648 ≤ b.mass ∧ b.mass ≤ 2147483647
 bounce : -2147483648 ≤ b.bounce ∧ b.bounce ≤ 2147483647
 px : -2147483648 ≤ b.px ∧ b.px ≤ 2147483647
 py : -2147483648 ≤ b.py ∧ b.py ≤ 2147483647
 vx : -2147483648 ≤ b.vx ∧ b.vx ≤ 2147483647
 vy : -2147483648 ≤ b.vy ∧ b.vy ≤ 2147483647
theorem bKv (l : List Value) (h : nL [.u32, .i32, .i32, .i32, .i32, .i32, .i32, .i32, .i32, .i32] l) : ∃ b, l = aF b ∧ InB b := by
 obtain ⟨z0, l0, rfl, w0, h0⟩ := gE h
 obtain ⟨z1, l1, rfl, w1, h1⟩ := gE h0
 obtain ⟨z2, l2, rfl, w2, h2⟩ := gE h1
 obtain ⟨z3, l3, rfl, w3, h3⟩ := gE h2
 obtain ⟨z4, l4, rfl, w4, h4⟩ := gE h3
 obtain ⟨z5, l5, rfl, w5, h5⟩ := gE h4
 obtain ⟨z6, l6, rfl, w6, h6⟩ := gE h5
 obtain ⟨z7, l7, rfl, w7, h7⟩ := gE h6
 obtain ⟨z8, l8, rfl, w8, h8⟩ := gE h7
 obtain ⟨z9, l9, rfl, w9, h9⟩ := gE h8
 obtain rfl := sM h9
 exact ⟨⟨z0, z1, z2, z3, z4, z5, z6, z7, z8, z9⟩, rfl, ⟨w0, w1, w2, w3, w4, w5, w6, w7, w8, w9⟩⟩
end Go.Bil

namespace Go.Bil
structure StV where
 A : Option Addr
 n : Nat
 c : Nat
 p : Option Nat
 er : eZ
 em : eZ
def aHh (l : List Body) : List Body := l.foldl (fun m b => (nT m b).1) []
theorem aFd {l : List Body} {k : Nat} {x : Body} (h : l[k]? = some x) : aHh (l.take (k + 1)) = (nT (aHh (l.take k)) x).1 := by
 unfold aHh
 rw [cP h, List.foldl_append]
 rfl
def zZ (l : List Body) : List Body := l.filter (fun b => decide (check b = 0))
theorem aYt {m : List Body} {x : Body} (hf : ∀ b ∈ m, b.key ≠ x.key) (hl : m.length < 4096) : nT (zZ m) x = (zZ (m ++ [x]), check x) := by
 have hle : (zZ m).length ≤ m.length := List.length_filter_le _ _
 unfold nT
 by_cases h : check x = 0
 ·rw [if_neg (by omega), if_neg (by
   have : dI x.key (zZ m) < 0 := mQ.2 fun b hb => hf b (List.mem_filter.1 hb).1
   omega), if_neg (by omega), h]
  simp [zZ, List.filter_append, h]
 ·rw [if_pos h]
  simp [zZ, List.filter_append, h]
theorem aMw {l : List Body} (h : jZ l) {k : Nat} {x : Body} (hx : l[k]? = some x) : ∀ b ∈ l.take k, b.key ≠ x.key := by
 intro b hb e
 obtain ⟨j, hj⟩ := List.getElem?_of_mem hb
 rw [List.getElem?_take] at hj
 split at hj
 ·rename_i hlt
  have := h.inj hj hx e
  omega
 ·cases hj
theorem aDe {l : List Body} (h : jZ l) (hl : l.length ≤ 4096) : ∀ k, k ≤ l.length → aHh (l.take k) = zZ (l.take k)
 | 0, _ => by simp [aHh, zZ]
 | k + 1, hk => by
  obtain ⟨x, hx⟩ := cS (xs := l) (k := k) rfl (by omega)
  rw [aFd hx, aDe h hl k (by omega), aYt (aMw h hx) (by rw [List.length_take]; omega), cP hx]
theorem aAt {m : List Body} (hk : jZ m) (k : Int) : (lG m k).1.Perm (rX k m) := by
 unfold lG
 by_cases h : dI k m < 0
 ·rw [if_pos h, aIi h]
 ·rw [if_neg h]
  rcases eJ k m with ⟨h1, _⟩ | ⟨i, b, h1, h2, h3⟩
  ·omega
  ·rw [h3, Int.toNat_natCast]
   have hlt := (List.getElem?_eq_some_iff.1 h1).1
   have := (rB hlt).trans (List.Perm.of_eq (vP hk h1))
   rwa [h2] at this
end Go.Bil
namespace Go.Bil
structure StepI where
 kind : Int
 body : Body
instance : Inhabited StepI := ⟨⟨0, pV 0⟩⟩
end Go.Bil

namespace Go.Bil
def mK : List Body → Int
 | [] => 0
 | b :: l => if check b ≠ 0 then check b else mK l
def oA (xs : List Body) : Int := if 4096 < xs.length then 12 else mK xs
theorem nC : ∀ {xs : List Body}, (∀ (j : Nat) (c : Body), xs[j]? = some c → check c = 0) → mK xs = 0
 | [], _ => rfl
 | b :: l, h => by
  unfold mK
  rw [if_neg (by have := h 0 b (by simp); omega)]
  exact nC fun j c hj => h (j + 1) c (by simpa using hj)
theorem tK : ∀ {xs : List Body} {k : Nat} {b : Body}, xs[k]? = some b → check b ≠ 0 → (∀ (j : Nat) (c : Body), j < k → xs[j]? = some c → check c = 0) → mK xs = check b
 | [], _, _, h, _, _ => by simp at h
 | a :: l, 0, b, h, hb, _ => by
  simp only [List.getElem?_cons_zero, Option.some.injEq] at h
  subst h
  unfold mK
  rw [if_pos hb]
 | a :: l, k + 1, b, h, hb, hn => by
  unfold mK
  rw [if_neg (by have := hn 0 a (by omega) (by simp); omega)]
  exact tK (by simpa using h) hb fun j c hj hc => hn (j + 1) c (by omega) (by simpa using hc)
theorem wS : ∀ {xs : List Body}, mK xs = 0 → ∀ b ∈ xs, check b = 0
 | [], _, b, hb => by simp at hb
 | a :: l, h, b, hb => by
  unfold mK at h
  by_cases ha : check a = 0
  ·rw [if_neg (by omega)] at h
   rcases List.mem_cons.1 hb with rfl | hb
   ·exact ha
   ·exact wS h b hb
  ·rw [if_pos ha] at h; exact absurd h ha
theorem bCe {xs : List Body} (h : oA xs = 0) : xs.length ≤ 4096 ∧ ∀ b ∈ xs, check b = 0 := by
 unfold oA at h
 split at h
 ·omega
 ·exact ⟨by omega, wS h⟩
theorem bEa {xs : List Body} (hl : xs.length ≤ 4096) (h : ∀ b ∈ xs, check b = 0) : oA xs = 0 := by
 unfold oA
 rw [if_neg (by omega)]
 exact nC fun j c hj => h c (List.mem_of_getElem? hj)
def aGo : List Body → Bool
 | x :: y :: l => decide (x.key < y.key) && aGo (y :: l)
 | _ => true
theorem uQ : ∀ {xs : List Body}, (∀ (i : Nat) (x y : Body), xs[i]? = some x → xs[i + 1]? = some y → x.key < y.key) → aGo xs = true
 | [], _ => rfl
 | [_], _ => rfl
 | x :: y :: l, h => by
  unfold aGo
  rw [Bool.and_eq_true]
  exact ⟨decide_eq_true (h 0 x y (by simp) (by simp)), uQ fun i a b ha hb => h (i + 1) a b (by simpa using ha) (by simpa using hb)⟩
theorem tN : ∀ {xs : List Body}, aGo xs = true → cW xs
 | [], _ => by simp [cW]
 | [_], _ => by simp [cW]
 | x :: y :: l, h => by
  unfold aGo at h
  rw [Bool.and_eq_true, decide_eq_true_eq] at h
  have ih := tN h.2
  refine List.pairwise_cons.2 ⟨fun z hz => ?_, ih⟩
  rcases List.mem_cons.1 hz with rfl | hz
  ·exact h.1
  ·have := (List.pairwise_cons.1 ih).1 z hz; have := h.1; omega
theorem aOj {xs : List Body} (h : cW xs) : aGo xs = true := uQ fun i x y hx hy => by
 have hi := List.getElem?_eq_some_iff.1 hx
 have hj := List.getElem?_eq_some_iff.1 hy
 have := List.pairwise_iff_getElem.1 h i (i + 1) hi.1 hj.1 (by omega)
 rwa [hi.2, hj.2] at this
theorem aCq {xs : List Body} {i : Nat} {x y : Body} (hx : xs[i]? = some x) (hy : xs[i + 1]? = some y) (h : ¬ x.key < y.key) : aGo xs = false := by
 cases e : aGo xs with
 | false => rfl
 | true =>
  exfalso
  have hi := List.getElem?_eq_some_iff.1 hx
  have hj := List.getElem?_eq_some_iff.1 hy
  have := List.pairwise_iff_getElem.1 (tN e) i (i + 1) hi.1 hj.1 (by omega)
  rw [hi.2, hj.2] at this
  exact h this
def iK (xs : List Body) : Int := if oA xs ≠ 0 then oA xs else if aGo xs = true then 0 else 10
instance (m : List Body) : Decidable (jZ m) := by unfold jZ; infer_instance
def aAc (key : Int) : List Body → Nat
 | [] => 0
 | b :: l => (if b.key < key then 1 else 0) + aAc key l
theorem xW {key : Int} : ∀ {xs : List Body} {k : Nat}, k ≤ xs.length → (∀ (j : Nat) (c : Body), j < k → xs[j]? = some c → c.key < key) → (∀ (j : Nat) (c : Body), k ≤ j → xs[j]? = some c → ¬ c.key < key) → aAc key xs = k
 | [], k, hk, _, _ => by simp at hk; simp [aAc, hk]
 | b :: l, 0, _, _, h2 => by
  unfold aAc
  rw [if_neg (h2 0 b (Nat.le_refl _) (by simp)), xW (k := 0) (by omega) (fun j c hj => by omega) (fun j c _ hc => h2 (j + 1) c (by omega) (by simpa using hc))]
 | b :: l, k + 1, hk, h1, h2 => by
  unfold aAc
  rw [if_pos (h1 0 b (by omega) (by simp)), xW (k := k) (by simpa using hk) (fun j c hj hc => h1 (j + 1) c (by omega) (by simpa using hc)) (fun j c hj hc => h2 (j + 1) c (by omega) (by simpa using hc))]
  omega
def hJ (k : Int) : List Value := [.int .u32 k]
end Go.Bil
namespace Go.Bil
theorem aAl {xs : List Body} (h : cW xs) {p q : Nat} {a b : Body} (hpq : p ≤ q) (ha : xs[p]? = some a) (hb : xs[q]? = some b) : a.key ≤ b.key := by
 by_cases e : p = q
 ·subst e
  rw [ha] at hb
  injection hb with hb
  rw [hb]; exact Int.le_refl _
 ·have hi := List.getElem?_eq_some_iff.1 ha
  have hj := List.getElem?_eq_some_iff.1 hb
  have := List.pairwise_iff_getElem.1 h p q hi.1 hj.1 (by omega)
  rw [hi.2, hj.2] at this
  omega
theorem bSk (i j : Nat) : ((i : Int) + (j : Int)).fdiv (2 ^ (min (1 : Int).toNat IntKind.u64.bits)) = (((i + j) / 2 : Nat) : Int) := by
 have e : (2 : Int) ^ (min (1 : Int).toNat IntKind.u64.bits) = 2 := by decide
 rw [e, Int.fdiv_eq_ediv_of_nonneg _ (by omega)]
 omega
theorem tP {a b a' b' : Value} (h1 : a = a') (h2 : b = b') : Value.tuple #[a, b] = Value.tuple #[a', b'] := by rw [h1, h2]
theorem aYc {a b : Int} : oU a b = 0 ↔ a = b := by unfold oU; (repeat' split) <;> omega
theorem aYd {key : Int} {xs : List Body} (hs : cW xs) {i : Nat} {b : Body} (hb : xs[i]? = some b) (h1 : ∀ (j : Nat) (c : Body), j < i → xs[j]? = some c → c.key < key) (h2 : ∀ (j : Nat) (c : Body), i ≤ j → xs[j]? = some c → ¬ c.key < key) : oU b.key key = 0 ↔ 0 ≤ dI key xs := by
 rw [aYc]
 constructor
 ·intro e
  rcases eJ key xs with ⟨_, h⟩ | ⟨_, _, _, _, h⟩
  ·exact absurd e (h b (List.mem_of_getElem? hb))
  ·omega
 ·intro h
  rcases eJ key xs with ⟨h', _⟩ | ⟨j, c, hc, hk, _⟩
  ·omega
  ·have hij : i ≤ j := by
    rcases Nat.lt_or_ge j i with hlt | hge
    ·have := h1 j c hlt hc; omega
    ·exact hge
   have := aAl hs hij hb hc
   have := h2 i b (Nat.le_refl _) hb
   omega
theorem aRm {key : Int} {xs : List Body} (h1 : ∀ (j : Nat) (c : Body), j < xs.length → xs[j]? = some c → c.key < key) : ¬ 0 ≤ dI key xs := by
 intro h
 rcases eJ key xs with ⟨h', _⟩ | ⟨j, c, hc, hk, _⟩
 ·omega
 ·have := h1 j c (List.getElem?_eq_some_iff.1 hc).1 hc
  omega
end Go.Bil
namespace Go.Bil
theorem aZv {α : Type} {xs ys : List α} {n m : Nat} (h1 : xs.length = n) (h2 : ys.length = m) (hnm : n = m) (h : ∀ (j : Nat) (x : α), j < n → xs[j]? = some x → ys[j]? = some x) : xs = ys := by
 apply List.ext_getElem?
 intro j
 by_cases hj : j < xs.length
 ·obtain ⟨x, hx⟩ := cS (k := j) rfl hj
  rw [hx, h j x (by omega) hx]
 ·rw [List.getElem?_eq_none (by omega), List.getElem?_eq_none (by omega)]
end Go.Bil
namespace Go.Bil
end Go.Bil
namespace Go.Bil
theorem aPj (k : Int) : ∀ y ∈ [hJ k], y.length = 1 ∧ ∀ u ∈ y, one u = true := by
 intro y hy
 simp only [List.mem_singleton] at hy
 subst hy
 exact ⟨rfl, aR rfl⟩
end Go.Bil
namespace Go.Bil
structure Mg (xs ys : List Body) (i k : Nat) : Prop where
 sx : cW xs
 sy : cW ys
 yx : ∀ (p : Nat) (a b : Body), p < k → ys[p]? = some a → xs[i]? = some b → a.key < b.key
 xy : ∀ (p : Nat) (a b : Body), p < i → xs[p]? = some a → ys[k]? = some b → a.key < b.key
theorem Mg.swap {xs ys : List Body} {i k : Nat} (h : Mg xs ys i k) : Mg ys xs k i := ⟨h.sy, h.sx, h.xy, h.yx⟩
theorem fG {xs : List Body} (h : cW xs) {p q : Nat} {a b : Body} (hpq : p < q) (ha : xs[p]? = some a) (hb : xs[q]? = some b) : a.key < b.key := by
 have hi := List.getElem?_eq_some_iff.1 ha
 have hj := List.getElem?_eq_some_iff.1 hb
 have := List.pairwise_iff_getElem.1 h p q hi.1 hj.1 hpq
 rwa [hi.2, hj.2] at this
theorem Mg.x {xs ys : List Body} {i k : Nat} {a : Body} (h : Mg xs ys i k) (ha : xs[i]? = some a) (hb : ∀ b, ys[k]? = some b → a.key < b.key) : Mg xs ys (i + 1) k ∧ dI a.key ys < 0 := by
 refine ⟨⟨h.sx, h.sy, fun p y x hp hy hx => ?_, fun p x y hp hx hy => ?_⟩, mQ.2 fun y hy => ?_⟩
 ·have := h.yx p y a hp hy ha
  have := fG h.sx (Nat.lt_succ_self i) ha hx
  omega
 ·by_cases e : p = i
  ·subst e
   rw [ha] at hx
   injection hx with hx
   subst hx
   exact hb y hy
  ·exact h.xy p x y (by omega) hx hy
 ·obtain ⟨q, hq⟩ := List.getElem?_of_mem hy
  rcases Nat.lt_or_ge q k with hlt | hge
  ·have := h.yx q y a hlt hq ha; omega
  ·obtain ⟨b, hbk⟩ := cS (xs := ys) (k := k) rfl (by have := (List.getElem?_eq_some_iff.1 hq).1; omega)
   have h1 := hb b hbk
   have h2 := aAl h.sy hge hbk hq
   omega
theorem Mg.y {xs ys : List Body} {i k : Nat} {b : Body} (h : Mg xs ys i k) (hb : ys[k]? = some b) (ha : ∀ a, xs[i]? = some a → b.key < a.key) : Mg xs ys i (k + 1) ∧ dI b.key xs < 0 := by
 obtain ⟨h1, h2⟩ := h.swap.x hb ha
 exact ⟨h1.swap, h2⟩
theorem Mg.both {xs ys : List Body} {i k : Nat} {a b : Body} (h : Mg xs ys i k) (ha : xs[i]? = some a) (hb : ys[k]? = some b) (hk : a.key = b.key) : Mg xs ys (i + 1) (k + 1) ∧ dI a.key ys = (k : Int) ∧ dI b.key xs = (i : Int) := by
 refine ⟨⟨h.sx, h.sy, fun p y x hp hy hx => ?_, fun p x y hp hx hy => ?_⟩, ?_, ?_⟩
 ·have h1 := fG h.sx (Nat.lt_succ_self i) ha hx
  have h2 := aAl h.sy (show p ≤ k by omega) hy hb
  omega
 ·have h1 := fG h.sy (Nat.lt_succ_self k) hb hy
  have h2 := aAl h.sx (show p ≤ i by omega) hx ha
  omega
 ·exact wR hb hk.symm fun j c hj hc => by have := fG h.sy hj hc hb; omega
 ·exact wR ha hk fun j c hj hc => by have := fG h.sx hj hc ha; omega
end Go.Bil
namespace Go.Bil
end Go.Bil
namespace Go.Bil
end Go.Bil
namespace Go.Bil
end Go.Bil
namespace Go.Bil
end Go.Bil
namespace Go.Bil
end Go.Bil
namespace Go.Bil
end Go.Bil

namespace Go.Bil
theorem aWb {v : List Body} (he : oA v = 0) (hs : cW v) : iK v = 0 := by
 unfold iK
 rw [if_neg (by omega), if_pos (aOj hs)]
end Go.Bil

namespace Go.Bil
structure Bx where
 x0 : Int
 y0 : Int
 x1 : Int
 y1 : Int
 deriving DecidableEq, Inhabited
def eI (a : Bx) : List Value := [.int .i32 a.x0, .int .i32 a.y0, .int .i32 a.x1, .int .i32 a.y1]
def aQt (b : Body) : Int := max b.ax (-b.ax) + b.radius
def aPa (b : Body) : Int := max b.ay (-b.ay) + b.radius
def gJ (b : Body) : Bx := ⟨b.px - aQt b, b.py - aPa b, b.px + aQt b, b.py + aPa b⟩
abbrev jL (a : Bx) : Prop := a.x1 < a.x0 ∨ a.y1 < a.y0
def jO : Bx := ⟨1, 0, 0, 0⟩
def aHq (a b : Bx) : Bx := if jL ⟨max a.x0 b.x0, max a.y0 b.y0, min a.x1 b.x1, min a.y1 b.y1⟩ then jO else ⟨max a.x0 b.x0, max a.y0 b.y0, min a.x1 b.x1, min a.y1 b.y1⟩
abbrev ovl (a b : Bx) : Prop := (a.x0 ≤ a.x1 ∧ a.y0 ≤ a.y1) ∧ (b.x0 ≤ b.x1 ∧ b.y0 ≤ b.y1) ∧ (a.x0 ≤ b.x1 ∧ b.x0 ≤ a.x1 ∧ a.y0 ≤ b.y1 ∧ b.y0 ≤ a.y1)
theorem bDl (a b : Bx) : ¬ jL (aHq a b) ↔ ovl a b := by
 unfold aHq
 split
 ·rename_i h
  unfold jL at h
  simp only [jL, jO, ovl]
  simp only at h
  omega
 ·rename_i h
  unfold jL at h
  simp only [jL, ovl]
  simp only at h
  omega
structure Okb (b : Body) : Prop where
 r : 4096 ≤ b.radius ∧ b.radius ≤ 4194304
 a : -4194304 ≤ b.ax ∧ b.ax ≤ 4194304 ∧ -4194304 ≤ b.ay ∧ b.ay ≤ 4194304
 m : 0 ≤ b.mass ∧ b.mass ≤ 1048576
 c : 0 ≤ b.bounce ∧ b.bounce ≤ 65536
 p : -1073741824 ≤ b.px ∧ b.px ≤ 1073741824 ∧ -1073741824 ≤ b.py ∧ b.py ≤ 1073741824
 v : -16777216 ≤ b.vx ∧ b.vx ≤ 16777216 ∧ -16777216 ≤ b.vy ∧ b.vy ≤ 16777216
theorem aLd {b : Body} (h : check b = 0) : Okb b := by
 by_cases h1 : 4096 ≤ b.radius ∧ b.radius ≤ 4194304
 ·by_cases h2 : -4194304 ≤ b.ax ∧ b.ax ≤ 4194304 ∧ -4194304 ≤ b.ay ∧ b.ay ≤ 4194304
  ·by_cases h3 : 0 ≤ b.mass ∧ b.mass ≤ 1048576
   ·by_cases h4 : 0 ≤ b.bounce ∧ b.bounce ≤ 65536
    ·by_cases h5 : -1073741824 ≤ b.px ∧ b.px ≤ 1073741824 ∧ -1073741824 ≤ b.py ∧ b.py ≤ 1073741824
     ·by_cases h6 : -16777216 ≤ b.vx ∧ b.vx ≤ 16777216 ∧ -16777216 ≤ b.vy ∧ b.vy ≤ 16777216
      ·exact ⟨h1, h2, h3, h4, h5, h6⟩
      ·rw [aTq b h1 h2 h3 h4 h5 h6] at h; omega
     ·rw [aUk b h1 h2 h3 h4 h5] at h; omega
    ·rw [aUd b h1 h2 h3 h4] at h; omega
   ·rw [aUr b h1 h2 h3] at h; omega
  ·rw [aSs b h1 h2] at h; omega
 ·rw [aUt b h1] at h; omega
theorem bAc {b : Body} (h : Okb b) : 4096 ≤ aQt b ∧ aQt b ≤ 8388608 ∧ 4096 ≤ aPa b ∧ aPa b ≤ 8388608 := by
 have := h.r
 have := h.a
 unfold aQt aPa
 omega
structure Okx (a : Bx) : Prop where
 x0 : -2147483648 ≤ a.x0 ∧ a.x0 ≤ 2147483647
 y0 : -2147483648 ≤ a.y0 ∧ a.y0 ≤ 2147483647
 x1 : -2147483648 ≤ a.x1 ∧ a.x1 ≤ 2147483647
 y1 : -2147483648 ≤ a.y1 ∧ a.y1 ≤ 2147483647
theorem bPl {b : Body} (h : Okb b) : Okx (gJ b) := by
 have h1 := bAc h
 have h2 := h.p
 constructor <;> simp only [gJ] <;> omega
end Go.Bil

namespace Go.Bil
def dP (c : Int × Int) : List Value := [.int .i32 c.1, .int .i32 c.2]
def oR (x : Int) : Int := x.fdiv 4194304
theorem bJl (x : Int) : x.fdiv (2 ^ (min (22 : Int).toNat IntKind.i32.bits)) = oR x := rfl
theorem aJz (x : Int) : oR x = x / 4194304 := by unfold oR; exact Int.fdiv_eq_ediv_of_nonneg x (by decide)
theorem rN {x : Int} (h0 : -2147483648 ≤ x) (h1 : x ≤ 2147483647) : -512 ≤ oR x ∧ oR x ≤ 511 := by rw [aJz]; omega
theorem lQ {x y : Int} (h : x ≤ y) : oR x ≤ oR y := by rw [aJz, aJz]; omega
def loC (a : Bx) : Int × Int := if jL a then (0, 0) else (oR a.x0, oR a.y0)
def hiC (a : Bx) : Int × Int := if jL a then (0, 0) else (oR a.x1, oR a.y1)
def nX (lo hi : Int × Int) : Nat := (hi.1 - lo.1 + 1).toNat
def nY (lo hi : Int × Int) : Nat := (hi.2 - lo.2 + 1).toNat
def aCz (lo : Int × Int) (i j : Nat) : List (Int × Int) := (List.range i).map (fun (p : Nat) => (lo.1 + (p : Int), lo.2 + (j : Int)))
def pH (lo hi : Int × Int) (j : Nat) : List (Int × Int) := (List.range j).flatMap (fun q => aCz lo (nX lo hi) q)
def zP (ok : Bool) (lo hi : Int × Int) : List (Int × Int) := if ok then pH lo hi (nY lo hi) else []
def jE (a : Bx) : List (Int × Int) := zP (decide (¬ jL a)) (loC a) (hiC a)
theorem aOc (lo : Int × Int) (i j : Nat) : (aCz lo i j).length = i := by simp [aCz]
theorem aWm (lo : Int × Int) (i j : Nat) : aCz lo (i + 1) j = aCz lo i j ++ [(lo.1 + (i : Int), lo.2 + (j : Int))] := by simp [aCz, List.range_succ]
theorem aDa (lo hi : Int × Int) (j : Nat) : pH lo hi (j + 1) = pH lo hi j ++ aCz lo (nX lo hi) j := by simp [pH, List.range_succ]
theorem zF (lo hi : Int × Int) : ∀ j, (pH lo hi j).length = j * nX lo hi
 | 0 => by simp [pH]
 | j + 1 => by rw [aDa, List.length_append, zF lo hi j, aOc, Nat.add_mul, Nat.one_mul]
theorem bAh {lo hi : Int × Int} {i j : Nat} (hx : nX lo hi ≤ 1024) (hj : j < 1024) (hi' : i < nX lo hi) : (pH lo hi j).length + i < 1048576 := by
 rw [zF]
 have : j * nX lo hi ≤ 1023 * 1024 := Nat.mul_le_mul (by omega) hx
 omega
theorem bBm {lo hi : Int × Int} {j : Nat} (hx : nX lo hi ≤ 1024) (hj : j ≤ 1024) : (pH lo hi j).length ≤ 1048576 := by
 rw [zF]
 exact Nat.mul_le_mul hj hx
theorem aXg {lo hi : Int × Int} {n : Nat} {c : Int × Int} : c ∈ pH lo hi n ↔ ∃ q p : Nat, q < n ∧ p < nX lo hi ∧ c = (lo.1 + (p : Int), lo.2 + (q : Int)) := by
 simp only [pH, aCz, List.mem_flatMap, List.mem_range, List.mem_map]
 constructor
 ·rintro ⟨q, hq, p, hp, rfl⟩; exact ⟨q, p, hq, hp, rfl⟩
 ·rintro ⟨q, p, hq, hp, rfl⟩; exact ⟨q, hq, p, hp, rfl⟩
theorem aEb {a : Bx} {c : Int × Int} : c ∈ jE a ↔ ¬ jL a ∧ oR a.x0 ≤ c.1 ∧ c.1 ≤ oR a.x1 ∧ oR a.y0 ≤ c.2 ∧ c.2 ≤ oR a.y1 := by
 unfold jE zP
 by_cases h : jL a
 ·simp [h]
 ·rw [if_pos (by simpa using h), aXg]
  simp only [loC, hiC, if_neg h, nX, nY]
  constructor
  ·rintro ⟨q, p, hq, hp, rfl⟩
   refine ⟨h, ?_⟩
   simp only
   omega
  ·rintro ⟨_, h1, h2, h3, h4⟩
   refine ⟨(c.2 - oR a.y0).toNat, (c.1 - oR a.x0).toNat, by omega, by omega, ?_⟩
   apply Prod.ext <;> simp only <;> omega
structure Okc (c : Int × Int) : Prop where
 x : -512 ≤ c.1 ∧ c.1 ≤ 511
 y : -512 ≤ c.2 ∧ c.2 ≤ 511
theorem aRr {a : Bx} (h : Okx a) : Okc (loC a) := by
 unfold loC
 split
 ·exact ⟨by decide, by decide⟩
 ·exact ⟨rN h.x0.1 h.x0.2, rN h.y0.1 h.y0.2⟩
theorem aQh {a : Bx} (h : Okx a) : Okc (hiC a) := by
 unfold hiC
 split
 ·exact ⟨by decide, by decide⟩
 ·exact ⟨rN h.x1.1 h.x1.2, rN h.y1.1 h.y1.2⟩
theorem bKb {lo hi : Int × Int} (h1 : Okc lo) (h2 : Okc hi) : nX lo hi ≤ 1024 := by
 have := h1.x; have := h2.x
 unfold nX
 omega
theorem bIz {lo hi : Int × Int} (h1 : Okc lo) (h2 : Okc hi) : nY lo hi ≤ 1024 := by
 have := h1.y; have := h2.y
 unfold nY
 omega
theorem aQy {a : Bx} (h : Okx a) : (jE a).length ≤ 1048576 := by
 unfold jE zP
 split
 ·exact bBm (bKb (aRr h) (aQh h)) (bIz (aRr h) (aQh h))
 ·simp
theorem aZh {a b : Bx} (h : ovl a b) : ∃ c, c ∈ jE a ∧ c ∈ jE b := by
 obtain ⟨⟨h1, h2⟩, ⟨h3, h4⟩, h5, h6, h7, h8⟩ := h
 refine ⟨(oR (max a.x0 b.x0), oR (max a.y0 b.y0)), aEb.2 ⟨by unfold jL; omega, ?_⟩, aEb.2 ⟨by unfold jL; omega, ?_⟩⟩
 ·exact ⟨lQ (by omega), lQ (by omega), lQ (by omega), lQ (by omega)⟩
 ·exact ⟨lQ (by omega), lQ (by omega), lQ (by omega), lQ (by omega)⟩
def uH (c : Int × Int) : Int :=
 IntKind.u32.wrap ((BitVec.ofInt 32 (IntKind.u32.wrap ((BitVec.ofInt 32 (IntKind.u32.wrap (IntKind.u32.wrap c.1 * 73856093)) ^^^ BitVec.ofInt 32 (IntKind.u32.wrap (IntKind.u32.wrap c.2 * 19349663))).toNat)) &&& BitVec.ofInt 32 1023).toNat)
def fC (c : Int × Int) : Nat := (uH c).toNat
theorem nA (c : Int × Int) : 0 ≤ uH c ∧ uH c < 1024 := by
 unfold uH
 generalize BitVec.ofInt 32 (IntKind.u32.wrap _) = a
 have h : (a &&& BitVec.ofInt 32 1023).toNat ≤ 1023 := by
  rw [BitVec.toNat_and]
  exact Nat.le_trans Nat.and_le_right (by decide)
 rw [aFb _ (by omega) (by omega)]
 omega
theorem lO (c : Int × Int) : fC c < 1024 := by have := nA c; unfold fC; omega
theorem aYi (c : Int × Int) : uH c = (fC c : Int) := by have := nA c; unfold fC; omega
end Go.Bil

namespace Go.Bil
def cU (n : Int) : List Int := [n / 16777216 % 256, n / 65536 % 256, n / 256 % 256, n % 256]
def aTj (b : Body) : List Int := [b.key, b.radius, b.ax, b.ay, b.mass, b.bounce, b.px, b.py, b.vx, b.vy]
def mM (b : Body) : List Int := (aTj b).flatMap cU
def lL : List Int := [66, 73, 76, 49]
def oG (v : List Body) : List Int := lL ++ cU (v.length : Int) ++ v.flatMap mM
def eG (l : List Int) (a : Nat) : Int := ((l.getD a 0 * 256 + l.getD (a + 1) 0) * 256 + l.getD (a + 2) 0) * 256 + l.getD (a + 3) 0
def kA (n : Int) : Int := if 2147483648 ≤ n then n - 4294967296 else n
def lK (l : List Int) (a : Nat) : Body := ⟨eG l a, kA (eG l (a + 4)), kA (eG l (a + 8)), kA (eG l (a + 12)), kA (eG l (a + 16)), kA (eG l (a + 20)), kA (eG l (a + 24)), kA (eG l (a + 28)), kA (eG l (a + 32)), kA (eG l (a + 36))⟩
abbrev zX (l : List Int) : Prop := 8 ≤ l.length ∧ l.take 4 = lL ∧ (l.length : Int) = 8 + 40 * eG l 4
def nZ (l : List Int) (n : Nat) : List Body := (List.range n).map (fun i => lK l (8 + 40 * i))
def mN (l : List Int) : List Body × Int := if ¬ zX l then ([], 13) else if iK (nZ l (eG l 4).toNat) ≠ 0 then ([], iK (nZ l (eG l 4).toNat)) else (nZ l (eG l 4).toNat, 0)
abbrev jH (l : List Int) : Prop := ∀ x ∈ l, 0 ≤ x ∧ x ≤ 255
theorem oI (n : Int) : (cU n).length = 4 := rfl
theorem bEv (b : Body) : (mM b).length = 40 := rfl
theorem aNd (v : List Body) : (v.flatMap mM).length = 40 * v.length := by
 induction v with
 | nil => rfl
 | cons b v ih => rw [List.flatMap_cons, List.length_append, ih, bEv, List.length_cons]; omega
theorem aMo (v : List Body) : (oG v).length = 8 + 40 * v.length := by
 unfold oG
 rw [List.length_append, List.length_append, aNd, oI]
 rfl
theorem aCv (n : Int) : jH (cU n) := fun x hx => by
 simp only [cU, List.mem_cons, List.not_mem_nil, or_false] at hx
 rcases hx with rfl | rfl | rfl | rfl <;> omega
theorem aYo (b : Body) : jH (mM b) := fun x hx => by
 obtain ⟨n, _, h⟩ := List.mem_flatMap.1 hx
 exact aCv n x h
theorem aYj (v : List Body) : jH (oG v) := fun x hx => by
 unfold oG at hx
 rcases List.mem_append.1 hx with h | h
 ·rcases List.mem_append.1 h with h | h
  ·simp only [lL, List.mem_cons, List.not_mem_nil, or_false] at h
   rcases h with rfl | rfl | rfl | rfl <;> omega
  ·exact aCv _ x h
 ·obtain ⟨b, _, h⟩ := List.mem_flatMap.1 h
  exact aYo b x h
theorem uM (n : Int) : cU (n % 4294967296) = cU n := by
 unfold cU
 have h1 : n % 4294967296 / 16777216 % 256 = n / 16777216 % 256 := by omega
 have h2 : n % 4294967296 / 65536 % 256 = n / 65536 % 256 := by omega
 have h3 : n % 4294967296 / 256 % 256 = n / 256 % 256 := by omega
 have h4 : n % 4294967296 % 256 = n % 256 := by omega
 rw [h1, h2, h3, h4]
theorem aWz (n : Int) : cU (kA n) = cU n := by
 unfold kA
 split
 ·rw [← uM (n - 4294967296), ← uM n]
  congr 1
  omega
 ·rfl
theorem wL {A L B : List Int} {a : Nat} (ha : A.length = a) {j : Nat} (hj : j < L.length) : (A ++ (L ++ B)).getD (a + j) 0 = L.getD j 0 := by
 subst ha
 rw [List.getD_eq_getElem?_getD, List.getD_eq_getElem?_getD, List.getElem?_append_right (by omega), List.getElem?_append_left (by omega)]
 congr 2
 omega
theorem aGz {A B : List Int} {a : Nat} (ha : A.length = a) (n : Int) : eG (A ++ (cU n ++ B)) a = n % 4294967296 := by
 have h0 : (A ++ (cU n ++ B)).getD a 0 = n / 16777216 % 256 := wL (j := 0) ha (by rw [oI]; omega)
 have h1 : (A ++ (cU n ++ B)).getD (a + 1) 0 = n / 65536 % 256 := wL (j := 1) ha (by rw [oI]; omega)
 have h2 : (A ++ (cU n ++ B)).getD (a + 2) 0 = n / 256 % 256 := wL (j := 2) ha (by rw [oI]; omega)
 have h3 : (A ++ (cU n ++ B)).getD (a + 3) 0 = n % 256 := wL (j := 3) ha (by rw [oI]; omega)
 unfold eG
 rw [h0, h1, h2, h3]
 omega
theorem bHy {A B L : List Int} {a k : Nat} {n : Int} (ha : A.length = a) {P Q : List Int} (hL : L = P ++ (cU n ++ Q)) (hP : P.length = k) : eG (A ++ (L ++ B)) (a + k) = n % 4294967296 := by
 have e : A ++ (L ++ B) = (A ++ P) ++ (cU n ++ (Q ++ B)) := by rw [hL]; simp only [List.append_assoc]
 rw [e]
 exact aGz (by rw [List.length_append, ha, hP]) n
theorem oH {n : Int} (h : -2147483648 ≤ n ∧ n ≤ 2147483647) : kA (n % 4294967296) = n := by unfold kA; split <;> omega
theorem aOv {A B : List Int} {a : Nat} (ha : A.length = a) {b : Body} (h : InB b) : lK (A ++ (mM b ++ B)) a = b := by
 have e : mM b = cU b.key ++ (cU b.radius ++ (cU b.ax ++ (cU b.ay ++ (cU b.mass ++ (cU b.bounce ++ (cU b.px ++ (cU b.py ++ (cU b.vx ++ (cU b.vy ++ []))))))))) := rfl
 have f (k : Nat) (n : Int) (P Q : List Int) (hL : mM b = P ++ (cU n ++ Q)) (hP : P.length = k) : eG (A ++ (mM b ++ B)) (a + k) = n % 4294967296 := bHy ha hL hP
 have f0 := f 0 b.key [] _ rfl rfl
 have f1 := f 4 b.radius (cU b.key) _ rfl rfl
 have f2 := f 8 b.ax (cU b.key ++ cU b.radius) _ rfl rfl
 have f3 := f 12 b.ay (cU b.key ++ cU b.radius ++ cU b.ax) _ rfl rfl
 have f4 := f 16 b.mass (cU b.key ++ cU b.radius ++ cU b.ax ++ cU b.ay) _ rfl rfl
 have f5 := f 20 b.bounce (cU b.key ++ cU b.radius ++ cU b.ax ++ cU b.ay ++ cU b.mass) _ rfl rfl
 have f6 := f 24 b.px (cU b.key ++ cU b.radius ++ cU b.ax ++ cU b.ay ++ cU b.mass ++ cU b.bounce) _ rfl rfl
 have f7 := f 28 b.py (cU b.key ++ cU b.radius ++ cU b.ax ++ cU b.ay ++ cU b.mass ++ cU b.bounce ++ cU b.px) _ rfl rfl
 have f8 := f 32 b.vx (cU b.key ++ cU b.radius ++ cU b.ax ++ cU b.ay ++ cU b.mass ++ cU b.bounce ++ cU b.px ++ cU b.py) _ rfl rfl
 have f9 := f 36 b.vy (cU b.key ++ cU b.radius ++ cU b.ax ++ cU b.ay ++ cU b.mass ++ cU b.bounce ++ cU b.px ++ cU b.py ++ cU b.vx) [] rfl rfl
 rw [Nat.add_zero] at f0
 obtain ⟨h0, h1, h2, h3, h4, h5, h6, h7, h8, h9⟩ := h
 unfold lK
 rw [f0, f1, f2, f3, f4, f5, f6, f7, f8, f9, oH (by omega), oH (by omega), oH (by omega), oH (by omega), oH (by omega), oH (by omega), oH (by omega), oH (by omega), oH (by omega), Int.emod_eq_of_lt (by omega) (by omega)]
theorem aQk {v : List Body} {i : Nat} {b : Body} (h : v[i]? = some b) : oG v = (lL ++ cU (v.length : Int) ++ (v.take i).flatMap mM) ++ (mM b ++ (v.drop (i + 1)).flatMap mM) := by
 have hi := List.getElem?_eq_some_iff.1 h
 have e : v.flatMap mM = (v.take i).flatMap mM ++ (mM b ++ (v.drop (i + 1)).flatMap mM) := by
  conv => lhs; rw [← List.take_append_drop i v, List.drop_eq_getElem_cons hi.1, hi.2]
  rw [List.flatMap_append, List.flatMap_cons]
 unfold oG
 rw [e]
 simp only [List.append_assoc]
theorem aOf {v : List Body} {i : Nat} {b : Body} (h : v[i]? = some b) (hb : InB b) : lK (oG v) (8 + 40 * i) = b := by
 rw [aQk h]
 refine aOv ?_ hb
 have hi := (List.getElem?_eq_some_iff.1 h).1
 rw [List.length_append, List.length_append, aNd, List.length_take, oI, Nat.min_eq_left (by omega)]
 rfl
theorem aIk (v : List Body) (h : v.length < 4294967296) : eG (oG v) 4 = (v.length : Int) := by
 have e : oG v = lL ++ (cU (v.length : Int) ++ v.flatMap mM) := by unfold oG; rw [List.append_assoc]
 rw [e, aGz (A := lL) (a := 4) rfl]
 omega
theorem bDd {v : List Body} (hb : ∀ b ∈ v, InB b) : nZ (oG v) v.length = v := by
 refine List.ext_getElem? fun i => ?_
 unfold nZ
 rw [List.getElem?_map]
 by_cases hi : i < v.length
 ·have hv := List.getElem?_eq_getElem hi
  rw [List.getElem?_range hi, hv]
  show some (lK (oG v) (8 + 40 * i)) = some v[i]
  rw [aOf hv (hb _ (List.getElem_mem hi))]
 ·rw [List.getElem?_eq_none (by omega : v.length ≤ i), List.getElem?_eq_none (by rw [List.length_range]; omega)]
  rfl
theorem bDi (v : List Body) (h : v.length ≤ 4096) : zX (oG v) := by
 have hl := aMo v
 refine ⟨by omega, rfl, ?_⟩
 rw [aIk v (by omega), hl]
 omega
theorem bAg {v : List Body} (hb : ∀ b ∈ v, InB b) (hl : v.length ≤ 4096) (hc : iK v = 0) : mN (oG v) = (v, 0) := by
 unfold mN
 rw [if_neg (Decidable.not_not.2 (bDi v hl)), aIk v (by omega), Int.toNat_natCast, bDd hb, if_neg (by omega)]
theorem mD {l : List Int} (hl : jH l) {a : Nat} (h : a + 4 ≤ l.length) : 0 ≤ eG l a ∧ eG l a ≤ 4294967295 ∧ cU (eG l a) = (l.drop a).take 4 := by
 have g (j : Nat) (hj : j < l.length) : l[j]? = some (l.getD j 0) ∧ 0 ≤ l.getD j 0 ∧ l.getD j 0 ≤ 255 := by
  rw [List.getD_eq_getElem?_getD, List.getElem?_eq_getElem hj]
  have hb := hl _ (List.getElem_mem hj)
  exact ⟨rfl, hb.1, hb.2⟩
 obtain ⟨g0, g1, g2⟩ := g a (by omega)
 obtain ⟨g3, g4, g5⟩ := g (a + 1) (by omega)
 obtain ⟨g6, g7, g8⟩ := g (a + 2) (by omega)
 obtain ⟨g9, ga, gb⟩ := g (a + 3) (by omega)
 have e : (l.drop a).take 4 = [l.getD a 0, l.getD (a + 1) 0, l.getD (a + 2) 0, l.getD (a + 3) 0] := by
  have hlen : ((l.drop a).take 4).length = 4 := by rw [List.length_take, List.length_drop]; omega
  refine List.ext_getElem? fun j => ?_
  rcases (show j = 0 ∨ j = 1 ∨ j = 2 ∨ j = 3 ∨ 4 ≤ j by omega) with rfl | rfl | rfl | rfl | hj
  ·rw [List.getElem?_take_of_lt (by omega), List.getElem?_drop]; simpa using g0
  ·rw [List.getElem?_take_of_lt (by omega), List.getElem?_drop]; simpa using g3
  ·rw [List.getElem?_take_of_lt (by omega), List.getElem?_drop]; simpa using g6
  ·rw [List.getElem?_take_of_lt (by omega), List.getElem?_drop]; simpa using g9
  ·rw [List.getElem?_eq_none (by omega), List.getElem?_eq_none (by simpa using hj)]
 rw [e]
 unfold eG cU
 generalize l.getD a 0 = p at *
 generalize l.getD (a + 1) 0 = q at *
 generalize l.getD (a + 2) 0 = r at *
 generalize l.getD (a + 3) 0 = s at *
 refine ⟨by omega, by omega, ?_⟩
 have h1 : (((p * 256 + q) * 256 + r) * 256 + s) / 16777216 % 256 = p := by omega
 have h2 : (((p * 256 + q) * 256 + r) * 256 + s) / 65536 % 256 = q := by omega
 have h3 : (((p * 256 + q) * 256 + r) * 256 + s) / 256 % 256 = r := by omega
 have h4 : (((p * 256 + q) * 256 + r) * 256 + s) % 256 = s := by omega
 rw [h1, h2, h3, h4]
theorem aOy (l : List Int) (k : Nat) : ∀ n, (List.range n).flatMap (fun i => (l.drop (k * i)).take k) = l.take (k * n)
 | 0 => by simp
 | n + 1 => by
  rw [List.range_succ, List.flatMap_append, aOy l k n, List.flatMap_cons, List.flatMap_nil, List.append_nil, Nat.mul_succ, List.take_add]
theorem nF {n : Int} (h : 0 ≤ n ∧ n ≤ 4294967295) : -2147483648 ≤ kA n ∧ kA n ≤ 2147483647 := by unfold kA; split <;> omega
theorem aVs {l : List Int} (hl : jH l) {a : Nat} (h : a + 40 ≤ l.length) : InB (lK l a) := by
 have f (k : Nat) (hk : k ≤ 36) : 0 ≤ eG l (a + k) ∧ eG l (a + k) ≤ 4294967295 := by
  have := mD hl (a := a + k) (by omega)
  exact ⟨this.1, this.2.1⟩
 exact ⟨f 0 (by omega), nF (f 4 (by omega)), nF (f 8 (by omega)), nF (f 12 (by omega)), nF (f 16 (by omega)), nF (f 20 (by omega)), nF (f 24 (by omega)), nF (f 28 (by omega)), nF (f 32 (by omega)), nF (f 36 (by omega))⟩
theorem bGy {l : List Int} (hl : jH l) {a : Nat} (h : a + 40 ≤ l.length) : mM (lK l a) = (l.drop a).take 40 := by
 have f (k : Nat) (hk : k ≤ 36) : cU (eG l (a + k)) = ((l.drop a).drop k).take 4 := by rw [List.drop_drop]; exact (mD hl (a := a + k) (by omega)).2.2
 have e := aOy (l.drop a) 4 10
 rw [← e]
 unfold mM aTj lK
 simp only [List.flatMap_cons, List.flatMap_nil, aWz]
 have f0 := f 0 (by omega)
 rw [Nat.add_zero] at f0
 rw [f0, f 4 (by omega), f 8 (by omega), f 12 (by omega), f 16 (by omega), f 20 (by omega), f 24 (by omega), f 28 (by omega), f 32 (by omega), f 36 (by omega)]
 rfl
theorem wK (l : List Int) (n : Nat) : (nZ l n).length = n := by unfold nZ; rw [List.length_map, List.length_range]
theorem aGf {α β : Type} {l : List α} {f g : α → List β} (h : ∀ x ∈ l, f x = g x) : l.flatMap f = l.flatMap g := by
 induction l with
 | nil => rfl
 | cons x l ih => rw [List.flatMap_cons, List.flatMap_cons, h x (by simp), ih fun y hy => h y (by simp [hy])]
theorem bBw {l : List Int} (hl : jH l) {n : Nat} (h : l.length = 8 + 40 * n) : (nZ l n).flatMap mM = l.drop 8 := by
 unfold nZ
 rw [List.flatMap_map, aGf (g := fun i => ((l.drop 8).drop (40 * i)).take 40) (fun i hi => by
  have := List.mem_range.1 hi
  rw [List.drop_drop]
  exact bGy hl (by omega)), aOy, List.take_of_length_le (by rw [List.length_drop]; omega)]
structure DecOk (l : List Int) (v : List Body) : Prop where
 n : l.length = 8 + 40 * v.length
 e : oG v = l
 inb : ∀ b ∈ v, InB b
 c : iK v = 0
theorem bHj {l : List Int} (hl : jH l) (h : (mN l).2 = 0) : DecOk l (mN l).1 := by
 unfold mN at h ⊢
 by_cases hf : zX l
 ·rw [if_neg (Decidable.not_not.2 hf)] at h ⊢
  by_cases hc : iK (nZ l (eG l 4).toNat) = 0
  ·rw [if_neg (by omega)]
   obtain ⟨h8, hm, hn⟩ := hf
   have hr := mD hl (a := 4) (by omega)
   have hlen : l.length = 8 + 40 * (eG l 4).toNat := by omega
   show DecOk l (nZ l (eG l 4).toNat)
   refine ⟨by rw [wK]; exact hlen, ?_, ?_, hc⟩
   ·unfold oG
    rw [bBw hl hlen, wK, show (((eG l 4).toNat : Nat) : Int) = eG l 4 by omega, hr.2.2, ← hm, ← List.take_add, List.take_append_drop]
   ·intro b hb
    unfold nZ at hb
    obtain ⟨i, hi, rfl⟩ := List.mem_map.1 hb
    have := List.mem_range.1 hi
    exact aVs hl (by omega)
  ·rw [if_pos hc] at h
   exact absurd h hc
 ·rw [if_pos hf] at h
  cases h
def aAr (b : Body) : List Int := [b.key, b.radius % 4294967296, b.ax % 4294967296, b.ay % 4294967296, b.mass % 4294967296, b.bounce % 4294967296, b.px % 4294967296, b.py % 4294967296, b.vx % 4294967296, b.vy % 4294967296]
theorem aWf (b : Body) : (aAr b).flatMap cU = mM b := by
 unfold aAr mM aTj
 simp only [List.flatMap_cons, List.flatMap_nil, uM]
theorem aVj {b : Body} (h : InB b) : ∀ x ∈ aAr b, 0 ≤ x ∧ x ≤ 4294967295 := by
 obtain ⟨h0, _⟩ := h
 intro x hx
 simp only [aAr, List.mem_cons, List.not_mem_nil, or_false] at hx
 rcases hx with rfl | rfl | rfl | rfl | rfl | rfl | rfl | rfl | rfl | rfl <;> omega
theorem aXc {L : List Int} {j : Nat} {x : Int} (h : L[j]? = some x) : (L.take (j + 1)).flatMap cU = (L.take j).flatMap cU ++ cU x := by
 rw [cP h, List.flatMap_append, List.flatMap_cons, List.flatMap_nil, List.append_nil]
theorem aIh {v : List Body} {j : Nat} {x : Body} (h : v[j]? = some x) : (v.take (j + 1)).flatMap mM = (v.take j).flatMap mM ++ mM x := by
 rw [cP h, List.flatMap_append, List.flatMap_cons, List.flatMap_nil, List.append_nil]
theorem fM {l : List Int} {a m : Nat} (h : 4 ≤ m) : eG ((l.drop a).take m) 0 = eG l a := by
 have g (j : Nat) (hj : j < m) : ((l.drop a).take m).getD j 0 = l.getD (a + j) 0 := by
  rw [List.getD_eq_getElem?_getD, List.getD_eq_getElem?_getD, List.getElem?_take_of_lt hj, List.getElem?_drop]
 unfold eG
 rw [g 0 (by omega), g (0 + 1) (by omega), g (0 + 2) (by omega), g (0 + 3) (by omega)]
 rfl
theorem aHk (l : List Int) (k : Nat) : nZ l (k + 1) = nZ l k ++ [lK l (8 + 40 * k)] := by unfold nZ; rw [List.range_succ, List.map_append]; rfl
theorem jH.sub {l : List Int} (h : jH l) (a m : Nat) : jH ((l.drop a).take m) := fun x hx => h x (List.mem_of_mem_drop (List.mem_of_mem_take hx))
end Go.Bil
namespace Go.Bil
theorem uL {l : List Int} (h : ¬ zX l) : mN l = ([], 13) := by unfold mN; rw [if_pos h]
theorem aSw {l : List Int} {N : Nat} (h : zX l) (hN : eG l 4 = (N : Int)) (hc : iK (nZ l N) ≠ 0) : mN l = ([], iK (nZ l N)) := by
 unfold mN; rw [if_neg (Decidable.not_not.2 h), hN, Int.toNat_natCast, if_pos hc]
theorem aLt {l : List Int} {N : Nat} (h : zX l) (hN : eG l 4 = (N : Int)) (hc : iK (nZ l N) = 0) : mN l = (nZ l N, 0) := by
 unfold mN; rw [if_neg (Decidable.not_not.2 h), hN, Int.toNat_natCast, if_neg (by omega)]
theorem bQc {l : List Int} (hl : jH l) {a : Nat} (h : a + 40 ≤ l.length) : ∀ x ∈ ([eG l a, eG l (a + 4), eG l (a + 8), eG l (a + 12), eG l (a + 16), eG l (a + 20), eG l (a + 24), eG l (a + 28), eG l (a + 32), eG l (a + 36)] : List Int), 0 ≤ x ∧ x ≤ 4294967295 := by
 have f (k : Nat) (hk : k ≤ 36) : 0 ≤ eG l (a + k) ∧ eG l (a + k) ≤ 4294967295 := by
  have := mD hl (a := a + k) (by omega)
  exact ⟨this.1, this.2.1⟩
 intro x hx
 simp only [List.mem_cons, List.not_mem_nil, or_false] at hx
 rcases hx with rfl | rfl | rfl | rfl | rfl | rfl | rfl | rfl | rfl | rfl
 ·exact f 0 (by omega)
 ·exact f 4 (by omega)
 ·exact f 8 (by omega)
 ·exact f 12 (by omega)
 ·exact f 16 (by omega)
 ·exact f 20 (by omega)
 ·exact f 24 (by omega)
 ·exact f 28 (by omega)
 ·exact f 32 (by omega)
 ·exact f 36 (by omega)
theorem pR : lL = ([66, 73, 76, 49] : List UInt8).map (fun y => (y.toNat : Int)) := by decide
end Go.Bil
