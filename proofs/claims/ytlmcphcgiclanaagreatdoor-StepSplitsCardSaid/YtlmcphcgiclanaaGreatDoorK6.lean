/- Part of the proof of the laws of this seat: Md4, Md5, Md7, Md8, MdB, MdC. No conditions. -/
import Derived.Test.YtlmcphcgiclanaaGreatDoorK4
import Derived.Test.YtlmcphcgiclanaaGreatDoorK3
set_option linter.unusedVariables false
set_option linter.unusedSimpArgs false
set_option linter.unnecessarySimpa false
namespace Go.Bil
def bM (s : List Body) : Prop := s.Pairwise (fun a b => a.key < b.key)
def lO (k : Int) (s : List Body) : List Body := s.filter (fun x => decide (x.key ≠ k))
def oM (b : Body) : Bool → List Body → List Body
  | true, s => lO b.key s
  | false, [] => [b]
  | false, x :: l => if b.key ≤ x.key then b :: lO b.key (x :: l) else x :: oM b false l
def aUl (b : Body) (r : List Body × Bool) : List Body := if r.2 then r.1 else r.1 ++ [b]
theorem lX (b : Body) : ∀ (s acc : List Body) (d : Bool), aUl b (s.foldl (dE b) (acc, d)) = acc ++ oM b d s
  | [], acc, true => by simp [oM, lO, aUl]
  | [], acc, false => by simp [oM, aUl]
  | x :: l, acc, true => by
    have ih := lX b l (if x.key ≠ b.key then acc ++ [x] else acc) true
    rw [List.foldl_cons]
    have e : dE b (acc, true) x = (if x.key ≠ b.key then acc ++ [x] else acc, true) := by unfold dE; by_cases h : x.key = b.key <;> simp [h]
    rw [e, ih]
    by_cases h : x.key = b.key <;> simp [oM, lO, h]
  | x :: l, acc, false => by
    rw [List.foldl_cons]
    by_cases hb : b.key ≤ x.key
    · have ih := lX b l (if x.key ≠ b.key then acc ++ [b] ++ [x] else acc ++ [b]) true
      have e : dE b (acc, false) x = (if x.key ≠ b.key then acc ++ [b] ++ [x] else acc ++ [b], true) := by unfold dE; by_cases h : x.key = b.key <;> simp [h, hb]
      rw [e, ih]
      by_cases h : x.key = b.key <;> simp [oM, lO, h, hb]
    · have hne : x.key ≠ b.key := by omega
      have ih := lX b l (acc ++ [x]) false
      have e : dE b (acc, false) x = (acc ++ [x], false) := by unfold dE; simp [hb, hne]
      rw [e, ih]
      simp [oM, hb]
theorem aFy (s : List Body) (b : Body) (g : Bool) : xV s b g = oM b g s := by
  have := lX b s [] g
  rw [List.nil_append] at this
  exact this
theorem nB (b : Body) : ∀ s : List Body, (oM b false s).Perm (b :: lO b.key s)
  | [] => by simp [oM, lO]
  | x :: l => by
    unfold oM
    split
    · exact List.Perm.refl _
    · rename_i h
      have hne : x.key ≠ b.key := by omega
      have e : lO b.key (x :: l) = x :: lO b.key l := by simp [lO, hne]
      rw [e]
      exact ((nB b l).cons x).trans (List.Perm.swap b x _)
theorem zS {k : Int} {s : List Body} {x : Body} : x ∈ lO k s ↔ x ∈ s ∧ x.key ≠ k := by simp [lO]
theorem bM.cut {s : List Body} (h : bM s) (k : Int) : bM (lO k s) := List.Pairwise.sublist List.filter_sublist h
theorem bM.put {b : Body} : ∀ {s : List Body}, bM s → bM (oM b false s)
  | [], _ => by simp [oM, bM]
  | x :: l, h => by
    unfold oM
    have hx : ∀ y ∈ l, x.key < y.key := (List.pairwise_cons.1 h).1
    have hl : bM l := (List.pairwise_cons.1 h).2
    split
    · rename_i hb
      refine List.pairwise_cons.2 ⟨fun y hy => ?_, h.cut _⟩
      obtain ⟨h1, h2⟩ := zS.1 hy
      rcases List.mem_cons.1 h1 with rfl | h1
      · omega
      · have := hx y h1; omega
    · rename_i hb
      refine List.pairwise_cons.2 ⟨fun y hy => ?_, bM.put hl⟩
      have := (nB b l).mem_iff.1 hy
      rcases List.mem_cons.1 this with rfl | h1
      · omega
      · exact hx y (zS.1 h1).1
theorem aJs (s : List Body) (b : Body) (g : Bool) : (xV s b g).length ≤ s.length + 1 := by
  rw [aFy]
  cases g with
  | true => have := List.length_filter_le (fun x : Body => decide (x.key ≠ b.key)) s; simp only [oM, lO]; omega
  | false =>
    rw [(nB b s).length_eq]
    have := List.length_filter_le (fun x : Body => decide (x.key ≠ b.key)) s
    simp only [lO, List.length_cons]; omega
def kW (s : List Body) (b : Body) : List Body × Int :=
  if check b ≠ 0 then (s, check b) else if 0 ≤ cG b.key s then (s, 10) else if 4096 ≤ s.length then (s, 12) else (xV s b false, 0)
def aFh (k : Int) : Body := ⟨k, 0, 0, 0, 0, 0, 0, 0, 0, 0⟩
def aTg (s : List Body) (b : Body) : List Body × Int :=
  if check b ≠ 0 then (s, check b) else if cG b.key s < 0 then (s, 11) else (xV s b false, 0)
def vW (l : List Body) : List Body := l.foldl (fun s b => (kW s b).1) []
theorem aMk (s : List Body) (b : Body) : (kW s b).1.length ≤ s.length + 1 := by
  unfold kW
  (repeat' split) <;> first | exact Nat.le_succ _ | exact aJs s b false
theorem aHb {l : List Body} {k : Nat} {x : Body} (h : l[k]? = some x) : vW (l.take (k + 1)) = (kW (vW (l.take k)) x).1 := by
  unfold vW
  rw [cK h, List.foldl_append]
  rfl
theorem aKw (l : List Body) : (vW l).length ≤ l.length := by
  have key : ∀ (l s : List Body), (l.foldl (fun s b => (kW s b).1) s).length ≤ s.length + l.length := by
    intro l
    induction l with
    | nil => intro s; simp
    | cons b l ih =>
      intro s
      have h1 := ih (kW s b).1
      have h2 := aMk s b
      simp only [List.foldl_cons, List.length_cons]
      omega
  have := key l []
  rw [List.length_nil, Nat.zero_add] at this
  exact this
structure Rel (m s : List Body) : Prop where
  perm : s.Perm m
  sorted : bM s
theorem Rel.nil : Rel [] [] := ⟨List.Perm.refl _, by simp [bM]⟩
theorem bM.unique {s t : List Body} (h : bM s) (h' : bM t) (p : s.Perm t) : s = t :=
  List.Perm.eq_of_pairwise (le := fun (a b : Body) => a.key < b.key) (fun a b _ _ h1 h2 => by omega) h h' p
theorem bM.keys {s : List Body} (h : bM s) : fO s := by
  unfold fO List.Nodup
  rw [List.pairwise_map]
  exact h.imp (fun h => by omega)
theorem Rel.keys {m s : List Body} (R : Rel m s) : fO m := R.sorted.keys.perm R.perm.symm
theorem Rel.find {m s : List Body} (R : Rel m s) (k : Int) : cG k s < 0 ↔ cG k m < 0 := by
  rw [jE, jE]
  exact ⟨fun h b hb => h b (R.perm.mem_iff.2 hb), fun h b hb => h b (R.perm.mem_iff.1 hb)⟩
theorem aJg {k : Int} {s : List Body} (h : cG k s < 0) : lO k s = s := List.filter_eq_self.2 fun x hx => by simpa using jE.1 h x hx
theorem Rel.put {m s : List Body} (R : Rel m s) (b : Body) {m' : List Body} (h : m'.Perm (b :: lO b.key m)) : Rel m' (xV s b false) := by
  rw [aFy]
  exact ⟨((nB b s).trans ((R.perm.filter _).cons b)).trans h.symm, R.sorted.put⟩
theorem Rel.add {m s : List Body} (R : Rel m s) (b : Body) : Rel (qD m b).1 (kW s b).1 ∧ (kW s b).2 = (qD m b).2 := by
  unfold qD kW
  have hf := R.find b.key
  have hl := R.perm.length_eq
  by_cases h1 : check b ≠ 0
  · rw [if_pos h1, if_pos h1]; exact ⟨R, rfl⟩
  · rw [if_neg h1, if_neg h1]
    by_cases h2 : 0 ≤ cG b.key m
    · have h2' : 0 ≤ cG b.key s := by omega
      rw [if_pos h2, if_pos h2']; exact ⟨R, rfl⟩
    · have h2' : ¬ 0 ≤ cG b.key s := by omega
      rw [if_neg h2, if_neg h2', hl]
      by_cases h3 : 4096 ≤ m.length
      · rw [if_pos h3, if_pos h3]; exact ⟨R, rfl⟩
      · rw [if_neg h3, if_neg h3]
        refine ⟨R.put b ?_, rfl⟩
        rw [aJg (by omega)]
        exact List.perm_append_singleton b m
theorem aCq {m : List Body} (h : fO m) {i : Nat} {b : Body} (hi : m[i]? = some b) : m.eraseIdx i = lO b.key m := by
  have e : m = m.take i ++ b :: m.drop (i + 1) := by
    have hlt := (List.getElem?_eq_some_iff.1 hi).1
    have hb : m[i] = b := (List.getElem?_eq_some_iff.1 hi).2
    rw [← hb, ← List.drop_eq_getElem_cons hlt, List.take_append_drop]
  have hne := xL h hi
  rw [List.eraseIdx_eq_take_drop_succ] at hne ⊢
  conv => rhs; rw [e]
  unfold lO
  rw [List.filter_append, List.filter_cons]
  simp only [ne_eq, not_true_eq_false, decide_false, Bool.false_eq_true, if_false]
  rw [List.filter_eq_self.2 (fun x hx => by simpa using hne x (List.mem_append_left _ hx)), List.filter_eq_self.2 (fun x hx => by simpa using hne x (List.mem_append_right _ hx))]
theorem aNv {m : List Body} {i : Nat} {x : Body} (hi : i < m.length) : (m.set i x).Perm (x :: m.eraseIdx i) := by
  rw [List.set_eq_take_append_cons_drop, if_pos hi, List.eraseIdx_eq_take_drop_succ]
  exact List.perm_middle
theorem Rel.set {m s : List Body} (R : Rel m s) (b : Body) : Rel (aVf m b).1 (aTg s b).1 ∧ (aTg s b).2 = (aVf m b).2 := by
  unfold aVf aTg
  have hf := R.find b.key
  by_cases h1 : check b ≠ 0
  · rw [if_pos h1, if_pos h1]; exact ⟨R, rfl⟩
  · rw [if_neg h1, if_neg h1]
    by_cases h : cG b.key m < 0
    · rw [if_pos h, if_pos (hf.2 h)]; exact ⟨R, rfl⟩
    · rw [if_neg h, if_neg (fun h' => h (hf.1 h'))]
      refine ⟨?_, rfl⟩
      rcases dT b.key m with ⟨h1, _⟩ | ⟨i, c, h1, h2, h3⟩
      · omega
      · rw [h3, Int.toNat_natCast]
        have hlt := (List.getElem?_eq_some_iff.1 h1).1
        refine R.put b ((aNv hlt).trans ?_)
        rw [aCq R.keys h1, h2]
theorem Rel.get {m s : List Body} (R : Rel m s) (k : Int) : (cG k s < 0 ∧ aOb m k = (aFh 0, 11)) ∨ ∃ (i : Nat) (b : Body), cG k s = (i : Int) ∧ s[i]? = some b ∧ aOb m k = (b, 0) := by
  rcases dT k s with ⟨h1, h2⟩ | ⟨i, b, h1, h2, h3⟩
  · have hm : cG k m < 0 := (R.find k).1 (by omega)
    refine .inl ⟨by omega, ?_⟩
    unfold aOb
    rw [if_pos hm]
    rfl
  · refine .inr ⟨i, b, h3, h1, ?_⟩
    have hb : b ∈ m := R.perm.mem_iff.1 (List.mem_of_getElem? h1)
    obtain ⟨j, hj⟩ := List.getElem?_of_mem hb
    have := tB R.keys hj
    rw [h2] at this
    exact aJh this hj
theorem aCk {a b : Int} : mE a b < 0 ↔ a < b := by unfold mE; (repeat' split) <;> omega
def aDh (b : Body) : List Body → List Body
  | [] => [b]
  | x :: l => if b.key ≤ x.key then b :: x :: l else x :: aDh b l
def kF (m : List Body) : List Body := m.foldr aDh []
theorem qN (b : Body) : ∀ l : List Body, (aDh b l).Perm (b :: l)
  | [] => List.Perm.refl _
  | x :: l => by
    unfold aDh
    split
    · exact List.Perm.refl _
    · exact ((qN b l).cons x).trans (List.Perm.swap b x l)
theorem gH : ∀ m : List Body, (kF m).Perm m
  | [] => List.Perm.refl _
  | b :: m => (qN b (kF m)).trans ((gH m).cons b)
def Up (s : List Body) : Prop := s.Pairwise (fun a b => a.key ≤ b.key)
theorem aGi (b : Body) : ∀ {l : List Body}, Up l → Up (aDh b l)
  | [], _ => by simp [aDh, Up]
  | x :: l, h => by
    unfold aDh
    have hx : ∀ y ∈ l, x.key ≤ y.key := (List.pairwise_cons.1 h).1
    split
    · rename_i hb
      refine List.pairwise_cons.2 ⟨fun y hy => ?_, h⟩
      rcases List.mem_cons.1 hy with rfl | hy
      · exact hb
      · have := hx y hy; omega
    · refine List.pairwise_cons.2 ⟨fun y hy => ?_, aGi b (List.pairwise_cons.1 h).2⟩
      have := (qN b l).mem_iff.1 hy
      rcases List.mem_cons.1 this with rfl | h1
      · omega
      · exact hx y h1
theorem aBm : ∀ m : List Body, Up (kF m)
  | [] => by simp [kF, Up]
  | b :: m => aGi b (aBm m)
theorem aHy {s : List Body} (h : Up s) (hk : fO s) : bM s := by
  unfold Up at h
  unfold fO List.Nodup at hk
  rw [List.pairwise_map] at hk
  exact (List.Pairwise.and h hk).imp (fun ⟨h1, h2⟩ => by omega)
theorem xD {m : List Body} (hk : fO m) : Rel m (kF m) := ⟨gH m, aHy (aBm m) (hk.perm (gH m))⟩
theorem Rel.eq {m s : List Body} (R : Rel m s) : kF m = s := (xD R.keys).sorted.unique R.sorted ((gH m).trans R.perm.symm)
theorem lR (m : List Body) : ∀ y ∈ m.map aI, y.length = 10 := by
  intro y hy
  obtain ⟨b, _, rfl⟩ := List.mem_map.1 hy
  rfl
end Go.Bil
namespace Go.Bil
structure InB (b : Body) : Prop where
  key : 0 ≤ b.key ∧ b.key ≤ 4294967295
  radius : -2147483648 ≤ b.radius ∧ b.radius ≤ 2147483647
  ax : -2147483648 ≤ b.ax ∧ b.ax ≤ 2147483647
  ay : -2147483648 ≤ b.ay ∧ b.ay ≤ 2147483647
  mass : -2147483648 ≤ b.mass ∧ b.mass ≤ 2147483647
  bounce : -2147483648 ≤ b.bounce ∧ b.bounce ≤ 2147483647
  px : -2147483648 ≤ b.px ∧ b.px ≤ 2147483647
  py : -2147483648 ≤ b.py ∧ b.py ≤ 2147483647
  vx : -2147483648 ≤ b.vx ∧ b.vx ≤ 2147483647
  vy : -2147483648 ≤ b.vy ∧ b.vy ≤ 2147483647
theorem aUh (l : List Value) (h : iP [.u32, .i32, .i32, .i32, .i32, .i32, .i32, .i32, .i32, .i32] l) : ∃ b, l = aI b ∧ InB b := by
  obtain ⟨z0, l0, rfl, w0, h0⟩ := fH h
  obtain ⟨z1, l1, rfl, w1, h1⟩ := fH h0
  obtain ⟨z2, l2, rfl, w2, h2⟩ := fH h1
  obtain ⟨z3, l3, rfl, w3, h3⟩ := fH h2
  obtain ⟨z4, l4, rfl, w4, h4⟩ := fH h3
  obtain ⟨z5, l5, rfl, w5, h5⟩ := fH h4
  obtain ⟨z6, l6, rfl, w6, h6⟩ := fH h5
  obtain ⟨z7, l7, rfl, w7, h7⟩ := fH h6
  obtain ⟨z8, l8, rfl, w8, h8⟩ := fH h7
  obtain ⟨z9, l9, rfl, w9, h9⟩ := fH h8
  obtain rfl := aNq h9
  exact ⟨⟨z0, z1, z2, z3, z4, z5, z6, z7, z8, z9⟩, rfl, ⟨w0, w1, w2, w3, w4, w5, w6, w7, w8, w9⟩⟩
end Go.Bil

namespace Go.Bil
def pJ (l : List Body) : List Body := l.foldl (fun m b => (qD m b).1) []
theorem aDo {l : List Body} {k : Nat} {x : Body} (h : l[k]? = some x) : pJ (l.take (k + 1)) = (qD (pJ (l.take k)) x).1 := by
  unfold pJ
  rw [cK h, List.foldl_append]
  rfl
theorem aHm : ∀ l : List Body, Rel (pJ l) (vW l) := by
  have key : ∀ (l m s : List Body), Rel m s → Rel (l.foldl (fun m b => (qD m b).1) m) (l.foldl (fun s b => (kW s b).1) s) := by
    intro l
    induction l with
    | nil => intro m s h; exact h
    | cons b l ih => intro m s h; exact ih _ _ (h.add b).1
  exact fun l => key l [] [] Rel.nil
def rL (l : List Body) : List Body := l.filter (fun b => decide (check b = 0))
theorem aMd {m : List Body} {x : Body} (hf : ∀ b ∈ m, b.key ≠ x.key) (hl : m.length < 4096) : qD (rL m) x = (rL (m ++ [x]), check x) := by
  have hle : (rL m).length ≤ m.length := List.length_filter_le _ _
  unfold qD
  by_cases h : check x = 0
  · rw [if_neg (by omega), if_neg (by
      have : cG x.key (rL m) < 0 := jE.2 fun b hb => hf b (List.mem_filter.1 hb).1
      omega), if_neg (by omega), h]
    simp [rL, List.filter_append, h]
  · rw [if_pos h]
    simp [rL, List.filter_append, h]
theorem aCh {l : List Body} (h : fO l) {k : Nat} {x : Body} (hx : l[k]? = some x) : ∀ b ∈ l.take k, b.key ≠ x.key := by
  intro b hb e
  obtain ⟨j, hj⟩ := List.getElem?_of_mem hb
  rw [List.getElem?_take] at hj
  split at hj
  · rename_i hlt
    have := h.inj hj hx e
    omega
  · cases hj
theorem vE {l : List Body} (h : fO l) (hl : l.length ≤ 4096) : ∀ k, k ≤ l.length → pJ (l.take k) = rL (l.take k)
  | 0, _ => by simp [pJ, rL]
  | k + 1, hk => by
    obtain ⟨x, hx⟩ := cN (xs := l) (k := k) rfl (by omega)
    rw [aDo hx, vE h hl k (by omega), aMd (aCh h hx) (by rw [List.length_take]; omega), cK hx]
end Go.Bil
namespace Go.Bil
structure StepI where
  kind : Int
  body : Body
instance : Inhabited StepI := ⟨⟨0, aFh 0⟩⟩
end Go.Bil

namespace Go.Bil
def gZ : List Body → Int
  | [] => 0
  | b :: l => if check b ≠ 0 then check b else gZ l
def iK (xs : List Body) : Int := if 4096 < xs.length then 12 else gZ xs
theorem kR : ∀ {xs : List Body}, (∀ (j : Nat) (c : Body), xs[j]? = some c → check c = 0) → gZ xs = 0
  | [], _ => rfl
  | b :: l, h => by
    unfold gZ
    rw [if_neg (by have := h 0 b (by simp); omega)]
    exact kR fun j c hj => h (j + 1) c (by simpa using hj)
theorem rR : ∀ {xs : List Body} {k : Nat} {b : Body}, xs[k]? = some b → check b ≠ 0 → (∀ (j : Nat) (c : Body), j < k → xs[j]? = some c → check c = 0) → gZ xs = check b
  | [], _, _, h, _, _ => by simp at h
  | a :: l, 0, b, h, hb, _ => by
    simp only [List.getElem?_cons_zero, Option.some.injEq] at h
    subst h
    unfold gZ
    rw [if_pos hb]
  | a :: l, k + 1, b, h, hb, hn => by
    unfold gZ
    rw [if_neg (by have := hn 0 a (by omega) (by simp); omega)]
    exact rR (by simpa using h) hb fun j c hj hc => hn (j + 1) c (by omega) (by simpa using hc)
theorem pC : ∀ {xs : List Body}, gZ xs = 0 → ∀ b ∈ xs, check b = 0
  | [], _, b, hb => by simp at hb
  | a :: l, h, b, hb => by
    unfold gZ at h
    by_cases ha : check a = 0
    · rw [if_neg (by omega)] at h
      rcases List.mem_cons.1 hb with rfl | hb
      · exact ha
      · exact pC h b hb
    · rw [if_pos ha] at h; exact absurd h ha
theorem tV {xs : List Body} (h : iK xs = 0) : xs.length ≤ 4096 ∧ ∀ b ∈ xs, check b = 0 := by
  unfold iK at h
  split at h
  · omega
  · exact ⟨by omega, pC h⟩
theorem aLk {xs : List Body} (hl : xs.length ≤ 4096) (h : ∀ b ∈ xs, check b = 0) : iK xs = 0 := by
  unfold iK
  rw [if_neg (by omega)]
  exact kR fun j c hj => h c (List.mem_of_getElem? hj)
def aUm : List Body → Bool
  | x :: y :: l => decide (x.key < y.key) && aUm (y :: l)
  | _ => true
theorem kK : ∀ {xs : List Body}, aUm xs = true → bM xs
  | [], _ => by simp [bM]
  | [_], _ => by simp [bM]
  | x :: y :: l, h => by
    unfold aUm at h
    rw [Bool.and_eq_true, decide_eq_true_eq] at h
    have ih := kK h.2
    refine List.pairwise_cons.2 ⟨fun z hz => ?_, ih⟩
    rcases List.mem_cons.1 hz with rfl | hz
    · exact h.1
    · have := (List.pairwise_cons.1 ih).1 z hz; have := h.1; omega
instance (m : List Body) : Decidable (fO m) := by unfold fO; infer_instance
def jQ (xs : List Body) : List Body × Int := if iK xs ≠ 0 then ([], iK xs) else if fO xs then (kF xs, 0) else ([], 10)
theorem aCe : ∀ (l m : List Body), ∃ t, List.Sublist t l ∧ l.foldl (fun m b => (qD m b).1) m = m ++ t
  | [], m => ⟨[], by simp, by simp⟩
  | b :: l, m => by
    simp only [List.foldl_cons]
    obtain ⟨t, h1, h2⟩ := aCe l (qD m b).1
    have hb : (qD m b).1 = m ∨ (qD m b).1 = m ++ [b] := by
      unfold qD
      (repeat' split) <;> simp
    rcases hb with hb | hb
    · exact ⟨t, h1.cons b, by rw [h2, hb]⟩
    · exact ⟨b :: t, h1.cons_cons b, by rw [h2, hb]; simp⟩
theorem aHx {xs : List Body} (he : iK xs = 0) : (fO xs → vW xs = kF xs) ∧ ((vW xs).length < xs.length ↔ ¬ fO xs) := by
  obtain ⟨h1, h2⟩ := tV he
  have hrel := aHm xs
  have hlen := hrel.perm.length_eq
  obtain ⟨t, ht1, ht2⟩ := aCe xs []
  have ht : pJ xs = t := by simpa [pJ] using ht2
  have hkeys : fO xs → pJ xs = xs := fun hk => by
    have := vE hk h1 xs.length (Nat.le_refl _)
    rw [List.take_length] at this
    rw [this]
    exact List.filter_eq_self.2 fun b hb => by simpa using h2 b hb
  refine ⟨fun hk => ?_, ?_, ?_⟩
  · have := hrel.eq
    rw [hkeys hk] at this
    exact this.symm
  · intro hl hk
    rw [hlen, hkeys hk] at hl
    omega
  · intro hk
    rw [hlen, ht]
    rcases Nat.lt_or_ge t.length xs.length with h | h
    · exact h
    · exfalso
      have : t = xs := ht1.eq_of_length_le h
      exact hk (by rw [← this, ← ht]; exact hrel.keys)
def rP (key : Int) : List Body → Nat
  | [] => 0
  | b :: l => (if b.key < key then 1 else 0) + rP key l
theorem oW {key : Int} : ∀ {xs : List Body} {k : Nat}, k ≤ xs.length → (∀ (j : Nat) (c : Body), j < k → xs[j]? = some c → c.key < key) → (∀ (j : Nat) (c : Body), k ≤ j → xs[j]? = some c → ¬ c.key < key) → rP key xs = k
  | [], k, hk, _, _ => by simp at hk; simp [rP, hk]
  | b :: l, 0, _, _, h2 => by
    unfold rP
    rw [if_neg (h2 0 b (Nat.le_refl _) (by simp)), oW (k := 0) (by omega) (fun j c hj => by omega) (fun j c _ hc => h2 (j + 1) c (by omega) (by simpa using hc))]
  | b :: l, k + 1, hk, h1, h2 => by
    unfold rP
    rw [if_pos (h1 0 b (by omega) (by simp)), oW (k := k) (by simpa using hk) (fun j c hj hc => h1 (j + 1) c (by omega) (by simpa using hc)) (fun j c hj hc => h2 (j + 1) c (by omega) (by simpa using hc))]
    omega
def gG (k : Int) : List Value := [.int .u32 k]
end Go.Bil
namespace Go.Bil
theorem rF {xs : List Body} (h : bM xs) {p q : Nat} {a b : Body} (hpq : p ≤ q) (ha : xs[p]? = some a) (hb : xs[q]? = some b) : a.key ≤ b.key := by
  by_cases e : p = q
  · subst e
    rw [ha] at hb
    injection hb with hb
    rw [hb]; exact Int.le_refl _
  · have hi := List.getElem?_eq_some_iff.1 ha
    have hj := List.getElem?_eq_some_iff.1 hb
    have := List.pairwise_iff_getElem.1 h p q hi.1 hj.1 (by omega)
    rw [hi.2, hj.2] at this
    omega
theorem aXk (i j : Nat) : ((i : Int) + (j : Int)).fdiv (2 ^ (min (1 : Int).toNat IntKind.u64.bits)) = (((i + j) / 2 : Nat) : Int) := by
  have e : (2 : Int) ^ (min (1 : Int).toNat IntKind.u64.bits) = 2 := by decide
  rw [e, Int.fdiv_eq_ediv_of_nonneg _ (by omega)]
  omega
theorem rV {a b a' b' : Value} (h1 : a = a') (h2 : b = b') : Value.tuple #[a, b] = Value.tuple #[a', b'] := by rw [h1, h2]
theorem aHd {a b : Int} : mE a b = 0 ↔ a = b := by unfold mE; (repeat' split) <;> omega
theorem aJe {key : Int} {xs : List Body} (hs : bM xs) {i : Nat} {b : Body} (hb : xs[i]? = some b) (h1 : ∀ (j : Nat) (c : Body), j < i → xs[j]? = some c → c.key < key) (h2 : ∀ (j : Nat) (c : Body), i ≤ j → xs[j]? = some c → ¬ c.key < key) : mE b.key key = 0 ↔ 0 ≤ cG key xs := by
  rw [aHd]
  constructor
  · intro e
    rcases dT key xs with ⟨_, h⟩ | ⟨_, _, _, _, h⟩
    · exact absurd e (h b (List.mem_of_getElem? hb))
    · omega
  · intro h
    rcases dT key xs with ⟨h', _⟩ | ⟨j, c, hc, hk, _⟩
    · omega
    · have hij : i ≤ j := by
        rcases Nat.lt_or_ge j i with hlt | hge
        · have := h1 j c hlt hc; omega
        · exact hge
      have := rF hs hij hb hc
      have := h2 i b (Nat.le_refl _) hb
      omega
theorem aDi {key : Int} {xs : List Body} (h1 : ∀ (j : Nat) (c : Body), j < xs.length → xs[j]? = some c → c.key < key) : ¬ 0 ≤ cG key xs := by
  intro h
  rcases dT key xs with ⟨h', _⟩ | ⟨j, c, hc, hk, _⟩
  · omega
  · have := h1 j c (List.getElem?_eq_some_iff.1 hc).1 hc
    omega
end Go.Bil
namespace Go.Bil
end Go.Bil
namespace Go.Bil
end Go.Bil
namespace Go.Bil
theorem aCs (k : Int) : ∀ y ∈ [gG k], y.length = 1 ∧ ∀ u ∈ y, one u = true := by
  intro y hy
  simp only [List.mem_singleton] at hy
  subst hy
  exact ⟨rfl, aU rfl⟩
end Go.Bil
namespace Go.Bil
structure Mg (xs ys : List Body) (i k : Nat) : Prop where
  sx : bM xs
  sy : bM ys
  yx : ∀ (p : Nat) (a b : Body), p < k → ys[p]? = some a → xs[i]? = some b → a.key < b.key
  xy : ∀ (p : Nat) (a b : Body), p < i → xs[p]? = some a → ys[k]? = some b → a.key < b.key
theorem Mg.swap {xs ys : List Body} {i k : Nat} (h : Mg xs ys i k) : Mg ys xs k i := ⟨h.sy, h.sx, h.xy, h.yx⟩
theorem dA {xs : List Body} (h : bM xs) {p q : Nat} {a b : Body} (hpq : p < q) (ha : xs[p]? = some a) (hb : xs[q]? = some b) : a.key < b.key := by
  have hi := List.getElem?_eq_some_iff.1 ha
  have hj := List.getElem?_eq_some_iff.1 hb
  have := List.pairwise_iff_getElem.1 h p q hi.1 hj.1 hpq
  rwa [hi.2, hj.2] at this
theorem Mg.x {xs ys : List Body} {i k : Nat} {a : Body} (h : Mg xs ys i k) (ha : xs[i]? = some a) (hb : ∀ b, ys[k]? = some b → a.key < b.key) : Mg xs ys (i + 1) k ∧ cG a.key ys < 0 := by
  refine ⟨⟨h.sx, h.sy, fun p y x hp hy hx => ?_, fun p x y hp hx hy => ?_⟩, jE.2 fun y hy => ?_⟩
  · have := h.yx p y a hp hy ha
    have := dA h.sx (Nat.lt_succ_self i) ha hx
    omega
  · by_cases e : p = i
    · subst e
      rw [ha] at hx
      injection hx with hx
      subst hx
      exact hb y hy
    · exact h.xy p x y (by omega) hx hy
  · obtain ⟨q, hq⟩ := List.getElem?_of_mem hy
    rcases Nat.lt_or_ge q k with hlt | hge
    · have := h.yx q y a hlt hq ha; omega
    · obtain ⟨b, hbk⟩ := cN (xs := ys) (k := k) rfl (by have := (List.getElem?_eq_some_iff.1 hq).1; omega)
      have h1 := hb b hbk
      have h2 := rF h.sy hge hbk hq
      omega
theorem Mg.y {xs ys : List Body} {i k : Nat} {b : Body} (h : Mg xs ys i k) (hb : ys[k]? = some b) (ha : ∀ a, xs[i]? = some a → b.key < a.key) : Mg xs ys i (k + 1) ∧ cG b.key xs < 0 := by
  obtain ⟨h1, h2⟩ := h.swap.x hb ha
  exact ⟨h1.swap, h2⟩
theorem Mg.both {xs ys : List Body} {i k : Nat} {a b : Body} (h : Mg xs ys i k) (ha : xs[i]? = some a) (hb : ys[k]? = some b) (hk : a.key = b.key) : Mg xs ys (i + 1) (k + 1) ∧ cG a.key ys = (k : Int) ∧ cG b.key xs = (i : Int) := by
  refine ⟨⟨h.sx, h.sy, fun p y x hp hy hx => ?_, fun p x y hp hx hy => ?_⟩, ?_, ?_⟩
  · have h1 := dA h.sx (Nat.lt_succ_self i) ha hx
    have h2 := rF h.sy (show p ≤ k by omega) hy hb
    omega
  · have h1 := dA h.sy (Nat.lt_succ_self k) hb hy
    have h2 := rF h.sx (show p ≤ i by omega) hx ha
    omega
  · exact pX hb hk.symm fun j c hj hc => by have := dA h.sy hj hc hb; omega
  · exact pX ha hk fun j c hj hc => by have := dA h.sx hj hc ha; omega
end Go.Bil
namespace Go.Bil
end Go.Bil
namespace Go.Bil
end Go.Bil
namespace Go.Bil
end Go.Bil
namespace Go.Bil
theorem aNt {xs : List Body} (h : (jQ xs).2 = 0) : fO xs ∧ iK xs = 0 ∧ (jQ xs).1 = kF xs := by
  unfold jQ at *
  by_cases h1 : iK xs = 0
  · rw [if_neg (by omega)] at h ⊢
    by_cases h2 : fO xs
    · rw [if_pos h2]; exact ⟨h2, h1, rfl⟩
    · rw [if_neg h2] at h; simp at h
  · rw [if_pos h1] at h; exact absurd h h1
theorem aOc {xs : List Body} (hk : fO xs) : bM (kF xs) := (xD hk).sorted
end Go.Bil
namespace Go.Bil
end Go.Bil
namespace Go.Bil
end Go.Bil

namespace Go.Bil
theorem aHq {xs : List Body} (he : iK xs = 0) : iK (kF xs) = 0 := by
  obtain ⟨h1, h2⟩ := tV he
  exact aLk (by rw [(gH xs).length_eq]; exact h1) fun b hb => h2 b ((gH xs).mem_iff.1 hb)
theorem aHw (xs : List Body) : (jQ xs).1.length ≤ xs.length := by
  unfold jQ
  split
  · simp
  · split
    · simpa using Nat.le_of_eq (gH xs).length_eq
    · simp
end Go.Bil

namespace Go.Bil
structure Bx where
  x0 : Int
  y0 : Int
  x1 : Int
  y1 : Int
  deriving DecidableEq, Inhabited
def cS (a : Bx) : List Value := [.int .i32 a.x0, .int .i32 a.y0, .int .i32 a.x1, .int .i32 a.y1]
def aJi (b : Body) : Int := max b.ax (-b.ax) + b.radius
def aGl (b : Body) : Int := max b.ay (-b.ay) + b.radius
def fY (b : Body) : Bx := ⟨b.px - aJi b, b.py - aGl b, b.px + aJi b, b.py + aGl b⟩
abbrev fJ (a : Bx) : Prop := a.x1 < a.x0 ∨ a.y1 < a.y0
def gY : Bx := ⟨1, 0, 0, 0⟩
def xA (a b : Bx) : Bx := if fJ ⟨max a.x0 b.x0, max a.y0 b.y0, min a.x1 b.x1, min a.y1 b.y1⟩ then gY else ⟨max a.x0 b.x0, max a.y0 b.y0, min a.x1 b.x1, min a.y1 b.y1⟩
abbrev ovl (a b : Bx) : Prop := (a.x0 ≤ a.x1 ∧ a.y0 ≤ a.y1) ∧ (b.x0 ≤ b.x1 ∧ b.y0 ≤ b.y1) ∧ (a.x0 ≤ b.x1 ∧ b.x0 ≤ a.x1 ∧ a.y0 ≤ b.y1 ∧ b.y0 ≤ a.y1)
theorem aOa (a b : Bx) : ¬ fJ (xA a b) ↔ ovl a b := by
  unfold xA
  split
  · rename_i h
    unfold fJ at h
    simp only [fJ, gY, ovl]
    simp only at h
    omega
  · rename_i h
    unfold fJ at h
    simp only [fJ, ovl]
    simp only at h
    omega
structure Okb (b : Body) : Prop where
  r : 4096 ≤ b.radius ∧ b.radius ≤ 4194304
  a : -4194304 ≤ b.ax ∧ b.ax ≤ 4194304 ∧ -4194304 ≤ b.ay ∧ b.ay ≤ 4194304
  m : 0 ≤ b.mass ∧ b.mass ≤ 1048576
  c : 0 ≤ b.bounce ∧ b.bounce ≤ 65536
  p : -1073741824 ≤ b.px ∧ b.px ≤ 1073741824 ∧ -1073741824 ≤ b.py ∧ b.py ≤ 1073741824
  v : -16777216 ≤ b.vx ∧ b.vx ≤ 16777216 ∧ -16777216 ≤ b.vy ∧ b.vy ≤ 16777216
theorem pZ {b : Body} (h : check b = 0) : Okb b := by
  by_cases h1 : 4096 ≤ b.radius ∧ b.radius ≤ 4194304
  · by_cases h2 : -4194304 ≤ b.ax ∧ b.ax ≤ 4194304 ∧ -4194304 ≤ b.ay ∧ b.ay ≤ 4194304
    · by_cases h3 : 0 ≤ b.mass ∧ b.mass ≤ 1048576
      · by_cases h4 : 0 ≤ b.bounce ∧ b.bounce ≤ 65536
        · by_cases h5 : -1073741824 ≤ b.px ∧ b.px ≤ 1073741824 ∧ -1073741824 ≤ b.py ∧ b.py ≤ 1073741824
          · by_cases h6 : -16777216 ≤ b.vx ∧ b.vx ≤ 16777216 ∧ -16777216 ≤ b.vy ∧ b.vy ≤ 16777216
            · exact ⟨h1, h2, h3, h4, h5, h6⟩
            · rw [aPw b h1 h2 h3 h4 h5 h6] at h; omega
          · rw [aPz b h1 h2 h3 h4 h5] at h; omega
        · rw [aOr b h1 h2 h3 h4] at h; omega
      · rw [aOt b h1 h2 h3] at h; omega
    · rw [aQf b h1 h2] at h; omega
  · rw [aQr b h1] at h; omega
theorem aLy {b : Body} (h : Okb b) : 4096 ≤ aJi b ∧ aJi b ≤ 8388608 ∧ 4096 ≤ aGl b ∧ aGl b ≤ 8388608 := by
  have := h.r
  have := h.a
  unfold aJi aGl
  omega
structure Okx (a : Bx) : Prop where
  x0 : -2147483648 ≤ a.x0 ∧ a.x0 ≤ 2147483647
  y0 : -2147483648 ≤ a.y0 ∧ a.y0 ≤ 2147483647
  x1 : -2147483648 ≤ a.x1 ∧ a.x1 ≤ 2147483647
  y1 : -2147483648 ≤ a.y1 ∧ a.y1 ≤ 2147483647
theorem aVd {b : Body} (h : Okb b) : Okx (fY b) := by
  have h1 := aLy h
  have h2 := h.p
  constructor <;> simp only [fY] <;> omega
end Go.Bil

namespace Go.Bil
def bS (c : Int × Int) : List Value := [.int .i32 c.1, .int .i32 c.2]
def jB (x : Int) : Int := x.fdiv 4194304
theorem aRr (x : Int) : x.fdiv (2 ^ (min (22 : Int).toNat IntKind.i32.bits)) = jB x := rfl
theorem zA (x : Int) : jB x = x / 4194304 := by unfold jB; exact Int.fdiv_eq_ediv_of_nonneg x (by decide)
theorem lW {x : Int} (h0 : -2147483648 ≤ x) (h1 : x ≤ 2147483647) : -512 ≤ jB x ∧ jB x ≤ 511 := by rw [zA]; omega
theorem gT {x y : Int} (h : x ≤ y) : jB x ≤ jB y := by rw [zA, zA]; omega
def loC (a : Bx) : Int × Int := if fJ a then (0, 0) else (jB a.x0, jB a.y0)
def hiC (a : Bx) : Int × Int := if fJ a then (0, 0) else (jB a.x1, jB a.y1)
def nX (lo hi : Int × Int) : Nat := (hi.1 - lo.1 + 1).toNat
def nY (lo hi : Int × Int) : Nat := (hi.2 - lo.2 + 1).toNat
def vC (lo : Int × Int) (i j : Nat) : List (Int × Int) := (List.range i).map (fun (p : Nat) => (lo.1 + (p : Int), lo.2 + (j : Int)))
def kD (lo hi : Int × Int) (j : Nat) : List (Int × Int) := (List.range j).flatMap (fun q => vC lo (nX lo hi) q)
def qY (ok : Bool) (lo hi : Int × Int) : List (Int × Int) := if ok then kD lo hi (nY lo hi) else []
def eQ (a : Bx) : List (Int × Int) := qY (decide (¬ fJ a)) (loC a) (hiC a)
theorem zP (lo : Int × Int) (i j : Nat) : (vC lo i j).length = i := by simp [vC]
theorem aJl (lo : Int × Int) (i j : Nat) : vC lo (i + 1) j = vC lo i j ++ [(lo.1 + (i : Int), lo.2 + (j : Int))] := by simp [vC, List.range_succ]
theorem uH (lo hi : Int × Int) (j : Nat) : kD lo hi (j + 1) = kD lo hi j ++ vC lo (nX lo hi) j := by simp [kD, List.range_succ]
theorem qV (lo hi : Int × Int) : ∀ j, (kD lo hi j).length = j * nX lo hi
  | 0 => by simp [kD]
  | j + 1 => by rw [uH, List.length_append, qV lo hi j, zP, Nat.add_mul, Nat.one_mul]
theorem aMc {lo hi : Int × Int} {i j : Nat} (hx : nX lo hi ≤ 1024) (hj : j < 1024) (hi' : i < nX lo hi) : (kD lo hi j).length + i < 1048576 := by
  rw [qV]
  have : j * nX lo hi ≤ 1023 * 1024 := Nat.mul_le_mul (by omega) hx
  omega
theorem aLb {lo hi : Int × Int} {j : Nat} (hx : nX lo hi ≤ 1024) (hj : j ≤ 1024) : (kD lo hi j).length ≤ 1048576 := by
  rw [qV]
  exact Nat.mul_le_mul hj hx
theorem aJd {lo hi : Int × Int} {n : Nat} {c : Int × Int} : c ∈ kD lo hi n ↔ ∃ q p : Nat, q < n ∧ p < nX lo hi ∧ c = (lo.1 + (p : Int), lo.2 + (q : Int)) := by
  simp only [kD, vC, List.mem_flatMap, List.mem_range, List.mem_map]
  constructor
  · rintro ⟨q, hq, p, hp, rfl⟩; exact ⟨q, p, hq, hp, rfl⟩
  · rintro ⟨q, p, hq, hp, rfl⟩; exact ⟨q, hq, p, hp, rfl⟩
theorem uX {a : Bx} {c : Int × Int} : c ∈ eQ a ↔ ¬ fJ a ∧ jB a.x0 ≤ c.1 ∧ c.1 ≤ jB a.x1 ∧ jB a.y0 ≤ c.2 ∧ c.2 ≤ jB a.y1 := by
  unfold eQ qY
  by_cases h : fJ a
  · simp [h]
  · rw [if_pos (by simpa using h), aJd]
    simp only [loC, hiC, if_neg h, nX, nY]
    constructor
    · rintro ⟨q, p, hq, hp, rfl⟩
      refine ⟨h, ?_⟩
      simp only
      omega
    · rintro ⟨_, h1, h2, h3, h4⟩
      refine ⟨(c.2 - jB a.y0).toNat, (c.1 - jB a.x0).toNat, by omega, by omega, ?_⟩
      apply Prod.ext <;> simp only <;> omega
structure Okc (c : Int × Int) : Prop where
  x : -512 ≤ c.1 ∧ c.1 ≤ 511
  y : -512 ≤ c.2 ∧ c.2 ≤ 511
theorem aEk {a : Bx} (h : Okx a) : Okc (loC a) := by
  unfold loC
  split
  · exact ⟨by decide, by decide⟩
  · exact ⟨lW h.x0.1 h.x0.2, lW h.y0.1 h.y0.2⟩
theorem aCt {a : Bx} (h : Okx a) : Okc (hiC a) := by
  unfold hiC
  split
  · exact ⟨by decide, by decide⟩
  · exact ⟨lW h.x1.1 h.x1.2, lW h.y1.1 h.y1.2⟩
theorem aSd {lo hi : Int × Int} (h1 : Okc lo) (h2 : Okc hi) : nX lo hi ≤ 1024 := by
  have := h1.x; have := h2.x
  unfold nX
  omega
theorem aRy {lo hi : Int × Int} (h1 : Okc lo) (h2 : Okc hi) : nY lo hi ≤ 1024 := by
  have := h1.y; have := h2.y
  unfold nY
  omega
theorem aDg {a : Bx} (h : Okx a) : (eQ a).length ≤ 1048576 := by
  unfold eQ qY
  split
  · exact aLb (aSd (aEk h) (aCt h)) (aRy (aEk h) (aCt h))
  · simp
theorem aMw {a b : Bx} (h : ovl a b) : ∃ c, c ∈ eQ a ∧ c ∈ eQ b := by
  obtain ⟨⟨h1, h2⟩, ⟨h3, h4⟩, h5, h6, h7, h8⟩ := h
  refine ⟨(jB (max a.x0 b.x0), jB (max a.y0 b.y0)), uX.2 ⟨by unfold fJ; omega, ?_⟩, uX.2 ⟨by unfold fJ; omega, ?_⟩⟩
  · exact ⟨gT (by omega), gT (by omega), gT (by omega), gT (by omega)⟩
  · exact ⟨gT (by omega), gT (by omega), gT (by omega), gT (by omega)⟩
def nD (c : Int × Int) : Int :=
  IntKind.u32.wrap ((BitVec.ofInt 32 (IntKind.u32.wrap ((BitVec.ofInt 32 (IntKind.u32.wrap (IntKind.u32.wrap c.1 * 73856093)) ^^^ BitVec.ofInt 32 (IntKind.u32.wrap (IntKind.u32.wrap c.2 * 19349663))).toNat)) &&& BitVec.ofInt 32 1023).toNat)
def cT (c : Int × Int) : Nat := (nD c).toNat
theorem iH (c : Int × Int) : 0 ≤ nD c ∧ nD c < 1024 := by
  unfold nD
  generalize BitVec.ofInt 32 (IntKind.u32.wrap _) = a
  have h : (a &&& BitVec.ofInt 32 1023).toNat ≤ 1023 := by
    rw [BitVec.toNat_and]
    exact Nat.le_trans Nat.and_le_right (by decide)
  rw [aWj _ (by omega) (by omega)]
  omega
theorem gM (c : Int × Int) : cT c < 1024 := by have := iH c; unfold cT; omega
theorem aGv (c : Int × Int) : nD c = (cT c : Int) := by have := iH c; unfold cT; omega
end Go.Bil
