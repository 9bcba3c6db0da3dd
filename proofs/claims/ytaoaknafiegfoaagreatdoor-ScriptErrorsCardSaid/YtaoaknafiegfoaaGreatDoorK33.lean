/- Part of the proof of the laws of this seat: Mf2, Mf3, Mf4, Mf5, Mf6, Mf7, Fx3, Fx5, Mf8. No conditions. -/
import Derived.Test.YtaoaknafiegfoaaGreatDoorK6
import Derived.Test.YtaoaknafiegfoaaGreatDoorK18
import Derived.Test.YtaoaknafiegfoaaGreatDoorK32
set_option linter.unusedVariables false
set_option linter.unusedSimpArgs false
set_option linter.unnecessarySimpa false
namespace Go.Bil
def nQ (b : Body) (j : Int × Int) : Body := { b with vx := iX (b.vx + j.1 * b.mass / 65536) 16777216, vy := iX (b.vy + j.2 * b.mass / 65536) 16777216 }
theorem aZv {b : Body} (h : Okb b) (j : Int × Int) : Okb (nQ b j) := ⟨h.r, h.a, h.m, h.c, h.p, ⟨(eG _ (by decide)).1, (eG _ (by decide)).2, (eG _ (by decide)).1, (eG _ (by decide)).2⟩⟩
theorem aGq {b : Body} (h : Okb b) : check b = 0 := by
 have h1 := h.r
 have h2 := h.a
 have h3 := h.m
 have h4 := h.c
 have h5 := h.p
 have h6 := h.v
 unfold check inR
 rw [if_neg (by omega), if_neg (by omega), if_neg (by omega), if_neg (by omega), if_neg (by omega), if_neg (by omega)]
def oX (v : List Body) (k : Int) (j : Int × Int) : List Body × Int := if cH k v < 0 then (v, 11) else (aDt v (nQ (v.getD (cH k v).toNat default) j) false, 0)
structure OpI where
 kind : Int
 body : Body
 key : Int
 push : Int × Int
 bytes : List Int
structure ResI where
 err : Int
 body : Body
 bytes : List Int
 cont : Int
 cl : Bool
def gP : ResI := ⟨0, aKt, [], 0, false⟩
def rF (v : List Body) (k : Int) : ResI := if cH k v < 0 then { gP with err := 11 } else { gP with body := v.getD (cH k v).toNat default }
def sP (v : List Body) (l : List Int) : List Body := if (lM l).2 = 0 then (lM l).1 else v
def doR (v : List Body) (o : OpI) : List Body × ResI :=
 if o.kind = 0 then ((pQ v o.body).1, { gP with err := (pQ v o.body).2 })
 else if o.kind = 1 then ((fN v o.key).1, { gP with err := (fN v o.key).2 })
 else if o.kind = 2 then ((oX v o.key o.push).1, { gP with err := (oX v o.key o.push).2 })
 else if o.kind = 3 then (pX v, { gP with cont := ((mF v).length : Int), cl := sJ v })
 else if o.kind = 4 then (v, { gP with bytes := wL v })
 else if o.kind = 5 then (sP v o.bytes, { gP with err := (lM o.bytes).2 })
 else if o.kind = 6 then (v, rF v o.key)
 else (v, gP)
structure GoodV (v : List Body) : Prop where
 s : bV v
 len : v.length ≤ 4096
 ok : ∀ b ∈ v, check b = 0
 inb : ∀ b ∈ v, InB b
theorem GoodV.okb {v : List Body} (h : GoodV v) : ∀ b ∈ v, Okb b := fun b hb => aIj (h.ok b hb)
theorem GoodV.chk {v : List Body} (h : GoodV v) : iB v = 0 := aPw (aWc h.len h.ok) h.s
theorem GoodV.nil : GoodV [] := ⟨by simp [bV], by simp, by simp, by simp⟩
def cC (T : Nat) (r : StV) (v : List Body) : Prop := GoodV v ∧ ∃ m, StoreIs T r.A r.n r.c r.p r.er r.em m ∧ Rel m v
theorem wZ {T : Nat} {r : StV} {m v : List Body} (h : StoreIs T r.A r.n r.c r.p r.er r.em m) (R : Rel m v) (hi : ∀ b ∈ m, InB b) : cC T r v :=
 ⟨⟨R.sorted, by rw [R.perm.length_eq]; exact h.cap, fun b hb => h.ok b (R.perm.mem_iff.1 hb), fun b hb => hi b (R.perm.mem_iff.1 hb)⟩, m, h, R⟩
theorem cC.new (T : Nat) (o o' : Obj) : cC T ⟨none, 0, 0, none, (none, o), (none, o')⟩ [] := wZ (StoreIs.nil T o o') Rel.nil (by simp)
theorem aXk {m : List Body} {x : Body} (h : ∀ b ∈ m, InB b) (hx : InB x) : ∀ b ∈ (kS m x).1, InB b := by
 intro b hb
 unfold kS at hb
 split at hb
 ·exact h b hb
 ·split at hb
  ·exact h b hb
  ·split at hb
   ·exact h b hb
   ·rcases List.mem_append.1 hb with h1 | h1
    ·exact h b h1
    ·rw [List.mem_singleton] at h1; subst h1; exact hx
theorem aJf {m : List Body} (hk : gV m) {k : Int} (h : ∀ b ∈ m, InB b) : ∀ b ∈ (jC m k).1, InB b := fun b hb => h b (zT.1 ((aGt hk k).mem_iff.1 hb)).1
theorem aYg {m : List Body} {x : Body} (h : ∀ b ∈ m, InB b) (hx : InB x) : ∀ b ∈ (rU m x).1, InB b := by
 intro b hb
 unfold rU at hb
 split at hb
 ·exact h b hb
 ·split at hb
  ·exact h b hb
  ·rcases List.mem_or_eq_of_mem_set hb with h1 | h1
   ·exact h b h1
   ·subst h1; exact hx
theorem GoodV.inm {v m : List Body} (h : GoodV v) (R : Rel m v) : ∀ b ∈ m, InB b := fun b hb => h.inb b (R.perm.mem_iff.2 hb)
theorem bAx {b : Body} (h : InB b) (j : Int × Int) : InB (nQ b j) := by
 obtain ⟨h0, h1, h2, h3, h4, h5, h6, h7, h8, h9⟩ := h
 have a := eG (b.vx + j.1 * b.mass / 65536) (l := 16777216) (by decide)
 have c := eG (b.vy + j.2 * b.mass / 65536) (l := 16777216) (by decide)
 exact ⟨h0, h1, h2, h3, h4, h5, h6, h7, ⟨by show -2147483648 ≤ iX _ _; omega, by show iX _ _ ≤ 2147483647; omega⟩, ⟨by show -2147483648 ≤ iX _ _; omega, by show iX _ _ ≤ 2147483647; omega⟩⟩
theorem aXr {xs ys : List Body} (l : Like xs ys) (hx : ∀ b ∈ xs, InB b) (hy : ∀ b ∈ ys, Okb b) : ∀ b ∈ ys, InB b := by
 intro b hb
 obtain ⟨i, hi⟩ := List.getElem?_of_mem hb
 have hlt : i < xs.length := by rw [← l.len]; exact (List.getElem?_eq_some_iff.1 hi).1
 have hxi := List.getElem?_eq_getElem hlt
 have hs := l.at_ i _ b hxi hi
 obtain ⟨h0, _⟩ := hx _ (List.getElem_mem hlt)
 have o := hy b hb
 have o1 := o.r
 have o2 := o.a
 have o3 := o.m
 have o4 := o.c
 have o5 := o.p
 have o6 := o.v
 have := hs.key
 exact ⟨by omega, by omega, by omega, by omega, by omega, by omega, by omega, by omega, by omega, by omega⟩
theorem GoodV.step {v : List Body} (h : GoodV v) : GoodV (pX v) :=
 ⟨(uR v).sorted h.s, by rw [(uR v).len]; exact h.len, fun b hb => aGq (aNg h.okb b hb), aXr (uR v) h.inb (aNg h.okb)⟩
theorem GoodV.dec {l : List Int} (hl : jM l) (hn : l.length ≤ 1000000) (h : (lM l).2 = 0) : GoodV (lM l).1 := by
 have d := bAa hl h
 have hc := d.c
 have h1 : oT (lM l).1 = 0 := by
  unfold iB at hc
  split at hc
  ·rename_i hne; exact absurd hc hne
  ·rename_i hne; exact Decidable.not_not.1 hne
 obtain ⟨h2, h3⟩ := aTf h1
 refine ⟨?_, h2, h3, d.inb⟩
 unfold iB at hc
 rw [if_neg (by omega)] at hc
 by_cases ha : aAi (lM l).1 = true
 ·exact pB ha
 ·rw [if_neg ha] at hc; omega
theorem aGo {v : List Body} (h : GoodV v) : ∀ k, k ≤ v.length → aBh (v.take k) = v.take k := by
 intro k hk
 rw [xU h.s.keys h.len k hk]
 exact List.filter_eq_self.2 fun b hb => by simpa using h.ok b (List.mem_of_mem_take hb)
theorem aWo {v : List Body} (h : bV v) : Rel v v := ⟨List.Perm.refl _, h⟩
theorem aAa {v : List Body} {k : Int} {i : Nat} {b : Body} (hf : cH k v = (i : Int)) (hb : v[i]? = some b) : v.getD (cH k v).toNat default = b := by
 rw [hf, Int.toNat_natCast, List.getD_eq_getElem?_getD, hb]
 rfl
theorem aXd {m v : List Body} (R : Rel m v) (h : GoodV v) {k : Int} {i : Nat} {b : Body} (j : Int × Int) (hf : cH k v = (i : Int)) (hb : v[i]? = some b) : Rel (rU m (nQ b j)).1 (oX v k j).1 ∧ (rU m (nQ b j)).2 = 0 ∧ (oX v k j).2 = 0 ∧ (oX v k j).1 = aDt v (nQ b j) false := by
 have hbm : b ∈ v := List.mem_of_getElem? hb
 have hi : (oX v k j) = (aDt v (nQ b j) false, 0) := by unfold oX; rw [if_neg (by omega), aAa hf hb]
 have hk : b.key = k := by
  rcases dI k v with ⟨h1, _⟩ | ⟨q, c, h1, h2, h3⟩
  ·omega
  ·have : q = i := by omega
   subst this
   rw [h1] at hb; injection hb with hb; rw [← hb]; exact h2
 have hp : check (nQ b j) = 0 := aGq (aZv (h.okb b hbm) j)
 obtain ⟨h1, h2⟩ := R.set (nQ b j)
 have hs : aVa v (nQ b j) = (aDt v (nQ b j) false, 0) := by
  unfold aVa
  rw [if_neg (by omega), if_neg (by show ¬ cH b.key v < 0; rw [hk]; omega)]
 rw [hs] at h1 h2
 exact ⟨by rw [hi]; exact h1, h2.symm, by rw [hi], by rw [hi]⟩
theorem aIc {v : List Body} {k : Int} (j : Int × Int) (h : cH k v < 0) : oX v k j = (v, 11) := by unfold oX; rw [if_pos h]
end Go.Bil
namespace Go.Bil
theorem bIs {j m : Int} (hj : -2147483648 ≤ j ∧ j ≤ 2147483647) (hm : 0 ≤ m ∧ m ≤ 1048576) : -2251799813685248 ≤ j * m ∧ j * m ≤ 2251799813685248 := by
 have h1 : j * m ≤ 2147483647 * m := Int.mul_le_mul_of_nonneg_right hj.2 hm.1
 have h2 : -2147483648 * m ≤ j * m := Int.mul_le_mul_of_nonneg_right hj.1 hm.1
 omega
theorem aZr {m v : List Body} (R : Rel m v) (k : Int) : yY m k = ((rF v k).body, (rF v k).err) := by
 rcases R.get k with ⟨h1, h2⟩ | ⟨i, b, h1, h2, h3⟩
 ·rw [h2]; unfold rF; rw [if_pos h1]; rfl
 ·rw [h3]; unfold rF; rw [if_neg (by omega), aAa h1 h2]; rfl
end Go.Bil
namespace Go.Bil
theorem bJk {v : List Body} {o : OpI} (h0 : o.kind = 0) : doR v o = ((pQ v o.body).1, { gP with err := (pQ v o.body).2 }) := by unfold doR; rw [if_pos h0]
theorem bHc {v : List Body} {o : OpI} (h : o.kind = 1) : doR v o = ((fN v o.key).1, { gP with err := (fN v o.key).2 }) := by unfold doR; rw [if_neg (by omega), if_pos h]
theorem bIm {v : List Body} {o : OpI} (h : o.kind = 2) : doR v o = ((oX v o.key o.push).1, { gP with err := (oX v o.key o.push).2 }) := by unfold doR; rw [if_neg (by omega), if_neg (by omega), if_pos h]
theorem bIr {v : List Body} {o : OpI} (h : o.kind = 3) : doR v o = (pX v, { gP with cont := ((mF v).length : Int), cl := sJ v }) := by unfold doR; rw [if_neg (by omega), if_neg (by omega), if_neg (by omega), if_pos h]
theorem bCh {v : List Body} {o : OpI} (h : o.kind = 4) : doR v o = (v, { gP with bytes := wL v }) := by unfold doR; rw [if_neg (by omega), if_neg (by omega), if_neg (by omega), if_neg (by omega), if_pos h]
theorem bIt {v : List Body} {o : OpI} (h : o.kind = 5) : doR v o = (sP v o.bytes, { gP with err := (lM o.bytes).2 }) := by unfold doR; rw [if_neg (by omega), if_neg (by omega), if_neg (by omega), if_neg (by omega), if_neg (by omega), if_pos h]
theorem bJj {v : List Body} {o : OpI} (h : o.kind = 6) : doR v o = (v, rF v o.key) := by unfold doR; rw [if_neg (by omega), if_neg (by omega), if_neg (by omega), if_neg (by omega), if_neg (by omega), if_neg (by omega), if_pos h]
theorem bJt {v : List Body} {o : OpI} (h0 : ¬ o.kind = 0) (h1 : ¬ o.kind = 1) (h2 : ¬ o.kind = 2) (h3 : ¬ o.kind = 3) (h4 : ¬ o.kind = 4) (h5 : ¬ o.kind = 5) (h6 : ¬ o.kind = 6) : doR v o = (v, gP) := by
 unfold doR; rw [if_neg h0, if_neg h1, if_neg h2, if_neg h3, if_neg h4, if_neg h5, if_neg h6]
def eB (o : OpI) (A : Option Addr) (n c : Nat) : List Value := [.int .i64 o.kind] ++ aF o.body ++ [.int .u32 o.key, .int .i32 o.push.1, .int .i32 o.push.2, .slice A n c]
structure OpOk (w : World) (o : OpI) (A : Option Addr) (n c : Nat) : Prop where
 rd : Rd w 1 A n (o.bytes.map bI)
 cap : n ≤ c
 byt : jM o.bytes
 body : InB o.body
 p1 : -2147483648 ≤ o.push.1 ∧ o.push.1 ≤ 2147483647
 p2 : -2147483648 ≤ o.push.2 ∧ o.push.2 ≤ 2147483647
theorem OpOk.len {w : World} {o : OpI} {A : Option Addr} {n c : Nat} (h : OpOk w o A n c) : o.bytes.length = n := by simpa using h.rd.len
theorem OpOk.mem {w0 w : World} {S : List dG} {o : OpI} {A : Option Addr} {n c : Nat} (h : OpOk w0 o A n c) (M : Mem w0 [] S w) : OpOk w o A n c := ⟨h.rd.mem M, h.cap, h.byt, h.body, h.p1, h.p2⟩
theorem OpOk.memY {w0 w : World} {X : List Nat} {S : List dG} {o : OpI} {A : Option Addr} {n c : Nat} (h : OpOk w0 o A n c) (M : Mem w0 X S w) (hX : 0 < n → ∀ q off, A = Option.some ⟨q, off, none⟩ → q ∉ X) : OpOk w o A n c := ⟨h.rd.memY M hX, h.cap, h.byt, h.body, h.p1, h.p2⟩
structure OpRow where
 o : OpI
 A : Option Addr
 n : Nat
 c : Nat
def OpRow.cells (x : OpRow) : List Value := eB x.o x.A x.n x.c
structure OpsRd (w : World) (A : Option Addr) (n : Nat) (l : List OpRow) : Prop where
 rd : Rd w 15 A n (l.map OpRow.cells)
 each : ∀ x ∈ l, OpOk w x.o x.A x.n x.c
theorem OpsRd.mem {w0 w : World} {S : List dG} {A : Option Addr} {n : Nat} {l : List OpRow} (h : OpsRd w0 A n l) (M : Mem w0 [] S w) : OpsRd w A n l := ⟨h.rd.mem M, fun x hx => (h.each x hx).mem M⟩
end Go.Bil
namespace Go.Bil
end Go.Bil
namespace Go.Bil
end Go.Bil
namespace Go.Bil
theorem aXs {v : List Body} {o : OpI} (h : o.kind = 4 ∨ o.kind = 6) : v = (doR v o).1 := by
 rcases h with h | h
 ·rw [bCh h]
 ·rw [bJj h]
theorem aZe {v : List Body} {b : Body} (h : (pQ v b).2 ≠ 0) : (pQ v b).1 = v := by
 unfold pQ at h ⊢
 (repeat' split) <;> first | rfl | (exfalso; simp_all)
theorem aIy {v : List Body} {k : Int} (h : (fN v k).2 ≠ 0) : (fN v k).1 = v := by
 unfold fN at h ⊢
 split
 ·rfl
 ·rename_i g; rw [if_neg g] at h; exact absurd rfl h
theorem aYh {v : List Body} {k : Int} {j : Int × Int} (h : (oX v k j).2 ≠ 0) : (oX v k j).1 = v := by
 unfold oX at h ⊢
 split
 ·rfl
 ·rename_i g; rw [if_neg g] at h; exact absurd rfl h
theorem bFq {v : List Body} {o : OpI} (h : (doR v o).2.err ≠ 0) : v = (doR v o).1 := by
 by_cases h0 : o.kind = 0
 ·rw [bJk h0] at h ⊢; exact (aZe h).symm
 by_cases h1 : o.kind = 1
 ·rw [bHc h1] at h ⊢; exact (aIy h).symm
 by_cases h2 : o.kind = 2
 ·rw [bIm h2] at h ⊢; exact (aYh h).symm
 by_cases h3 : o.kind = 3
 ·rw [bIr h3] at h; exact absurd rfl h
 by_cases h4 : o.kind = 4
 ·rw [bCh h4]
 by_cases h5 : o.kind = 5
 ·rw [bIt h5] at h ⊢
  show v = sP v o.bytes
  unfold sP
  rw [if_neg h]
 by_cases h6 : o.kind = 6
 ·rw [bJj h6]
 rw [bJt h0 h1 h2 h3 h4 h5 h6]
end Go.Bil
namespace Go.Bil
end Go.Bil

namespace Go.Bil
def eI (v : List Body) (o : OpI) : List Body × ResI := if o.kind < 1 ∨ 6 < o.kind then (v, { gP with err := 1 }) else doR v { o with kind := o.kind - 1 }
def jE (v : List Body) : List OpI → List Body
 | [] => v
 | o :: l => jE (eI v o).1 l
def jL (v : List Body) : List OpI → List ResI
 | [] => []
 | o :: l => (eI v o).2 :: jL (eI v o).1 l
theorem vX (v : List Body) : ∀ (a b : List OpI), jE v (a ++ b) = jE (jE v a) b
 | [], b => rfl
 | o :: a, b => vX (eI v o).1 a b
theorem vL (v : List Body) : ∀ (a b : List OpI), jL v (a ++ b) = jL v a ++ jL (jE v a) b := by
 intro a
 induction a generalizing v with
 | nil => intro b; rfl
 | cons o a ih => intro b; show _ :: jL (eI v o).1 (a ++ b) = _; rw [ih]; rfl
theorem aQz {v : List Body} {l : List OpI} {i : Nat} {o : OpI} (h : l[i]? = some o) : jE v (l.take (i + 1)) = (eI (jE v (l.take i)) o).1 := by rw [cP h, vX]; rfl
theorem aBx {v : List Body} {l : List OpI} {i : Nat} {o : OpI} (h : l[i]? = some o) : jL v (l.take (i + 1)) = jL v (l.take i) ++ [(eI (jE v (l.take i)) o).2] := by rw [cP h, vL]; rfl
theorem nL (v : List Body) : ∀ l : List OpI, (jL v l).length = l.length
 | [] => rfl
 | o :: l => by show (jL (eI v o).1 l).length + 1 = l.length + 1; rw [nL (eI v o).1 l]
theorem aXq {v : List Body} {l : List OpI} {i : Nat} {o : OpI} (h : l[i]? = some o) : (jL v l)[i]? = some (eI (jE v (l.take i)) o).2 := by
 have e : jL v l = jL v (l.take i) ++ jL (jE v (l.take i)) (l.drop i) := by rw [← vL, List.take_append_drop]
 have hi := List.getElem?_eq_some_iff.1 h
 have hlen : (jL v (l.take i)).length = i := by rw [nL, List.length_take]; have := hi.1; omega
 rw [e, List.getElem?_append_right (by omega), hlen, Nat.sub_self, List.drop_eq_getElem_cons hi.1, hi.2]
 rfl
theorem bDp {v : List Body} {o : OpI} (h : (eI v o).2.err ≠ 0) : (eI v o).1 = v := by
 unfold eI at h ⊢
 split
 ·rfl
 ·rename_i g
  rw [if_neg g] at h
  exact (bFq h).symm
theorem bAo {v : List Body} {o : OpI} (h : o.kind = 5) : (eI v o).1 = v := by
 unfold eI
 rw [if_neg (by omega)]
 exact (aXs (.inl (by show o.kind - 1 = 4; omega))).symm
theorem oH {v : List Body} {o : OpI} (h : ¬ (1 ≤ o.kind ∧ o.kind ≤ 6)) : eI v o = (v, { gP with err := 1 }) := by unfold eI; rw [if_pos (by omega)]
def gG (v : List Body) : List OpI → List OpI
 | [] => []
 | o :: l => if (eI v o).2.err = 0 ∧ o.kind ≠ 5 then o :: gG (eI v o).1 l else gG (eI v o).1 l
def iC (v : List Body) : List OpI → List ResI
 | [] => []
 | o :: l => if (eI v o).2.err = 0 ∧ o.kind ≠ 5 then (eI v o).2 :: iC (eI v o).1 l else iC (eI v o).1 l
theorem zR : ∀ (l : List OpI) (v : List Body), jE v (gG v l) = jE v l ∧ jL v (gG v l) = iC v l ∧ ∀ z ∈ iC v l, z.err = 0
 | [], v => ⟨rfl, rfl, by simp [iC]⟩
 | o :: l, v => by
  obtain ⟨h1, h2, h3⟩ := zR l (eI v o).1
  by_cases h : (eI v o).2.err = 0 ∧ o.kind ≠ 5
  ·have e1 : gG v (o :: l) = o :: gG (eI v o).1 l := by show (if _ then _ else _) = _; rw [if_pos h]
   have e2 : iC v (o :: l) = (eI v o).2 :: iC (eI v o).1 l := by show (if _ then _ else _) = _; rw [if_pos h]
   rw [e1, e2]
   refine ⟨h1, by show _ :: jL (eI v o).1 _ = _; rw [h2], fun z hz => ?_⟩
   rcases List.mem_cons.1 hz with rfl | hz
   ·exact h.1
   ·exact h3 z hz
  ·have e1 : gG v (o :: l) = gG (eI v o).1 l := by show (if _ then _ else _) = _; rw [if_neg h]
   have e2 : iC v (o :: l) = iC (eI v o).1 l := by show (if _ then _ else _) = _; rw [if_neg h]
   have e3 : (eI v o).1 = v := by
    by_cases g : (eI v o).2.err = 0
    ·exact bAo (Decidable.not_not.1 fun k => h ⟨g, k⟩)
    ·exact bDp g
   have e4 : jE v (o :: l) = jE (eI v o).1 l := rfl
   rw [e3] at h1 h2 h3 e1 e2 e4
   rw [e1, e2, e4]
   exact ⟨h1, h2, h3⟩
theorem vF (v : List Body) : ∀ (a b : List OpI), gG v (a ++ b) = gG v a ++ gG (jE v a) b := by
 intro a
 induction a generalizing v with
 | nil => intro b; rfl
 | cons o a ih =>
  intro b
  show (if _ then _ else _) = (if _ then _ else _) ++ _
  split
  ·show _ :: gG (eI v o).1 (a ++ b) = _; rw [ih]; rfl
  ·exact ih (eI v o).1 b
theorem vD (v : List Body) : ∀ (a b : List OpI), iC v (a ++ b) = iC v a ++ iC (jE v a) b := by
 intro a
 induction a generalizing v with
 | nil => intro b; rfl
 | cons o a ih =>
  intro b
  show (if _ then _ else _) = (if _ then _ else _) ++ _
  split
  ·show _ :: iC (eI v o).1 (a ++ b) = _; rw [ih]; rfl
  ·exact ih (eI v o).1 b
theorem aHo {v : List Body} {l : List OpI} {i : Nat} {o : OpI} (h : l[i]? = some o) (h1 : (eI (jE v (l.take i)) o).2.err = 0) (h2 : o.kind ≠ 5) : gG v (l.take (i + 1)) = gG v (l.take i) ++ [o] ∧ iC v (l.take (i + 1)) = iC v (l.take i) ++ [(eI (jE v (l.take i)) o).2] := by
 rw [cP h, vF, vD]
 exact ⟨congrArg _ (if_pos ⟨h1, h2⟩), congrArg _ (if_pos ⟨h1, h2⟩)⟩
theorem qY {v : List Body} {l : List OpI} {i : Nat} {o : OpI} (h : l[i]? = some o) (h1 : ¬ ((eI (jE v (l.take i)) o).2.err = 0 ∧ o.kind ≠ 5)) : gG v (l.take (i + 1)) = gG v (l.take i) ∧ iC v (l.take (i + 1)) = iC v (l.take i) := by
 rw [cP h, vF, vD]
 have e1 : gG (jE v (l.take i)) [o] = [] := if_neg h1
 have e2 : iC (jE v (l.take i)) [o] = [] := if_neg h1
 rw [e1, e2, List.append_nil, List.append_nil]
 exact ⟨rfl, rfl⟩
end Go.Bil

namespace Go.Bil
structure OkO (o : OpI) : Prop where
 body : InB o.body
 byt : jM o.bytes
 len : o.bytes.length ≤ 1000000
end Go.Bil

namespace Go.Bil
def dB (z : ResI) (r : Row) : List Value := [.int .i64 z.err, .slice r.A r.n r.c, .int .i64 z.cont, .bool z.cl]
structure OutR (T : Nat) (rs : List Row) (zs : List ResI) : Prop where
 len : rs.length = zs.length
 row : ∀ (j : Nat) (r : Row) (z : ResI), rs[j]? = some r → zs[j]? = some z → aU T 1 r.A r.n r.c (z.bytes.map bI) r.e
def lT (zs : List ResI) (rs : List Row) : List (List Value) := List.zipWith dB zs rs
theorem OutR.nil (T : Nat) : OutR T [] [] := ⟨rfl, by simp⟩
theorem OutR.add {T : Nat} {rs : List Row} {zs : List ResI} {r : Row} {z : ResI} (h : OutR T rs zs) (hr : aU T 1 r.A r.n r.c (z.bytes.map bI) r.e) : OutR T (rs ++ [r]) (zs ++ [z]) := by
 refine ⟨by simp [h.len], fun j q k hq hk => ?_⟩
 by_cases hj : j < rs.length
 ·rw [List.getElem?_append_left hj] at hq
  rw [List.getElem?_append_left (by rw [← h.len]; exact hj)] at hk
  exact h.row j q k hq hk
 ·have hj2 : j = rs.length := by
   have := (List.getElem?_eq_some_iff.1 hq).1
   simp at this
   omega
  rw [hj2, List.getElem?_append_right (Nat.le_refl _), Nat.sub_self] at hq
  rw [hj2, h.len, List.getElem?_append_right (Nat.le_refl _), Nat.sub_self] at hk
  simp only [List.getElem?_cons_zero, Option.some.injEq] at hq hk
  subst hq hk
  exact hr
theorem pP {zs : List ResI} {rs : List Row} (h : rs.length = zs.length) : (lT zs rs).length = zs.length := by unfold lT; rw [List.length_zipWith, h, Nat.min_self]
theorem aCa {zs : List ResI} {rs : List Row} (h : rs.length = zs.length) (z : ResI) (r : Row) : lT (zs ++ [z]) (rs ++ [r]) = lT zs rs ++ [dB z r] := by
 unfold lT
 rw [List.zipWith_append h.symm]
 rfl
theorem mQ {zs : List ResI} {rs : List Row} (h : rs.length = zs.length) {j : Nat} {z : ResI} (hz : zs[j]? = some z) : ∃ r, rs[j]? = some r ∧ (lT zs rs)[j]? = some (dB z r) := by
 have hj : j < rs.length := by rw [h]; exact (List.getElem?_eq_some_iff.1 hz).1
 have hr := List.getElem?_eq_getElem hj
 refine ⟨_, hr, ?_⟩
 unfold lT
 rw [List.getElem?_zipWith, hz, hr]
theorem OutR.rd {w0 w : World} {X : List Nat} {S : List dG} {T : Nat} {rs : List Row} {zs : List ResI} (h : OutR T rs zs) (M : Mem w0 X S w) (ht : ∀ r ∈ rs, r.e ∈ S) {j : Nat} {r : Row} {z : ResI} (hr : rs[j]? = some r) (hz : zs[j]? = some z) : Rd w 1 r.A r.n (z.bytes.map bI) :=
 (h.row j r z hr hz).rd M (ht r (List.mem_of_getElem? hr))
theorem bAm (l : List OpRow) : ∀ y ∈ l.map OpRow.cells, y.length = 15 := by
 intro y hy
 obtain ⟨x, _, rfl⟩ := List.mem_map.1 hy
 rfl
end Go.Bil

namespace Go.Bil
theorem bAp {v : List Body} {o : OpI} (h : o.kind = 1) : eI v o = ((pQ v o.body).1, { gP with err := (pQ v o.body).2 }) := by unfold eI; rw [if_neg (by omega)]; exact bJk (by simp; omega)
theorem aXz {v : List Body} {o : OpI} (h : o.kind = 2) : eI v o = ((fN v o.key).1, { gP with err := (fN v o.key).2 }) := by unfold eI; rw [if_neg (by omega)]; exact bHc (by simp; omega)
theorem bFj {v : List Body} {o : OpI} (h : o.kind = 3) : eI v o = ((oX v o.key o.push).1, { gP with err := (oX v o.key o.push).2 }) := by unfold eI; rw [if_neg (by omega)]; exact bIm (by simp; omega)
theorem bAe {v : List Body} {o : OpI} (h : o.kind = 4) : eI v o = (pX v, { gP with cont := ((mF v).length : Int), cl := sJ v }) := by unfold eI; rw [if_neg (by omega)]; exact bIr (by simp; omega)
theorem aXc {v : List Body} {o : OpI} (h : o.kind = 5) : eI v o = (v, { gP with bytes := wL v }) := by unfold eI; rw [if_neg (by omega)]; exact bCh (by simp; omega)
theorem bEi {v : List Body} {o : OpI} (h : o.kind = 6) : eI v o = (sP v o.bytes, { gP with err := (lM o.bytes).2 }) := by unfold eI; rw [if_neg (by omega)]; exact bIt (by simp; omega)
theorem lF {f : Int → Option Value} {k : Int} {v : Value} (h : f k = some v) : Value.tuple [((f k).getD .nilFunc), .bool (f k).isSome].toArray = Value.tuple [v, .bool true].toArray := by rw [h]; rfl
theorem aPj {f : Int → Option Value} {k : Int} (h : f k = none) : Value.tuple [((f k).getD .nilFunc), .bool (f k).isSome].toArray = Value.tuple [.nilFunc, .bool false].toArray := by rw [h]; rfl
def aEk (l : List OpRow) (X : List Nat) : Prop := ∀ x ∈ l, 0 < x.n → ∀ q off, x.A = some ⟨q, off, none⟩ → q ∉ X
def fT (l : List OpRow) : List OpI := l.map OpRow.o
theorem aFc {l : List OpRow} {i : Nat} {x : OpRow} (h : l[i]? = some x) : (fT l)[i]? = some x.o := by unfold fT; rw [List.getElem?_map, h]; rfl
theorem lX (l : List OpRow) : (fT l).length = l.length := List.length_map ..
end Go.Bil

namespace Go.Bil
theorem bJs {rs : List Row} : ∀ r ∈ rs, r.e ∈ rs.map Row.e := fun r hr => List.mem_map.2 ⟨r, hr, rfl⟩
theorem bJu {rs : List Row} {L T : List dG} (h : ∀ r ∈ rs, r.e ∈ T) : ∀ r ∈ rs, r.e ∈ L ++ T := fun r hr => List.mem_append_right _ (h r hr)
theorem OpsRd.none (w : World) : OpsRd w none 0 [] := ⟨Rd.nil w 15 Option.none, by simp⟩
theorem OpsRd.memY {w0 w : World} {X : List Nat} {S : List dG} {A : Option Addr} {n : Nat} {l : List OpRow} (h : OpsRd w0 A n l) (M : Mem w0 X S w) (hA : 0 < n → ∀ q off, A = some ⟨q, off, Option.none⟩ → q ∉ X) (hX : aEk l X) : OpsRd w A n l := ⟨h.rd.memY M hA, fun x hx => (h.each x hx).memY M (hX x hx)⟩
theorem OpsRd.sub {w : World} {A : Option Addr} {n c : Nat} {l : List OpRow} (h : OpsRd w A n l) (i j : Nat) (h1 : i ≤ j) (h2 : j ≤ n) (hc : n ≤ c) : OpsRd w (rC A c i 15) (j - i) ((l.drop i).take (j - i)) :=
 ⟨by rw [List.map_take, List.map_drop]; exact h.rd.sub i j h1 h2 hc, fun x hx => h.each x (List.mem_of_mem_drop (List.mem_of_mem_take hx))⟩
theorem Own.dummy (w : World) (o : Obj) : Own [(none, o)] w := ⟨by simp, by simp [bJ]⟩
def rL (k : Int) : OpRow := ⟨⟨k, aKt, 0, (0, 0), []⟩, none, 0, 0⟩
theorem bIv : InB aKt := ⟨by decide, by decide, by decide, by decide, by decide, by decide, by decide, by decide, by decide, by decide⟩
theorem bEv (w : World) (k : Int) : OpOk w (rL k).o (rL k).A (rL k).n (rL k).c :=
 ⟨Rd.nil w 1 none, Nat.le_refl _, by simp [rL, jM], bIv, (by decide : (-2147483648 : Int) ≤ 0 ∧ (0 : Int) ≤ 2147483647), (by decide : (-2147483648 : Int) ≤ 0 ∧ (0 : Int) ≤ 2147483647)⟩
def tG : List OpRow := [rL 1, rL 5, rL 7, rL 2, rL 4]
theorem aRb (w : World) : ∀ x ∈ tG, OpOk w x.o x.A x.n x.c := by
 intro x hx
 simp only [tG, List.mem_cons, List.not_mem_nil, or_false] at hx
 rcases hx with rfl | rfl | rfl | rfl | rfl <;> exact bEv w _
theorem aRp : ∀ x ∈ tG, x.n = 0 := by
 intro x hx
 simp only [tG, List.mem_cons, List.not_mem_nil, or_false] at hx
 rcases hx with rfl | rfl | rfl | rfl | rfl <;> rfl
theorem bJi {l : List OpRow} {X : List Nat} (h : ∀ x ∈ l, x.n = 0) : aEk l X := fun x hx hn => absurd hn (by rw [h x hx]; decide)
theorem aTb : mF [] = [] := by decide +kernel
theorem bHi : pX [] = [] := by
 unfold pX mN
 rw [aTb]
 decide +kernel
theorem bJb : sJ [] = false := by
 unfold sJ mN
 rw [aTb]
 decide +kernel
theorem bHu : eI [] (rL 1).o = ([], { gP with err := 4 }) := by rw [bAp rfl, show pQ [] (rL 1).o.body = ([], 4) by decide]
theorem bHx : eI [] (rL 5).o = ([], { gP with bytes := wL [] }) := by rw [aXc rfl]
theorem bIy : eI [] (rL 7).o = ([], { gP with err := 1 }) := by rw [oH (by decide)]
theorem bGx : eI [] (rL 2).o = ([], { gP with err := 11 }) := by rw [aXz rfl, show fN [] (rL 2).o.key = ([], 11) by decide]
theorem bHd : eI [] (rL 4).o = ([], gP) := by rw [bAe rfl, bHi, bJb, aTb]; rfl
theorem vV : jL [] (fT tG) = [{ gP with err := 4 }, { gP with bytes := wL [] }, { gP with err := 1 }, { gP with err := 11 }, gP] := by
 show [(eI [] (rL 1).o).2, (eI (eI [] (rL 1).o).1 (rL 5).o).2, (eI (eI (eI [] (rL 1).o).1 (rL 5).o).1 (rL 7).o).2, (eI (eI (eI (eI [] (rL 1).o).1 (rL 5).o).1 (rL 7).o).1 (rL 2).o).2, (eI (eI (eI (eI (eI [] (rL 1).o).1 (rL 5).o).1 (rL 7).o).1 (rL 2).o).1 (rL 4).o).2] = _
 rw [bHu, bHx, bIy, bGx, bHd]
end Go.Bil

namespace Go.Bil
open Go Go.RowKit Go.Deep
theorem aHe {α : Type} {f : α → List Value} {Q : α → Prop} : ∀ ls : List (List Value), (∀ y ∈ ls, ∃ x, y = f x ∧ Q x) → ∃ l : List α, ls = l.map f ∧ ∀ x ∈ l, Q x
 | [], _ => ⟨[], rfl, by simp⟩
 | y :: ls, h => by
  obtain ⟨x, rfl, hx⟩ := h y (by simp)
  obtain ⟨l, rfl, hl⟩ := aHe ls (fun z hz => h z (by simp [hz]))
  refine ⟨x :: l, rfl, fun z hz => ?_⟩
  rcases List.mem_cons.1 hz with rfl | hz
  ·exact hx
  ·exact hl z hz
theorem bFy (l : List Value) (h : kJ [.u8] l) : ∃ x : Int, l = bI x ∧ (0 ≤ x ∧ x ≤ 255) := by
 obtain ⟨z, l', rfl, hz, hl'⟩ := eK h
 obtain rfl := pA hl'
 exact ⟨z, rfl, hz⟩
section
variable {H : Type} {enc : TypeId × Value → H} {P : Program} {w : World} {base : Nat} {spare : Nat → Bool} {held : Bool}
theorem aKa {t e fuel : Nat} {cs : List Value} {x : DataW H × List MemPlace} (hu : P.underlying t = some (.slice e)) (h : DataW.trod enc P w base spare held fuel t cs = some x) : ∃ (A : Option Addr) (n c : Nat), cs = [.slice A n c] ∧ n ≤ c := by
 rcases open_slice hu h with ⟨rfl, _⟩ | ⟨a, l, c, m', n, D, Pl, rfl, hb, hlc, _⟩
 ·exact ⟨none, 0, 0, rfl, Nat.le_refl _⟩
 ·exact ⟨_, _, _, rfl, hlc⟩
structure OpT (P : Program) (m T T0 T1 T2 T3 T4 e8 b8 : Nat) (fs : Array Field) : Prop where
 u : P.underlying T = some (.struct fs)
 f : fs.toList.map (fun f => (f.type, f.offset)) = [(T0, 0), (T1, 1), (T2, 11), (T3, 12), (T4, 14)]
 sz : P.cellsOf T = 15
 l0 : kR P m T0 = some [.i64]
 l1 : kR P m T1 = some [.u32, .i32, .i32, .i32, .i32, .i32, .i32, .i32, .i32, .i32]
 l2 : kR P m T2 = some [.u32]
 l3 : kR P m T3 = some [.i32, .i32]
 l8 : kR P m e8 = some [.u8]
 c0 : P.cellsOf T0 = 1
 c1 : P.cellsOf T1 = 10
 c2 : P.cellsOf T2 = 1
 c3 : P.cellsOf T3 = 2
 c4 : P.cellsOf T4 = 1
 s : eH P T4 e8 1 b8 = true
theorem aKd {α : Type} {l : List α} (h : l.length = 15) : l = l.take 1 ++ (((l.drop 1).take 10) ++ (((l.drop 11).take 1) ++ (((l.drop 12).take 2) ++ ((l.drop 14).take 1)))) := by
 have e4 : (l.drop 14).take 1 = l.drop 14 := List.take_of_length_le (by rw [List.length_drop]; omega)
 have e3 : (l.drop 12).take 2 ++ l.drop 14 = l.drop 12 := by have g := List.take_append_drop 2 (l.drop 12); rwa [List.drop_drop] at g
 have e2 : (l.drop 11).take 1 ++ l.drop 12 = l.drop 11 := by have g := List.take_append_drop 1 (l.drop 11); rwa [List.drop_drop] at g
 have e1 : (l.drop 1).take 10 ++ l.drop 11 = l.drop 1 := by have g := List.take_append_drop 10 (l.drop 1); rwa [List.drop_drop] at g
 rw [e4, e3, e2, e1, List.take_append_drop]
theorem aJy {m T T0 T1 T2 T3 T4 e8 b8 : Nat} {fs : Array Field} (O : OpT P m T T0 T1 T2 T3 T4 e8 b8 fs) {fuel : Nat} {cs : List Value} {d : DataW H} {pl : List MemPlace} (hx : DataW.trod enc P w base spare held fuel T cs = some (d, pl)) (hw : ∀ n ∈ d.weights P T, n ≤ reachBytes) :
  ∃ x : OpRow, cs = x.cells ∧ OpOk w x.o x.A x.n x.c := by
 obtain ⟨xs, k, _, hd, hl, hxl, hfs⟩ := DataW.trod_struct O.u hx
 rw [O.sz] at hl
 have hlen : fs.toList.length = 5 := by have := congrArg List.length O.f; simpa using this
 have hf : ∀ (i : Nat) (t o : Nat), [(T0, 0), (T1, 1), (T2, 11), (T3, 12), (T4, 14)][i]? = some (t, o) → ∃ f, fs[i]? = some f ∧ f.type = t ∧ f.offset = o := by
  intro i t o hi
  rw [← O.f, List.getElem?_map] at hi
  cases hq : fs.toList[i]? with
  | none => rw [hq] at hi; cases hi
  | some f =>
   rw [hq] at hi
   simp only [Option.map_some, Option.some.injEq, Prod.mk.injEq] at hi
   exact ⟨f, by simpa using hq, hi⟩
 have part : ∀ (i : Nat) (t o z : Nat), [(T0, 0), (T1, 1), (T2, 11), (T3, 12), (T4, 14)][i]? = some (t, o) → P.cellsOf t = z → ∃ y, xs[i]? = some y ∧ DataW.trod enc P w base spare held k t ((cs.drop o).take z) = some y := by
  intro i t o z hi hz
  obtain ⟨f, h1, rfl, rfl⟩ := hf i t o hi
  have h2 := hfs i f h1
  have hlt : i < xs.length := by rw [hxl]; exact (Array.getElem?_eq_some_iff.1 h1).1
  rw [List.getElem?_eq_getElem hlt, hz] at h2
  exact ⟨_, List.getElem?_eq_getElem hlt, h2⟩
 obtain ⟨y0, _, p0⟩ := part 0 T0 0 1 rfl O.c0
 obtain ⟨y1, _, p1⟩ := part 1 T1 1 10 rfl O.c1
 obtain ⟨y2, _, p2⟩ := part 2 T2 11 1 rfl O.c2
 obtain ⟨y3, _, p3⟩ := part 3 T3 12 2 rfl O.c3
 obtain ⟨y4, q4, p4⟩ := part 4 T4 14 1 rfl O.c4
 obtain ⟨h1, h2, h3, h4, h5, h6, zv, hzv, hzs⟩ := eN O.s
 obtain ⟨A, n, c, hsl, hnc⟩ := aKa h1 p4
 rw [hsl] at p4
 have hT : DataW.Trod enc P w base spare held T4 (.slice A n c) y4.1 y4.2 := ⟨k, p4⟩
 have hw4 : ∀ n ∈ y4.1.weights P T4, n ≤ reachBytes := fun n hn => by
  refine hw n ?_
  obtain rfl : d = .agg (xs.map (·.1)) := (Prod.mk.inj hd).1
  simp only [DataW.weights, O.u]
  obtain ⟨f, g1, rfl, _⟩ := hf 4 T4 14 rfl
  have g1' : fs.toList[4]? = some f := by simpa using g1
  exact DataW.weights_mem_each (j := 4) (by rw [List.getElem?_map, g1']; rfl) (by rw [List.getElem?_map, q4]; rfl) n hn
 have hs := vI hw4 O.s hT
 obtain ⟨ls, R, hI⟩ := aOp O.s O.l8 rfl hs hT
 obtain ⟨bs, rfl, hbs⟩ := aNn bFy ls hI
 have i0 := iR m T0 _ k _ _ O.l0 p0
 have i1 := iR m T1 _ k _ _ O.l1 p1
 have i2 := iR m T2 _ k _ _ O.l2 p2
 have i3 := iR m T3 _ k _ _ O.l3 p3
 obtain ⟨kind, l', e0, _, hl'⟩ := eK i0
 obtain rfl := pA hl'
 obtain ⟨body, e1, hbody⟩ := bFi _ i1
 obtain ⟨key, l', e2, hkey, hl'⟩ := eK i2
 obtain rfl := pA hl'
 obtain ⟨dx, l', e3, hdx, hl'⟩ := eK i3
 obtain ⟨dy, l'', rfl, hdy, hl''⟩ := eK hl'
 obtain rfl := pA hl''
 refine ⟨⟨⟨kind, body, key, (dx, dy), bs⟩, A, n, c⟩, ?_, R, hnc, hbs, hbody, hdx, hdy⟩
 have e := aKd hl
 rw [List.drop_zero] at e0
 rw [e0, e1, e2, e3, hsl] at e
 rw [e]
 rfl
theorem aSk {m t T T0 T1 T2 T3 T4 e8 b8 bytes : Nat} {A : Option Addr} {len cap : Nat} {d : DataW H} {ps : List MemPlace} (ht : eH P t T 15 bytes = true) (O : ∃ fs, OpT P m T T0 T1 T2 T3 T4 e8 b8 fs) (hw : ∀ n ∈ d.weights P t, n ≤ reachBytes)
  (h : DataW.Trod enc P w base spare held t (.slice A len cap) d ps) : ∃ l : List OpRow, OpsRd w A len l := by
 obtain ⟨fs, O⟩ := O
 have hbig := vI hw ht h
 obtain ⟨h1, h2, h3, h4, h5, h6, zv, hzv, hzs⟩ := eN ht
 obtain ⟨fuel, hf⟩ := h
 have hle : len ≤ 140737488351232 := Nat.le_trans (Nat.le_mul_of_pos_right _ (Nat.pos_of_ne_zero h6)) hbig
 rcases open_slice h1 hf with ⟨hcs, _⟩ | ⟨a, l, c, m', n, D, Pl, hcs, hb, hlc, _, hm, hx0, hx⟩
 ·simp only [Value.cells, List.cons.injEq, Value.slice.injEq, and_true] at hcs
  obtain ⟨rfl, rfl, rfl⟩ := hcs
  exact ⟨[], Rd.nil w 15 none, by simp⟩
 ·simp only [Value.cells, List.cons.injEq, Value.slice.injEq, and_true] at hcs
  obtain ⟨rfl, rfl, rfl⟩ := hcs
  obtain ⟨rfl, _⟩ := Prod.mk.inj hx0
  have hlm : len ≤ m' := by rw [hm]; split <;> omega
  have hww := (rK h1 hw).2
  have hall : ∀ i, i < len → ∃ cs' : List Value, cs'.length = 15 ∧ (∀ j, j < 15 → w.cell? (a.add (i * 15 + j)) = cs'[j]?) ∧ (∃ x : OpRow, cs' = x.cells ∧ OpOk w x.o x.A x.n x.c) := fun i hi => by
   obtain ⟨cs', hc, ht'⟩ := hx i (by omega)
   rw [h3] at hc
   obtain ⟨q1, q2⟩ := pS hc
   refine ⟨cs', q1, fun j hj => ?_, aJy O ht' (hww (D i) (List.mem_map.2 ⟨i, List.mem_range.2 hi, rfl⟩))⟩
   rw [← q2 j hj, Addr.add_add]
  obtain ⟨ls, R, hQ⟩ := aHy (by omega) (by omega) hall
  obtain ⟨l, rfl, hl⟩ := aHe ls hQ
  exact ⟨l, R, hl⟩
end
end Go.Bil

namespace Go.Bil
open Go Go.RowKit
structure BytR (T : Nat) (rs : List Row) (bs : List (List Int)) : Prop where
 len : rs.length = bs.length
 row : ∀ (j : Nat) (r : Row) (b : List Int), rs[j]? = some r → bs[j]? = some b → aU T 1 r.A r.n r.c (b.map bI) r.e
theorem BytR.nil (T : Nat) : BytR T [] [] := ⟨rfl, by simp⟩
theorem BytR.add {T : Nat} {rs : List Row} {bs : List (List Int)} {r : Row} {b : List Int} (h : BytR T rs bs) (hr : aU T 1 r.A r.n r.c (b.map bI) r.e) : BytR T (rs ++ [r]) (bs ++ [b]) := by
 refine ⟨by simp [h.len], fun j q k hq hk => ?_⟩
 by_cases hj : j < rs.length
 ·rw [List.getElem?_append_left hj] at hq
  rw [List.getElem?_append_left (by rw [← h.len]; exact hj)] at hk
  exact h.row j q k hq hk
 ·have hj2 : j = rs.length := by
   have := (List.getElem?_eq_some_iff.1 hq).1
   simp at this
   omega
  rw [hj2, List.getElem?_append_right (Nat.le_refl _), Nat.sub_self] at hq
  rw [hj2, h.len, List.getElem?_append_right (Nat.le_refl _), Nat.sub_self] at hk
  simp only [List.getElem?_cons_zero, Option.some.injEq] at hq hk
  subst hq hk
  exact hr
theorem BytR.at {T : Nat} {rs : List Row} {bs : List (List Int)} (h : BytR T rs bs) {j : Nat} {b : List Int} (hb : bs[j]? = some b) : ∃ r, rs[j]? = some r ∧ aU T 1 r.A r.n r.c (b.map bI) r.e := by
 have hj : j < rs.length := by rw [h.len]; exact (List.getElem?_eq_some_iff.1 hb).1
 have hr := List.getElem?_eq_getElem hj
 exact ⟨_, hr, h.row j _ b hr hb⟩
structure BytRd (w : World) (A : Option Addr) (n : Nat) (rs : List Row) (bs : List (List Int)) : Prop where
 rd : Rd w 1 A n (rs.map hdr)
 len : rs.length = bs.length
 row : ∀ (j : Nat) (r : Row) (b : List Int), rs[j]? = some r → bs[j]? = some b → Rd w 1 r.A r.n (b.map bI) ∧ jM b ∧ r.n ≤ r.c
theorem BytRd.n_eq {w : World} {A : Option Addr} {n : Nat} {rs : List Row} {bs : List (List Int)} (h : BytRd w A n rs bs) : bs.length = n ∧ rs.length = n := by
 have := h.rd.len
 rw [List.length_map] at this
 exact ⟨by rw [← h.len]; exact this, this⟩
theorem BytRd.mem {w0 w : World} {S : List dG} {A : Option Addr} {n : Nat} {rs : List Row} {bs : List (List Int)} (h : BytRd w0 A n rs bs) (M : Mem w0 [] S w) : BytRd w A n rs bs :=
 ⟨h.rd.mem M, h.len, fun j r b hr hb => by obtain ⟨h1, h2, h3⟩ := h.row j r b hr hb; exact ⟨h1.mem M, h2, h3⟩⟩
def aTm (rs : List Row) (X : List Nat) : Prop := ∀ r ∈ rs, 0 < r.n → ∀ q off, r.A = some ⟨q, off, none⟩ → q ∉ X
theorem BytRd.memY {w0 w : World} {X : List Nat} {S : List dG} {A : Option Addr} {n : Nat} {rs : List Row} {bs : List (List Int)} (h : BytRd w0 A n rs bs) (M : Mem w0 X S w) (hA : 0 < n → ∀ q off, A = some ⟨q, off, none⟩ → q ∉ X) (hX : aTm rs X) : BytRd w A n rs bs :=
 ⟨h.rd.memY M hA, h.len, fun j r b hr hb => by obtain ⟨h1, h2, h3⟩ := h.row j r b hr hb; exact ⟨h1.memY M (hX r (List.mem_of_getElem? hr)), h2, h3⟩⟩
theorem BytRd.at {w : World} {A : Option Addr} {n : Nat} {rs : List Row} {bs : List (List Int)} (h : BytRd w A n rs bs) {j : Nat} (hj : j < n) : ∃ r b, rs[j]? = some r ∧ bs[j]? = some b ∧ (rs.map hdr)[j]? = some [.slice r.A r.n r.c] ∧ Rd w 1 r.A r.n (b.map bI) ∧ jM b ∧ r.n ≤ r.c := by
 obtain ⟨h1, h2⟩ := h.n_eq
 have hr := List.getElem?_eq_getElem (l := rs) (i := j) (by omega)
 have hb := List.getElem?_eq_getElem (l := bs) (i := j) (by omega)
 exact ⟨_, _, hr, hb, by rw [List.getElem?_map, hr]; rfl, h.row j _ _ hr hb⟩
theorem BytRd.none (w : World) : BytRd w none 0 [] [] := ⟨Rd.nil w 1 Option.none, rfl, by simp⟩
structure GoodO (o : OpI) : Prop where
 byt : jM o.bytes
 body : InB o.body
 p1 : -2147483648 ≤ o.push.1 ∧ o.push.1 ≤ 2147483647
 p2 : -2147483648 ≤ o.push.2 ∧ o.push.2 ≤ 2147483647
 len : o.bytes.length ≤ 1000000
theorem GoodO.ok {o : OpI} (h : GoodO o) : OkO o := ⟨h.body, h.byt, h.len⟩
theorem aIi : ∀ (l : List OpI) (v : List Body), (gG v l).length ≤ l.length
 | [], v => Nat.le_refl _
 | o :: l, v => by
  have h := aIi l (eI v o).1
  show (if _ then o :: gG (eI v o).1 l else gG (eI v o).1 l).length ≤ l.length + 1
  split
  ·show (gG (eI v o).1 l).length + 1 ≤ _; omega
  ·omega
theorem aWu (l : List OpI) (v : List Body) : (iC v l).length = (gG v l).length := by rw [← (zR l v).2.1, nL]
theorem aQk {v : List Body} {l lr : List OpRow} {i : Nat} {x : OpRow} (hx : l[i]? = some x) (h1 : (eI (jE v ((fT l).take i)) x.o).2.err = 0) (h2 : x.o.kind ≠ 5) (h : fT lr = gG v ((fT l).take i)) : fT (lr ++ [x]) = gG v ((fT l).take (i + 1)) := by
 rw [(aHo (aFc hx) h1 h2).1, ← h]
 unfold fT
 rw [List.map_append]
 rfl
theorem aTv {α : Type} {l lr : List α} {i : Nat} {x : α} (hx : l[i]? = some x) (h : ∀ y ∈ lr, y ∈ l) : ∀ y ∈ lr ++ [x], y ∈ l := by
 intro y hy
 rcases List.mem_append.1 hy with g | g
 ·exact h y g
 ·rw [List.mem_singleton.1 g]
  exact List.mem_of_getElem? hx
end Go.Bil
