/- Part of the proof of the laws of this seat: Mf2. No conditions. -/
import Derived.Test.YtlmcphcgiclanaaGreatDoorK6
import Derived.Test.YtlmcphcgiclanaaGreatDoorK18
import Derived.Test.YtlmcphcgiclanaaGreatDoorK32
set_option linter.unusedVariables false
set_option linter.unusedSimpArgs false
set_option linter.unnecessarySimpa false
namespace Go.Bil
def mD (b : Body) (j : Int × Int) : Body := { b with vx := hJ (b.vx + j.1 * b.mass / 65536) 16777216, vy := hJ (b.vy + j.2 * b.mass / 65536) 16777216 }
theorem aVl {b : Body} (h : Okb b) (j : Int × Int) : Okb (mD b j) := ⟨h.r, h.a, h.m, h.c, h.p, ⟨(dZ _ (by decide)).1, (dZ _ (by decide)).2, (dZ _ (by decide)).1, (dZ _ (by decide)).2⟩⟩
theorem aGl {b : Body} (h : Okb b) : check b = 0 := by
  have h1 := h.r
  have h2 := h.a
  have h3 := h.m
  have h4 := h.c
  have h5 := h.p
  have h6 := h.v
  unfold check qF
  rw [if_neg (by omega), if_neg (by omega), if_neg (by omega), if_neg (by omega), if_neg (by omega), if_neg (by omega)]
def yV (v : List Body) (k : Int) (j : Int × Int) : List Body × Int := if cE k v < 0 then (v, 11) else (rT v (mD (v.getD (cE k v).toNat default) j) false, 0)
structure OpI where
  kind : Int
  body : Body
  key : Int
  push : Int × Int
  bytes : List Int
structure ResI where
  err : Int
  body : Body
  bytes : List Int
  cont : Int
  cl : Bool
def bEf : ResI := ⟨0, aQc, [], 0, false⟩
def pN (v : List Body) (k : Int) : ResI := if cE k v < 0 then { bEf with err := 11 } else { bEf with body := v.getD (cE k v).toNat default }
def vM (v : List Body) (l : List Int) : List Body := if (kU l).2 = 0 then (kU l).1 else v
structure GoodV (v : List Body) : Prop where
  s : bW v
  len : v.length ≤ 4096
  ok : ∀ b ∈ v, check b = 0
  inb : ∀ b ∈ v, InB b
theorem GoodV.okb {v : List Body} (h : GoodV v) : ∀ b ∈ v, Okb b := fun b hb => aEs (h.ok b hb)
theorem GoodV.chk {v : List Body} (h : GoodV v) : gG v = 0 := aMy (aOz h.len h.ok) h.s
theorem GoodV.nil : GoodV [] := ⟨by simp [bW], by simp, by simp, by simp⟩
def eF (T : Nat) (r : StV) (v : List Body) : Prop := GoodV v ∧ ∃ m, StoreIs T r.A r.n r.c r.p r.er r.em m ∧ Rel m v
theorem vB {T : Nat} {r : StV} {m v : List Body} (h : StoreIs T r.A r.n r.c r.p r.er r.em m) (R : Rel m v) (hi : ∀ b ∈ m, InB b) : eF T r v :=
  ⟨⟨R.sorted, by rw [R.perm.length_eq]; exact h.cap, fun b hb => h.ok b (R.perm.mem_iff.1 hb), fun b hb => hi b (R.perm.mem_iff.1 hb)⟩, m, h, R⟩
theorem eF.new (T : Nat) (o o' : Obj) : eF T ⟨none, 0, 0, none, (none, o), (none, o')⟩ [] := vB (StoreIs.nil T o o') Rel.nil (by simp)
theorem aVx {m : List Body} {x : Body} (h : ∀ b ∈ m, InB b) (hx : InB x) : ∀ b ∈ (kD m x).1, InB b := by
  intro b hb
  unfold kD at hb
  split at hb
  · exact h b hb
  · split at hb
    · exact h b hb
    · split at hb
      · exact h b hb
      · rcases List.mem_append.1 hb with h1 | h1
        · exact h b h1
        · rw [List.mem_singleton] at h1; subst h1; exact hx
theorem aHh {m : List Body} (hk : gI m) {k : Int} (h : ∀ b ∈ m, InB b) : ∀ b ∈ (iI m k).1, InB b := fun b hb => h b (wZ.1 ((aFn hk k).mem_iff.1 hb)).1
theorem aWn {m : List Body} {x : Body} (h : ∀ b ∈ m, InB b) (hx : InB x) : ∀ b ∈ (qG m x).1, InB b := by
  intro b hb
  unfold qG at hb
  split at hb
  · exact h b hb
  · split at hb
    · exact h b hb
    · rcases List.mem_or_eq_of_mem_set hb with h1 | h1
      · exact h b h1
      · subst h1; exact hx
theorem GoodV.inm {v m : List Body} (h : GoodV v) (R : Rel m v) : ∀ b ∈ m, InB b := fun b hb => h.inb b (R.perm.mem_iff.2 hb)
theorem aXb {b : Body} (h : InB b) (j : Int × Int) : InB (mD b j) := by
  obtain ⟨h0, h1, h2, h3, h4, h5, h6, h7, h8, h9⟩ := h
  have a := dZ (b.vx + j.1 * b.mass / 65536) (l := 16777216) (by decide)
  have c := dZ (b.vy + j.2 * b.mass / 65536) (l := 16777216) (by decide)
  exact ⟨h0, h1, h2, h3, h4, h5, h6, h7, ⟨by show -2147483648 ≤ hJ _ _; omega, by show hJ _ _ ≤ 2147483647; omega⟩, ⟨by show -2147483648 ≤ hJ _ _; omega, by show hJ _ _ ≤ 2147483647; omega⟩⟩
theorem aXf {xs ys : List Body} (l : Like xs ys) (hx : ∀ b ∈ xs, InB b) (hy : ∀ b ∈ ys, Okb b) : ∀ b ∈ ys, InB b := by
  intro b hb
  obtain ⟨i, hi⟩ := List.getElem?_of_mem hb
  have hlt : i < xs.length := by rw [← l.len]; exact (List.getElem?_eq_some_iff.1 hi).1
  have hxi := List.getElem?_eq_getElem hlt
  have hs := l.at_ i _ b hxi hi
  obtain ⟨h0, _⟩ := hx _ (List.getElem_mem hlt)
  have o := hy b hb
  have o1 := o.r
  have o2 := o.a
  have o3 := o.m
  have o4 := o.c
  have o5 := o.p
  have o6 := o.v
  have := hs.key
  exact ⟨by omega, by omega, by omega, by omega, by omega, by omega, by omega, by omega, by omega, by omega⟩
theorem GoodV.step {v : List Body} (h : GoodV v) : GoodV (uB v) :=
  ⟨(sZ v).sorted h.s, by rw [(sZ v).len]; exact h.len, fun b hb => aGl (aLb h.okb b hb), aXf (sZ v) h.inb (aLb h.okb)⟩
theorem GoodV.dec {l : List Int} (hl : jD l) (hn : l.length ≤ 1000000) (h : (kU l).2 = 0) : GoodV (kU l).1 := by
  have d := aUe hl h
  have hc := d.c
  have h1 : nK (kU l).1 = 0 := by
    unfold gG at hc
    split at hc
    · rename_i hne; exact absurd hc hne
    · rename_i hne; exact Decidable.not_not.1 hne
  obtain ⟨h2, h3⟩ := aSd h1
  refine ⟨?_, h2, h3, d.inb⟩
  unfold gG at hc
  rw [if_neg (by omega)] at hc
  by_cases ha : yX (kU l).1 = true
  · exact oS ha
  · rw [if_neg ha] at hc; omega
theorem aGe {v : List Body} (h : GoodV v) : ∀ k, k ≤ v.length → aAt (v.take k) = v.take k := by
  intro k hk
  rw [wO h.s.keys h.len k hk]
  exact List.filter_eq_self.2 fun b hb => by simpa using h.ok b (List.mem_of_mem_take hb)
theorem aSo {v : List Body} (h : bW v) : Rel v v := ⟨List.Perm.refl _, h⟩
theorem xI {v : List Body} {k : Int} {i : Nat} {b : Body} (hf : cE k v = (i : Int)) (hb : v[i]? = some b) : v.getD (cE k v).toNat default = b := by
  rw [hf, Int.toNat_natCast, List.getD_eq_getElem?_getD, hb]
  rfl
theorem aMf {v : List Body} (h : GoodV v) : kU (kR v) = (v, 0) := aTp h.inb h.len h.chk
theorem aVu {m v : List Body} (R : Rel m v) (h : GoodV v) {k : Int} {i : Nat} {b : Body} (j : Int × Int) (hf : cE k v = (i : Int)) (hb : v[i]? = some b) : Rel (qG m (mD b j)).1 (yV v k j).1 ∧ (qG m (mD b j)).2 = 0 ∧ (yV v k j).2 = 0 ∧ (yV v k j).1 = rT v (mD b j) false := by
  have hbm : b ∈ v := List.mem_of_getElem? hb
  have hi : (yV v k j) = (rT v (mD b j) false, 0) := by unfold yV; rw [if_neg (by omega), xI hf hb]
  have hk : b.key = k := by
    rcases dE k v with ⟨h1, _⟩ | ⟨q, c, h1, h2, h3⟩
    · omega
    · have : q = i := by omega
      subst this
      rw [h1] at hb; injection hb with hb; rw [← hb]; exact h2
  have hp : check (mD b j) = 0 := aGl (aVl (h.okb b hbm) j)
  obtain ⟨h1, h2⟩ := R.set (mD b j)
  have hs : aPp v (mD b j) = (rT v (mD b j) false, 0) := by
    unfold aPp
    rw [if_neg (by omega), if_neg (by show ¬ cE b.key v < 0; rw [hk]; omega)]
  rw [hs] at h1 h2
  exact ⟨by rw [hi]; exact h1, h2.symm, by rw [hi], by rw [hi]⟩
theorem aDv {v : List Body} {k : Int} (j : Int × Int) (h : cE k v < 0) : yV v k j = (v, 11) := by unfold yV; rw [if_pos h]
end Go.Bil
namespace Go.Bil
theorem bEd {j m : Int} (hj : -2147483648 ≤ j ∧ j ≤ 2147483647) (hm : 0 ≤ m ∧ m ≤ 1048576) : -2251799813685248 ≤ j * m ∧ j * m ≤ 2251799813685248 := by
  have h1 : j * m ≤ 2147483647 * m := Int.mul_le_mul_of_nonneg_right hj.2 hm.1
  have h2 : -2147483648 * m ≤ j * m := Int.mul_le_mul_of_nonneg_right hj.1 hm.1
  omega
theorem aUx {m v : List Body} (R : Rel m v) (k : Int) : wL m k = ((pN v k).body, (pN v k).err) := by
  rcases R.get k with ⟨h1, h2⟩ | ⟨i, b, h1, h2, h3⟩
  · rw [h2]; unfold pN; rw [if_pos h1]; rfl
  · rw [h3]; unfold pN; rw [if_neg (by omega), xI h1 h2]; rfl
end Go.Bil
namespace Go.Bil
def aWf (o : OpI) (A : Option Addr) (n c : Nat) : List Value := [.int .i64 o.kind] ++ aI o.body ++ [.int .u32 o.key, .int .i32 o.push.1, .int .i32 o.push.2, .slice A n c]
structure OpOk (w : World) (o : OpI) (A : Option Addr) (n c : Nat) : Prop where
  rd : Rd w 1 A n (o.bytes.map cD)
  cap : n ≤ c
  byt : jD o.bytes
  body : InB o.body
  p1 : -2147483648 ≤ o.push.1 ∧ o.push.1 ≤ 2147483647
  p2 : -2147483648 ≤ o.push.2 ∧ o.push.2 ≤ 2147483647
theorem OpOk.len {w : World} {o : OpI} {A : Option Addr} {n c : Nat} (h : OpOk w o A n c) : o.bytes.length = n := by simpa using h.rd.len
theorem OpOk.mem {w0 w : World} {S : List dP} {o : OpI} {A : Option Addr} {n c : Nat} (h : OpOk w0 o A n c) (M : Mem w0 [] S w) : OpOk w o A n c := ⟨h.rd.mem M, h.cap, h.byt, h.body, h.p1, h.p2⟩
theorem OpOk.memY {w0 w : World} {X : List Nat} {S : List dP} {o : OpI} {A : Option Addr} {n c : Nat} (h : OpOk w0 o A n c) (M : Mem w0 X S w) (hX : 0 < n → ∀ q off, A = Option.some ⟨q, off, none⟩ → q ∉ X) : OpOk w o A n c := ⟨h.rd.memY M hX, h.cap, h.byt, h.body, h.p1, h.p2⟩
structure OpRow where
  o : OpI
  A : Option Addr
  n : Nat
  c : Nat
def OpRow.cells (x : OpRow) : List Value := aWf x.o x.A x.n x.c
structure OpsRd (w : World) (A : Option Addr) (n : Nat) (l : List OpRow) : Prop where
  rd : Rd w 15 A n (l.map OpRow.cells)
  each : ∀ x ∈ l, OpOk w x.o x.A x.n x.c
theorem OpsRd.mem {w0 w : World} {S : List dP} {A : Option Addr} {n : Nat} {l : List OpRow} (h : OpsRd w0 A n l) (M : Mem w0 [] S w) : OpsRd w A n l := ⟨h.rd.mem M, fun x hx => (h.each x hx).mem M⟩
end Go.Bil
namespace Go.Bil
end Go.Bil
namespace Go.Bil
theorem aOk {v : List Body} (h : GoodV v) (u : List Body) : vM u (kR v) = v := by unfold vM; rw [aMf h]; rfl
end Go.Bil
namespace Go.Bil
end Go.Bil
