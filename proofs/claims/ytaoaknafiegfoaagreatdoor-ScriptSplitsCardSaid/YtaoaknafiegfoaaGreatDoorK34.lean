/- Part of the proof of the laws of this seat: Mf2, Mf3, Mf4, Mf5, Mf6, Mf7, Fx3, Fx5. No conditions. -/
import Derived.Test.YtaoaknafiegfoaaGreatDoorK6
import Derived.Test.YtaoaknafiegfoaaGreatDoorK18
import Derived.Test.YtaoaknafiegfoaaGreatDoorK33
set_option linter.unusedVariables false
set_option linter.unusedSimpArgs false
set_option linter.unnecessarySimpa false
namespace Go.Bil
def mH (b : Body) (j : Int × Int) : Body := { b with vx := iS (b.vx + j.1 * b.mass / 65536) 16777216, vy := iS (b.vy + j.2 * b.mass / 65536) 16777216 }
theorem aUm {b : Body} (h : Okb b) (j : Int × Int) : Okb (mH b j) := ⟨h.r, h.a, h.m, h.c, h.p, ⟨(eO _ (by decide)).1, (eO _ (by decide)).2, (eO _ (by decide)).1, (eO _ (by decide)).2⟩⟩
theorem aCu {b : Body} (h : Okb b) : check b = 0 := by
 have h1 := h.r
 have h2 := h.a
 have h3 := h.m
 have h4 := h.c
 have h5 := h.p
 have h6 := h.v
 unfold check vS
 rw [if_neg (by omega), if_neg (by omega), if_neg (by omega), if_neg (by omega), if_neg (by omega), if_neg (by omega)]
def qF (v : List Body) (k : Int) (j : Int × Int) : List Body × Int := if dJ k v < 0 then (v, 11) else (wE v (mH (v.getD (dJ k v).toNat default) j) false, 0)
structure OpI where
 kind : Int
 body : Body
 key : Int
 push : Int × Int
 bytes : List Int
structure ResI where
 err : Int
 body : Body
 bytes : List Int
 cont : Int
 cl : Bool
def jP : ResI := ⟨0, aPn, [], 0, false⟩
def rA (v : List Body) (k : Int) : ResI := if dJ k v < 0 then { jP with err := 11 } else { jP with body := v.getD (dJ k v).toNat default }
def sK (v : List Body) (l : List Int) : List Body := if (nR l).2 = 0 then (nR l).1 else v
def doR (v : List Body) (o : OpI) : List Body × ResI :=
 if o.kind = 0 then ((nV v o.body).1, { jP with err := (nV v o.body).2 })
 else if o.kind = 1 then ((gK v o.key).1, { jP with err := (gK v o.key).2 })
 else if o.kind = 2 then ((qF v o.key o.push).1, { jP with err := (qF v o.key o.push).2 })
 else if o.kind = 3 then (sE v, { jP with cont := ((lL v).length : Int), cl := tW v })
 else if o.kind = 4 then (v, { jP with bytes := zJ v })
 else if o.kind = 5 then (sK v o.bytes, { jP with err := (nR o.bytes).2 })
 else if o.kind = 6 then (v, rA v o.key)
 else (v, jP)
structure GoodV (v : List Body) : Prop where
 s : cU v
 len : v.length ≤ 4096
 ok : ∀ b ∈ v, check b = 0
 inb : ∀ b ∈ v, InB b
theorem GoodV.okb {v : List Body} (h : GoodV v) : ∀ b ∈ v, Okb b := fun b hb => aLq (h.ok b hb)
theorem GoodV.chk {v : List Body} (h : GoodV v) : jB v = 0 := aXq (bEd h.len h.ok) h.s
theorem GoodV.nil : GoodV [] := ⟨by simp [cU], by simp, by simp, by simp⟩
def dF (T : Nat) (r : StV) (v : List Body) : Prop := GoodV v ∧ ∃ m, StoreIs T r.A r.n r.c r.p r.er r.em m ∧ Rel m v
theorem aBw {T : Nat} {r : StV} {m v : List Body} (h : StoreIs T r.A r.n r.c r.p r.er r.em m) (R : Rel m v) (hi : ∀ b ∈ m, InB b) : dF T r v :=
 ⟨⟨R.sorted, by rw [R.perm.length_eq]; exact h.cap, fun b hb => h.ok b (R.perm.mem_iff.1 hb), fun b hb => hi b (R.perm.mem_iff.1 hb)⟩, m, h, R⟩
theorem dF.new (T : Nat) (o o' : Obj) : dF T ⟨none, 0, 0, none, (none, o), (none, o')⟩ [] := aBw (StoreIs.nil T o o') Rel.nil (by simp)
theorem aTy {m : List Body} {x : Body} (h : ∀ b ∈ m, InB b) (hx : InB x) : ∀ b ∈ (nP m x).1, InB b := by
 intro b hb
 unfold nP at hb
 split at hb
 ·exact h b hb
 ·split at hb
  ·exact h b hb
  ·split at hb
   ·exact h b hb
   ·rcases List.mem_append.1 hb with h1 | h1
    ·exact h b h1
    ·rw [List.mem_singleton] at h1; subst h1; exact hx
theorem aCg {m : List Body} (hk : jZ m) {k : Int} (h : ∀ b ∈ m, InB b) : ∀ b ∈ (lI m k).1, InB b := fun b hb => h b (yG.1 ((aAu hk k).mem_iff.1 hb)).1
theorem aUr {m : List Body} {x : Body} (h : ∀ b ∈ m, InB b) (hx : InB x) : ∀ b ∈ (sJ m x).1, InB b := by
 intro b hb
 unfold sJ at hb
 split at hb
 ·exact h b hb
 ·split at hb
  ·exact h b hb
  ·rcases List.mem_or_eq_of_mem_set hb with h1 | h1
   ·exact h b h1
   ·subst h1; exact hx
theorem GoodV.inm {v m : List Body} (h : GoodV v) (R : Rel m v) : ∀ b ∈ m, InB b := fun b hb => h.inb b (R.perm.mem_iff.2 hb)
theorem aSp {b : Body} (h : InB b) (j : Int × Int) : InB (mH b j) := by
 obtain ⟨h0, h1, h2, h3, h4, h5, h6, h7, h8, h9⟩ := h
 have a := eO (b.vx + j.1 * b.mass / 65536) (l := 16777216) (by decide)
 have c := eO (b.vy + j.2 * b.mass / 65536) (l := 16777216) (by decide)
 exact ⟨h0, h1, h2, h3, h4, h5, h6, h7, ⟨by show -2147483648 ≤ iS _ _; omega, by show iS _ _ ≤ 2147483647; omega⟩, ⟨by show -2147483648 ≤ iS _ _; omega, by show iS _ _ ≤ 2147483647; omega⟩⟩
theorem bIs {xs ys : List Body} (l : Like xs ys) (hx : ∀ b ∈ xs, InB b) (hy : ∀ b ∈ ys, Okb b) : ∀ b ∈ ys, InB b := by
 intro b hb
 obtain ⟨i, hi⟩ := List.getElem?_of_mem hb
 have hlt : i < xs.length := by rw [← l.len]; exact (List.getElem?_eq_some_iff.1 hi).1
 have hxi := List.getElem?_eq_getElem hlt
 have hs := l.at_ i _ b hxi hi
 obtain ⟨h0, _⟩ := hx _ (List.getElem_mem hlt)
 have o := hy b hb
 have o1 := o.r
 have o2 := o.a
 have o3 := o.m
 have o4 := o.c
 have o5 := o.p
 have o6 := o.v
 have := hs.key
 exact ⟨by omega, by omega, by omega, by omega, by omega, by omega, by omega, by omega, by omega, by omega⟩
theorem GoodV.step {v : List Body} (h : GoodV v) : GoodV (sE v) :=
 ⟨(yV v).sorted h.s, by rw [(yV v).len]; exact h.len, fun b hb => aCu (aTw h.okb b hb), bIs (yV v) h.inb (aTw h.okb)⟩
theorem GoodV.dec {l : List Int} (hl : lS l) (hn : l.length ≤ 1000000) (h : (nR l).2 = 0) : GoodV (nR l).1 := by
 have d := bIk hl h
 have hc := d.c
 have h1 : nZ (nR l).1 = 0 := by
  unfold jB at hc
  split at hc
  ·rename_i hne; exact absurd hc hne
  ·rename_i hne; exact Decidable.not_not.1 hne
 obtain ⟨h2, h3⟩ := aYv h1
 refine ⟨?_, h2, h3, d.inb⟩
 unfold jB at hc
 rw [if_neg (by omega)] at hc
 by_cases ha : aGm (nR l).1 = true
 ·exact sW ha
 ·rw [if_neg ha] at hc; omega
theorem aNc {v : List Body} (h : GoodV v) : ∀ k, k ≤ v.length → aIa (v.take k) = v.take k := by
 intro k hk
 rw [aCk h.s.keys h.len k hk]
 exact List.filter_eq_self.2 fun b hb => by simpa using h.ok b (List.mem_of_mem_take hb)
theorem wQ {v : List Body} (h : cU v) : Rel v v := ⟨List.Perm.refl _, h⟩
theorem aWr {v : List Body} {l : List Int} (h : GoodV v) (hl : lS l) (hn : l.length ≤ 1000000) : GoodV (sK v l) := by
 unfold sK
 split
 ·rename_i hd; exact GoodV.dec hl hn hd
 ·exact h
theorem tO {v : List Body} {k : Int} {i : Nat} {b : Body} (hf : dJ k v = (i : Int)) (hb : v[i]? = some b) : v.getD (dJ k v).toNat default = b := by
 rw [hf, Int.toNat_natCast, List.getD_eq_getElem?_getD, hb]
 rfl
theorem aSs {m v : List Body} (R : Rel m v) (h : GoodV v) {k : Int} {i : Nat} {b : Body} (j : Int × Int) (hf : dJ k v = (i : Int)) (hb : v[i]? = some b) : Rel (sJ m (mH b j)).1 (qF v k j).1 ∧ (sJ m (mH b j)).2 = 0 ∧ (qF v k j).2 = 0 ∧ (qF v k j).1 = wE v (mH b j) false := by
 have hbm : b ∈ v := List.mem_of_getElem? hb
 have hi : (qF v k j) = (wE v (mH b j) false, 0) := by unfold qF; rw [if_neg (by omega), tO hf hb]
 have hk : b.key = k := by
  rcases eH k v with ⟨h1, _⟩ | ⟨q, c, h1, h2, h3⟩
  ·omega
  ·have : q = i := by omega
   subst this
   rw [h1] at hb; injection hb with hb; rw [← hb]; exact h2
 have hp : check (mH b j) = 0 := aCu (aUm (h.okb b hbm) j)
 obtain ⟨h1, h2⟩ := R.set (mH b j)
 have hs : bDw v (mH b j) = (wE v (mH b j) false, 0) := by
  unfold bDw
  rw [if_neg (by omega), if_neg (by show ¬ dJ b.key v < 0; rw [hk]; omega)]
 rw [hs] at h1 h2
 exact ⟨by rw [hi]; exact h1, h2.symm, by rw [hi], by rw [hi]⟩
theorem tD {v : List Body} {k : Int} (j : Int × Int) (h : dJ k v < 0) : qF v k j = (v, 11) := by unfold qF; rw [if_pos h]
end Go.Bil
namespace Go.Bil
theorem bGk {j m : Int} (hj : -2147483648 ≤ j ∧ j ≤ 2147483647) (hm : 0 ≤ m ∧ m ≤ 1048576) : -2251799813685248 ≤ j * m ∧ j * m ≤ 2251799813685248 := by
 have h1 : j * m ≤ 2147483647 * m := Int.mul_le_mul_of_nonneg_right hj.2 hm.1
 have h2 : -2147483648 * m ≤ j * m := Int.mul_le_mul_of_nonneg_right hj.1 hm.1
 omega
theorem bFz {m v : List Body} (R : Rel m v) (k : Int) : aDg m k = ((rA v k).body, (rA v k).err) := by
 rcases R.get k with ⟨h1, h2⟩ | ⟨i, b, h1, h2, h3⟩
 ·rw [h2]; unfold rA; rw [if_pos h1]; rfl
 ·rw [h3]; unfold rA; rw [if_neg (by omega), tO h1 h2]; rfl
end Go.Bil
namespace Go.Bil
theorem aYs {v : List Body} {o : OpI} (h0 : o.kind = 0) : doR v o = ((nV v o.body).1, { jP with err := (nV v o.body).2 }) := by unfold doR; rw [if_pos h0]
theorem bCt {v : List Body} {o : OpI} (h : o.kind = 1) : doR v o = ((gK v o.key).1, { jP with err := (gK v o.key).2 }) := by unfold doR; rw [if_neg (by omega), if_pos h]
theorem bAg {v : List Body} {o : OpI} (h : o.kind = 2) : doR v o = ((qF v o.key o.push).1, { jP with err := (qF v o.key o.push).2 }) := by unfold doR; rw [if_neg (by omega), if_neg (by omega), if_pos h]
theorem bAs {v : List Body} {o : OpI} (h : o.kind = 3) : doR v o = (sE v, { jP with cont := ((lL v).length : Int), cl := tW v }) := by unfold doR; rw [if_neg (by omega), if_neg (by omega), if_neg (by omega), if_pos h]
theorem bBx {v : List Body} {o : OpI} (h : o.kind = 4) : doR v o = (v, { jP with bytes := zJ v }) := by unfold doR; rw [if_neg (by omega), if_neg (by omega), if_neg (by omega), if_neg (by omega), if_pos h]
theorem aLi {v : List Body} {o : OpI} (h : o.kind = 5) : doR v o = (sK v o.bytes, { jP with err := (nR o.bytes).2 }) := by unfold doR; rw [if_neg (by omega), if_neg (by omega), if_neg (by omega), if_neg (by omega), if_neg (by omega), if_pos h]
theorem aOs {v : List Body} {o : OpI} (h : o.kind = 6) : doR v o = (v, rA v o.key) := by unfold doR; rw [if_neg (by omega), if_neg (by omega), if_neg (by omega), if_neg (by omega), if_neg (by omega), if_neg (by omega), if_pos h]
theorem bFt {v : List Body} {o : OpI} (h0 : ¬ o.kind = 0) (h1 : ¬ o.kind = 1) (h2 : ¬ o.kind = 2) (h3 : ¬ o.kind = 3) (h4 : ¬ o.kind = 4) (h5 : ¬ o.kind = 5) (h6 : ¬ o.kind = 6) : doR v o = (v, jP) := by
 unfold doR; rw [if_neg h0, if_neg h1, if_neg h2, if_neg h3, if_neg h4, if_neg h5, if_neg h6]
theorem zG {v : List Body} {k : Int} (h : dJ k v < 0) : rA v k = { jP with err := 11 } := by unfold rA; rw [if_pos h]
theorem yS {v : List Body} {k : Int} {i : Nat} {b : Body} (hf : dJ k v = (i : Int)) (hb : v[i]? = some b) : rA v k = { jP with body := b } := by unfold rA; rw [if_neg (by omega), tO hf hb]
def fJ (o : OpI) (A : Option Addr) (n c : Nat) : List Value := [.int .i64 o.kind] ++ aF o.body ++ [.int .u32 o.key, .int .i32 o.push.1, .int .i32 o.push.2, .slice A n c]
def bEb (A : Option Addr) (n c : Nat) (B : Option Addr) (m d : Nat) (z : ResI) : List Value := [.slice A n c, .int .i64 z.err] ++ aF z.body ++ [.slice B m d, .int .i64 z.cont, .bool z.cl]
structure OpOk (w : World) (o : OpI) (A : Option Addr) (n c : Nat) : Prop where
 rd : Rd w 1 A n (o.bytes.map bK)
 cap : n ≤ c
 byt : lS o.bytes
 body : InB o.body
 p1 : -2147483648 ≤ o.push.1 ∧ o.push.1 ≤ 2147483647
 p2 : -2147483648 ≤ o.push.2 ∧ o.push.2 ≤ 2147483647
theorem OpOk.len {w : World} {o : OpI} {A : Option Addr} {n c : Nat} (h : OpOk w o A n c) : o.bytes.length = n := by simpa using h.rd.len
theorem OpOk.mem {w0 w : World} {S : List eX} {o : OpI} {A : Option Addr} {n c : Nat} (h : OpOk w0 o A n c) (M : Mem w0 [] S w) : OpOk w o A n c := ⟨h.rd.mem M, h.cap, h.byt, h.body, h.p1, h.p2⟩
theorem OpOk.memY {w0 w : World} {X : List Nat} {S : List eX} {o : OpI} {A : Option Addr} {n c : Nat} (h : OpOk w0 o A n c) (M : Mem w0 X S w) (hX : 0 < n → ∀ q off, A = Option.some ⟨q, off, none⟩ → q ∉ X) : OpOk w o A n c := ⟨h.rd.memY M hX, h.cap, h.byt, h.body, h.p1, h.p2⟩
structure OpRow where
 o : OpI
 A : Option Addr
 n : Nat
 c : Nat
def OpRow.cells (x : OpRow) : List Value := fJ x.o x.A x.n x.c
structure OpsRd (w : World) (A : Option Addr) (n : Nat) (l : List OpRow) : Prop where
 rd : Rd w 15 A n (l.map OpRow.cells)
 each : ∀ x ∈ l, OpOk w x.o x.A x.n x.c
theorem OpsRd.mem {w0 w : World} {S : List eX} {A : Option Addr} {n : Nat} {l : List OpRow} (h : OpsRd w0 A n l) (M : Mem w0 [] S w) : OpsRd w A n l := ⟨h.rd.mem M, fun x hx => (h.each x hx).mem M⟩
end Go.Bil
namespace Go.Bil
end Go.Bil
namespace Go.Bil
end Go.Bil
namespace Go.Bil
end Go.Bil
namespace Go.Bil
end Go.Bil

namespace Go.Bil
def iV (v : List Body) (o : OpI) : List Body × ResI := if o.kind < 1 ∨ 6 < o.kind then (v, { jP with err := 1 }) else doR v { o with kind := o.kind - 1 }
def nS (v : List Body) : List OpI → List Body
 | [] => v
 | o :: l => nS (iV v o).1 l
def jF (v : List Body) : List OpI → List ResI
 | [] => []
 | o :: l => (iV v o).2 :: jF (iV v o).1 l
theorem aAr (v : List Body) : ∀ (a b : List OpI), nS v (a ++ b) = nS (nS v a) b
 | [], b => rfl
 | o :: a, b => aAr (iV v o).1 a b
theorem aAv (v : List Body) : ∀ (a b : List OpI), jF v (a ++ b) = jF v a ++ jF (nS v a) b := by
 intro a
 induction a generalizing v with
 | nil => intro b; rfl
 | cons o a ih => intro b; show _ :: jF (iV v o).1 (a ++ b) = _; rw [ih]; rfl
theorem aIc {v : List Body} {l : List OpI} {i : Nat} {o : OpI} (h : l[i]? = some o) : nS v (l.take (i + 1)) = (iV (nS v (l.take i)) o).1 := by rw [cP h, aAr]; rfl
theorem uD {v : List Body} {l : List OpI} {i : Nat} {o : OpI} (h : l[i]? = some o) : jF v (l.take (i + 1)) = jF v (l.take i) ++ [(iV (nS v (l.take i)) o).2] := by rw [cP h, aAv]; rfl
theorem nI (v : List Body) : ∀ l : List OpI, (jF v l).length = l.length
 | [] => rfl
 | o :: l => by show (jF (iV v o).1 l).length + 1 = l.length + 1; rw [nI (iV v o).1 l]
theorem iY {v : List Body} {o : OpI} (h : ¬ (1 ≤ o.kind ∧ o.kind ≤ 6)) : iV v o = (v, { jP with err := 1 }) := by unfold iV; rw [if_pos (by omega)]
end Go.Bil

namespace Go.Bil
structure OkO (o : OpI) : Prop where
 body : InB o.body
 byt : lS o.bytes
 len : o.bytes.length ≤ 1000000
theorem aCw {m v : List Body} (R : Rel m v) (hl : m.length ≤ 4096) (hc : ∀ b ∈ m, check b = 0) (hi : ∀ b ∈ m, InB b) : GoodV v :=
 ⟨R.sorted, by rw [R.perm.length_eq]; exact hl, fun b hb => hc b (R.perm.mem_iff.1 hb), fun b hb => hi b (R.perm.mem_iff.1 hb)⟩
theorem aYm {v : List Body} {b : Body} (h : GoodV v) (hb : InB b) : GoodV (nV v b).1 := by
 have R := ((wQ h.s).add b).1
 obtain ⟨_, h2, h3⟩ := aJq (x := b) ⟨h.s.keys, h.len, h.ok⟩
 exact aCw R h2 h3 (aTy h.inb hb)
theorem aMo {v : List Body} {k : Int} (h : GoodV v) : GoodV (gK v k).1 := by
 have R := ((wQ h.s).remove k).1
 have p := aAu h.s.keys k
 refine aCw R ?_ (fun b hb => h.ok b (yG.1 (p.mem_iff.1 hb)).1) (aCg h.s.keys h.inb)
 rw [p.length_eq]
 exact Nat.le_trans (List.length_filter_le _ _) h.len
theorem aYn {v : List Body} {k : Int} {j : Int × Int} (h : GoodV v) : GoodV (qF v k j).1 := by
 by_cases hf : dJ k v < 0
 ·rw [tD j hf]; exact h
 ·obtain ⟨i, bb, hbi, _, hfi⟩ := (eH k v).resolve_left (fun g => hf (by omega))
  obtain ⟨h1, h2, _, _⟩ := aSs (wQ h.s) h j hfi hbi
  have hbm := List.mem_of_getElem? hbi
  have hin := aUr h.inb (aSp (h.inb bb hbm) j)
  have hsm : ∀ b ∈ (sJ v (mH bb j)).1, b ∈ v ∨ b = mH bb j := by
   intro b hb
   unfold sJ at hb
   split at hb
   ·exact .inl hb
   ·split at hb
    ·exact .inl hb
    ·exact List.mem_or_eq_of_mem_set hb
  refine aCw h1 ?_ (fun b hb => ?_) hin
  ·unfold sJ
   split
   ·exact h.len
   ·split
    ·exact h.len
    ·rw [List.length_set]; exact h.len
  ·rcases hsm b hb with g | rfl
   ·exact h.ok b g
   ·exact aCu (aUm (h.okb bb hbm) j)
theorem bFy {v : List Body} {o : OpI} (h : GoodV v) (ho : OkO o) : GoodV (doR v o).1 := by
 by_cases h0 : o.kind = 0
 ·rw [aYs h0]; exact aYm h ho.body
 by_cases h1 : o.kind = 1
 ·rw [bCt h1]; exact aMo h
 by_cases h2 : o.kind = 2
 ·rw [bAg h2]; exact aYn h
 by_cases h3 : o.kind = 3
 ·rw [bAs h3]; exact h.step
 by_cases h4 : o.kind = 4
 ·rw [bBx h4]; exact h
 by_cases h5 : o.kind = 5
 ·rw [aLi h5]; exact aWr h ho.byt ho.len
 by_cases h6 : o.kind = 6
 ·rw [aOs h6]; exact h
 rw [bFt h0 h1 h2 h3 h4 h5 h6]; exact h
theorem bGd {v : List Body} {o : OpI} (h : GoodV v) (ho : OkO o) : GoodV (iV v o).1 := by
 unfold iV
 split
 ·exact h
 ·exact bFy h ⟨ho.body, ho.byt, ho.len⟩
theorem aNy : ∀ {l : List OpI} {v : List Body}, GoodV v → (∀ o ∈ l, OkO o) → GoodV (nS v l)
 | [], v, h, _ => h
 | o :: l, v, h, hl => by
  show GoodV (nS (iV v o).1 l)
  exact aNy (bGd h (hl o (by simp))) (fun q hq => hl q (by simp [hq]))
theorem aHf {l : List OpI} (v : List Body) {a : Nat} : jF v l = jF v (l.take a) ++ jF (nS v (l.take a)) (l.drop a) := by rw [← aAv, List.take_append_drop]
end Go.Bil

namespace Go.Bil
def dY (z : ResI) (r : Row) : List Value := [.int .i64 z.err, .slice r.A r.n r.c, .int .i64 z.cont, .bool z.cl]
structure OutR (T : Nat) (rs : List Row) (zs : List ResI) : Prop where
 len : rs.length = zs.length
 row : ∀ (j : Nat) (r : Row) (z : ResI), rs[j]? = some r → zs[j]? = some z → bC T 1 r.A r.n r.c (z.bytes.map bK) r.e
def mD (zs : List ResI) (rs : List Row) : List (List Value) := List.zipWith dY zs rs
theorem OutR.nil (T : Nat) : OutR T [] [] := ⟨rfl, by simp⟩
theorem OutR.add {T : Nat} {rs : List Row} {zs : List ResI} {r : Row} {z : ResI} (h : OutR T rs zs) (hr : bC T 1 r.A r.n r.c (z.bytes.map bK) r.e) : OutR T (rs ++ [r]) (zs ++ [z]) := by
 refine ⟨by simp [h.len], fun j q k hq hk => ?_⟩
 by_cases hj : j < rs.length
 ·rw [List.getElem?_append_left hj] at hq
  rw [List.getElem?_append_left (by rw [← h.len]; exact hj)] at hk
  exact h.row j q k hq hk
 ·have hj2 : j = rs.length := by
   have := (List.getElem?_eq_some_iff.1 hq).1
   simp at this
   omega
  rw [hj2, List.getElem?_append_right (Nat.le_refl _), Nat.sub_self] at hq
  rw [hj2, h.len, List.getElem?_append_right (Nat.le_refl _), Nat.sub_self] at hk
  simp only [List.getElem?_cons_zero, Option.some.injEq] at hq hk
  subst hq hk
  exact hr
theorem oL {zs : List ResI} {rs : List Row} (h : rs.length = zs.length) : (mD zs rs).length = zs.length := by unfold mD; rw [List.length_zipWith, h, Nat.min_self]
theorem aHk {zs : List ResI} {rs : List Row} (h : rs.length = zs.length) (z : ResI) (r : Row) : mD (zs ++ [z]) (rs ++ [r]) = mD zs rs ++ [dY z r] := by
 unfold mD
 rw [List.zipWith_append h.symm]
 rfl
theorem oD {zs : List ResI} {rs : List Row} (h : rs.length = zs.length) {j : Nat} {z : ResI} (hz : zs[j]? = some z) : ∃ r, rs[j]? = some r ∧ (mD zs rs)[j]? = some (dY z r) := by
 have hj : j < rs.length := by rw [h]; exact (List.getElem?_eq_some_iff.1 hz).1
 have hr := List.getElem?_eq_getElem hj
 refine ⟨_, hr, ?_⟩
 unfold mD
 rw [List.getElem?_zipWith, hz, hr]
theorem OutR.rd {w0 w : World} {X : List Nat} {S : List eX} {T : Nat} {rs : List Row} {zs : List ResI} (h : OutR T rs zs) (M : Mem w0 X S w) (ht : ∀ r ∈ rs, r.e ∈ S) {j : Nat} {r : Row} {z : ResI} (hr : rs[j]? = some r) (hz : zs[j]? = some z) : Rd w 1 r.A r.n (z.bytes.map bK) :=
 (h.row j r z hr hz).rd M (ht r (List.mem_of_getElem? hr))
theorem bHr (l : List OpRow) : ∀ y ∈ l.map OpRow.cells, y.length = 15 := by
 intro y hy
 obtain ⟨x, _, rfl⟩ := List.mem_map.1 hy
 rfl
end Go.Bil

namespace Go.Bil
theorem bFg {v : List Body} {o : OpI} (h : o.kind = 1) : iV v o = ((nV v o.body).1, { jP with err := (nV v o.body).2 }) := by unfold iV; rw [if_neg (by omega)]; exact aYs (by simp; omega)
theorem bGy {v : List Body} {o : OpI} (h : o.kind = 2) : iV v o = ((gK v o.key).1, { jP with err := (gK v o.key).2 }) := by unfold iV; rw [if_neg (by omega)]; exact bCt (by simp; omega)
theorem bLb {v : List Body} {o : OpI} (h : o.kind = 3) : iV v o = ((qF v o.key o.push).1, { jP with err := (qF v o.key o.push).2 }) := by unfold iV; rw [if_neg (by omega)]; exact bAg (by simp; omega)
theorem bHd {v : List Body} {o : OpI} (h : o.kind = 4) : iV v o = (sE v, { jP with cont := ((lL v).length : Int), cl := tW v }) := by unfold iV; rw [if_neg (by omega)]; exact bAs (by simp; omega)
theorem bFx {v : List Body} {o : OpI} (h : o.kind = 5) : iV v o = (v, { jP with bytes := zJ v }) := by unfold iV; rw [if_neg (by omega)]; exact bBx (by simp; omega)
theorem bNd {v : List Body} {o : OpI} (h : o.kind = 6) : iV v o = (sK v o.bytes, { jP with err := (nR o.bytes).2 }) := by unfold iV; rw [if_neg (by omega)]; exact aLi (by simp; omega)
theorem aYt {v : List Body} {o : OpI} (h : ¬ (o.kind < 1 ∨ 6 < o.kind)) : iV v o = doR v { o with kind := o.kind - 1 } := by unfold iV; rw [if_neg h]
theorem oJ {f : Int → Option Value} {k : Int} {v : Value} (h : f k = some v) : Value.tuple [((f k).getD .nilFunc), .bool (f k).isSome].toArray = Value.tuple [v, .bool true].toArray := by rw [h]; rfl
theorem aXu {f : Int → Option Value} {k : Int} (h : f k = none) : Value.tuple [((f k).getD .nilFunc), .bool (f k).isSome].toArray = Value.tuple [.nilFunc, .bool false].toArray := by rw [h]; rfl
def aCf (l : List OpRow) (X : List Nat) : Prop := ∀ x ∈ l, 0 < x.n → ∀ q off, x.A = some ⟨q, off, none⟩ → q ∉ X
def gH (l : List OpRow) : List OpI := l.map OpRow.o
theorem aSq {l : List OpRow} {i : Nat} {x : OpRow} (h : l[i]? = some x) : (gH l)[i]? = some x.o := by unfold gH; rw [List.getElem?_map, h]; rfl
theorem lZ (l : List OpRow) : (gH l).length = l.length := List.length_map ..
theorem aGw (l : List OpRow) (k : Nat) : gH (l.take k) = (gH l).take k := by unfold gH; rw [List.map_take]
theorem aIk (l : List OpRow) (k : Nat) : gH (l.drop k) = (gH l).drop k := by unfold gH; rw [List.map_drop]
theorem OpOk.okO {w : World} {o : OpI} {A : Option Addr} {n c : Nat} (h : OpOk w o A n c) (hn : n ≤ 1000000) : OkO o := ⟨h.body, h.byt, by rw [h.len]; exact hn⟩
theorem OpsRd.okO {w : World} {A : Option Addr} {n : Nat} {l : List OpRow} (h : OpsRd w A n l) (hby : ∀ x ∈ l, x.n ≤ 1000000) : ∀ o ∈ gH l, OkO o := by
 intro o ho
 obtain ⟨x, hx, rfl⟩ := List.mem_map.1 ho
 exact (h.each x hx).okO (hby x hx)
end Go.Bil

namespace Go.Bil
theorem uO (v : List Body) (l : List OpRow) : (jF v (gH l)).length = l.length := by rw [nI, lZ]
theorem aQs {rs : List Row} : ∀ r ∈ rs, r.e ∈ rs.map Row.e := fun r hr => List.mem_map.2 ⟨r, hr, rfl⟩
theorem aBj {rs : List Row} {L T : List eX} (h : ∀ r ∈ rs, r.e ∈ T) : ∀ r ∈ rs, r.e ∈ L ++ T := fun r hr => List.mem_append_right _ (h r hr)
theorem aWa {rs : List Row} {L T : List eX} (h : ∀ r ∈ rs, r.e ∈ L) : ∀ r ∈ rs, r.e ∈ L ++ T := fun r hr => List.mem_append_left _ (h r hr)
theorem OpsRd.none (w : World) : OpsRd w none 0 [] := ⟨Rd.nil w 15 Option.none, by simp⟩
theorem OpsRd.memY {w0 w : World} {X : List Nat} {S : List eX} {A : Option Addr} {n : Nat} {l : List OpRow} (h : OpsRd w0 A n l) (M : Mem w0 X S w) (hA : 0 < n → ∀ q off, A = some ⟨q, off, Option.none⟩ → q ∉ X) (hX : aCf l X) : OpsRd w A n l := ⟨h.rd.memY M hA, fun x hx => (h.each x hx).memY M (hX x hx)⟩
theorem OpsRd.sub {w : World} {A : Option Addr} {n c : Nat} {l : List OpRow} (h : OpsRd w A n l) (i j : Nat) (h1 : i ≤ j) (h2 : j ≤ n) (hc : n ≤ c) : OpsRd w (vE A c i 15) (j - i) ((l.drop i).take (j - i)) :=
 ⟨by rw [List.map_take, List.map_drop]; exact h.rd.sub i j h1 h2 hc, fun x hx => h.each x (List.mem_of_mem_drop (List.mem_of_mem_take hx))⟩
theorem Own.dummy (w : World) (o : Obj) : Own [(none, o)] w := ⟨by simp, by simp [cB]⟩
def vN (k : Int) : OpRow := ⟨⟨k, aPn, 0, (0, 0), []⟩, none, 0, 0⟩
theorem bRg : InB aPn := ⟨by decide, by decide, by decide, by decide, by decide, by decide, by decide, by decide, by decide, by decide⟩
theorem bNy (w : World) (k : Int) : OpOk w (vN k).o (vN k).A (vN k).n (vN k).c :=
 ⟨Rd.nil w 1 none, Nat.le_refl _, by simp [vN, lS], bRg, (by decide : (-2147483648 : Int) ≤ 0 ∧ (0 : Int) ≤ 2147483647), (by decide : (-2147483648 : Int) ≤ 0 ∧ (0 : Int) ≤ 2147483647)⟩
def wT : List OpRow := [vN 1, vN 5, vN 7, vN 2, vN 4]
theorem aXg (w : World) : ∀ x ∈ wT, OpOk w x.o x.A x.n x.c := by
 intro x hx
 simp only [wT, List.mem_cons, List.not_mem_nil, or_false] at hx
 rcases hx with rfl | rfl | rfl | rfl | rfl <;> exact bNy w _
theorem bDf : ∀ x ∈ wT, x.n = 0 := by
 intro x hx
 simp only [wT, List.mem_cons, List.not_mem_nil, or_false] at hx
 rcases hx with rfl | rfl | rfl | rfl | rfl <;> rfl
theorem bQp {l : List OpRow} {X : List Nat} (h : ∀ x ∈ l, x.n = 0) : aCf l X := fun x hx hn => absurd hn (by rw [h x hx]; decide)
theorem bCz : lL [] = [] := by decide +kernel
theorem bQf : sE [] = [] := by
 unfold sE lF
 rw [bCz]
 decide +kernel
theorem bQa : tW [] = false := by
 unfold tW lF
 rw [bCz]
 decide +kernel
theorem bQv : iV [] (vN 1).o = ([], { jP with err := 4 }) := by rw [bFg rfl, show nV [] (vN 1).o.body = ([], 4) by decide]
theorem bPi : iV [] (vN 5).o = ([], { jP with bytes := zJ [] }) := by rw [bFx rfl]
theorem bPr : iV [] (vN 7).o = ([], { jP with err := 1 }) := by rw [iY (by decide)]
theorem bRf : iV [] (vN 2).o = ([], { jP with err := 11 }) := by rw [bGy rfl, show gK [] (vN 2).o.key = ([], 11) by decide]
theorem bQh : iV [] (vN 4).o = ([], jP) := by rw [bHd rfl, bQf, bQa, bCz]; rfl
theorem aAe : jF [] (gH wT) = [{ jP with err := 4 }, { jP with bytes := zJ [] }, { jP with err := 1 }, { jP with err := 11 }, jP] := by
 show [(iV [] (vN 1).o).2, (iV (iV [] (vN 1).o).1 (vN 5).o).2, (iV (iV (iV [] (vN 1).o).1 (vN 5).o).1 (vN 7).o).2, (iV (iV (iV (iV [] (vN 1).o).1 (vN 5).o).1 (vN 7).o).1 (vN 2).o).2, (iV (iV (iV (iV (iV [] (vN 1).o).1 (vN 5).o).1 (vN 7).o).1 (vN 2).o).1 (vN 4).o).2] = _
 rw [bQv, bPi, bPr, bRf, bQh]
theorem aYk {v : List Body} {l : List OpRow} {kk i : Nat} {z : ResI} (h : i < kk) (hz : (jF v (gH l))[i]? = some z) : (jF v (gH (l.take kk)))[i]? = some z := by
 have hi := (List.getElem?_eq_some_iff.1 hz).1
 rw [uO] at hi
 rw [aHf v (a := kk), ← aGw, ← aIk, List.getElem?_append_left (by rw [uO, List.length_take]; omega)] at hz
 exact hz
theorem aYw {v : List Body} {l : List OpRow} {kk i : Nat} {z : ResI} (h : kk ≤ i) (hk : kk ≤ l.length) (hz : (jF v (gH l))[i]? = some z) : (jF (nS v (gH (l.take kk))) (gH (l.drop kk)))[i - kk]? = some z := by
 have e : (jF v (gH (l.take kk))).length = kk := by rw [uO, List.length_take]; omega
 rw [aHf v (a := kk), ← aGw, ← aIk, List.getElem?_append_right (by omega), e] at hz
 exact hz
end Go.Bil

namespace Go.Bil
open Go Go.RowKit Go.Deep
theorem aNh {α : Type} {f : α → List Value} {Q : α → Prop} : ∀ ls : List (List Value), (∀ y ∈ ls, ∃ x, y = f x ∧ Q x) → ∃ l : List α, ls = l.map f ∧ ∀ x ∈ l, Q x
 | [], _ => ⟨[], rfl, by simp⟩
 | y :: ls, h => by
  obtain ⟨x, rfl, hx⟩ := h y (by simp)
  obtain ⟨l, rfl, hl⟩ := aNh ls (fun z hz => h z (by simp [hz]))
  refine ⟨x :: l, rfl, fun z hz => ?_⟩
  rcases List.mem_cons.1 hz with rfl | hz
  ·exact hx
  ·exact hl z hz
theorem bNx (l : List Value) (h : nG [.u8] l) : ∃ x : Int, l = bK x ∧ (0 ≤ x ∧ x ≤ 255) := by
 obtain ⟨z, l', rfl, hz, hl'⟩ := gG h
 obtain rfl := tF hl'
 exact ⟨z, rfl, hz⟩
section
variable {H : Type} {enc : TypeId × Value → H} {P : Program} {w : World} {base : Nat} {spare : Nat → Bool} {held : Bool}
theorem aOr {t e fuel : Nat} {cs : List Value} {x : DataW H × List MemPlace} (hu : P.underlying t = some (.slice e)) (h : DataW.trod enc P w base spare held fuel t cs = some x) : ∃ (A : Option Addr) (n c : Nat), cs = [.slice A n c] ∧ n ≤ c := by
 rcases open_slice hu h with ⟨rfl, _⟩ | ⟨a, l, c, m', n, D, Pl, rfl, hb, hlc, _⟩
 ·exact ⟨none, 0, 0, rfl, Nat.le_refl _⟩
 ·exact ⟨_, _, _, rfl, hlc⟩
structure OpT (P : Program) (m T T0 T1 T2 T3 T4 e8 b8 : Nat) (fs : Array Field) : Prop where
 u : P.underlying T = some (.struct fs)
 f : fs.toList.map (fun f => (f.type, f.offset)) = [(T0, 0), (T1, 1), (T2, 11), (T3, 12), (T4, 14)]
 sz : P.cellsOf T = 15
 l0 : nQ P m T0 = some [.i64]
 l1 : nQ P m T1 = some [.u32, .i32, .i32, .i32, .i32, .i32, .i32, .i32, .i32, .i32]
 l2 : nQ P m T2 = some [.u32]
 l3 : nQ P m T3 = some [.i32, .i32]
 l8 : nQ P m e8 = some [.u8]
 c0 : P.cellsOf T0 = 1
 c1 : P.cellsOf T1 = 10
 c2 : P.cellsOf T2 = 1
 c3 : P.cellsOf T3 = 2
 c4 : P.cellsOf T4 = 1
 s : fN P T4 e8 1 b8 = true
theorem aQo {α : Type} {l : List α} (h : l.length = 15) : l = l.take 1 ++ (((l.drop 1).take 10) ++ (((l.drop 11).take 1) ++ (((l.drop 12).take 2) ++ ((l.drop 14).take 1)))) := by
 have e4 : (l.drop 14).take 1 = l.drop 14 := List.take_of_length_le (by rw [List.length_drop]; omega)
 have e3 : (l.drop 12).take 2 ++ l.drop 14 = l.drop 12 := by have g := List.take_append_drop 2 (l.drop 12); rwa [List.drop_drop] at g
 have e2 : (l.drop 11).take 1 ++ l.drop 12 = l.drop 11 := by have g := List.take_append_drop 1 (l.drop 11); rwa [List.drop_drop] at g
 have e1 : (l.drop 1).take 10 ++ l.drop 11 = l.drop 1 := by have g := List.take_append_drop 10 (l.drop 1); rwa [List.drop_drop] at g
 rw [e4, e3, e2, e1, List.take_append_drop]
theorem aPv {m T T0 T1 T2 T3 T4 e8 b8 : Nat} {fs : Array Field} (O : OpT P m T T0 T1 T2 T3 T4 e8 b8 fs) {fuel : Nat} {cs : List Value} {d : DataW H} {pl : List MemPlace} (hx : DataW.trod enc P w base spare held fuel T cs = some (d, pl)) (hw : ∀ n ∈ d.weights P T, n ≤ reachBytes) :
  ∃ x : OpRow, cs = x.cells ∧ OpOk w x.o x.A x.n x.c := by
 obtain ⟨xs, k, _, hd, hl, hxl, hfs⟩ := DataW.trod_struct O.u hx
 rw [O.sz] at hl
 have hlen : fs.toList.length = 5 := by have := congrArg List.length O.f; simpa using this
 have hf : ∀ (i : Nat) (t o : Nat), [(T0, 0), (T1, 1), (T2, 11), (T3, 12), (T4, 14)][i]? = some (t, o) → ∃ f, fs[i]? = some f ∧ f.type = t ∧ f.offset = o := by
  intro i t o hi
  rw [← O.f, List.getElem?_map] at hi
  cases hq : fs.toList[i]? with
  | none => rw [hq] at hi; cases hi
  | some f =>
   rw [hq] at hi
   simp only [Option.map_some, Option.some.injEq, Prod.mk.injEq] at hi
   exact ⟨f, by simpa using hq, hi⟩
 have part : ∀ (i : Nat) (t o z : Nat), [(T0, 0), (T1, 1), (T2, 11), (T3, 12), (T4, 14)][i]? = some (t, o) → P.cellsOf t = z → ∃ y, xs[i]? = some y ∧ DataW.trod enc P w base spare held k t ((cs.drop o).take z) = some y := by
  intro i t o z hi hz
  obtain ⟨f, h1, rfl, rfl⟩ := hf i t o hi
  have h2 := hfs i f h1
  have hlt : i < xs.length := by rw [hxl]; exact (Array.getElem?_eq_some_iff.1 h1).1
  rw [List.getElem?_eq_getElem hlt, hz] at h2
  exact ⟨_, List.getElem?_eq_getElem hlt, h2⟩
 obtain ⟨y0, _, p0⟩ := part 0 T0 0 1 rfl O.c0
 obtain ⟨y1, _, p1⟩ := part 1 T1 1 10 rfl O.c1
 obtain ⟨y2, _, p2⟩ := part 2 T2 11 1 rfl O.c2
 obtain ⟨y3, _, p3⟩ := part 3 T3 12 2 rfl O.c3
 obtain ⟨y4, q4, p4⟩ := part 4 T4 14 1 rfl O.c4
 obtain ⟨h1, h2, h3, h4, h5, h6, zv, hzv, hzs⟩ := gB O.s
 obtain ⟨A, n, c, hsl, hnc⟩ := aOr h1 p4
 rw [hsl] at p4
 have hT : DataW.Trod enc P w base spare held T4 (.slice A n c) y4.1 y4.2 := ⟨k, p4⟩
 have hw4 : ∀ n ∈ y4.1.weights P T4, n ≤ reachBytes := fun n hn => by
  refine hw n ?_
  obtain rfl : d = .agg (xs.map (·.1)) := (Prod.mk.inj hd).1
  simp only [DataW.weights, O.u]
  obtain ⟨f, g1, rfl, _⟩ := hf 4 T4 14 rfl
  have g1' : fs.toList[4]? = some f := by simpa using g1
  exact DataW.weights_mem_each (j := 4) (by rw [List.getElem?_map, g1']; rfl) (by rw [List.getElem?_map, q4]; rfl) n hn
 have hs := aAt hw4 O.s hT
 obtain ⟨ls, R, hI⟩ := aVm O.s O.l8 rfl hs hT
 obtain ⟨bs, rfl, hbs⟩ := aSv bNx ls hI
 have i0 := kG m T0 _ k _ _ O.l0 p0
 have i1 := kG m T1 _ k _ _ O.l1 p1
 have i2 := kG m T2 _ k _ _ O.l2 p2
 have i3 := kG m T3 _ k _ _ O.l3 p3
 obtain ⟨kind, l', e0, _, hl'⟩ := gG i0
 obtain rfl := tF hl'
 obtain ⟨body, e1, hbody⟩ := bMg _ i1
 obtain ⟨key, l', e2, hkey, hl'⟩ := gG i2
 obtain rfl := tF hl'
 obtain ⟨dx, l', e3, hdx, hl'⟩ := gG i3
 obtain ⟨dy, l'', rfl, hdy, hl''⟩ := gG hl'
 obtain rfl := tF hl''
 refine ⟨⟨⟨kind, body, key, (dx, dy), bs⟩, A, n, c⟩, ?_, R, hnc, hbs, hbody, hdx, hdy⟩
 have e := aQo hl
 rw [List.drop_zero] at e0
 rw [e0, e1, e2, e3, hsl] at e
 rw [e]
 rfl
theorem bAj {m t T T0 T1 T2 T3 T4 e8 b8 bytes : Nat} {A : Option Addr} {len cap : Nat} {d : DataW H} {ps : List MemPlace} (ht : fN P t T 15 bytes = true) (O : ∃ fs, OpT P m T T0 T1 T2 T3 T4 e8 b8 fs) (hw : ∀ n ∈ d.weights P t, n ≤ reachBytes)
  (h : DataW.Trod enc P w base spare held t (.slice A len cap) d ps) : ∃ l : List OpRow, OpsRd w A len l := by
 obtain ⟨fs, O⟩ := O
 have hbig := aAt hw ht h
 obtain ⟨h1, h2, h3, h4, h5, h6, zv, hzv, hzs⟩ := gB ht
 obtain ⟨fuel, hf⟩ := h
 have hle : len ≤ 140737488351232 := Nat.le_trans (Nat.le_mul_of_pos_right _ (Nat.pos_of_ne_zero h6)) hbig
 rcases open_slice h1 hf with ⟨hcs, _⟩ | ⟨a, l, c, m', n, D, Pl, hcs, hb, hlc, _, hm, hx0, hx⟩
 ·simp only [Value.cells, List.cons.injEq, Value.slice.injEq, and_true] at hcs
  obtain ⟨rfl, rfl, rfl⟩ := hcs
  exact ⟨[], Rd.nil w 15 none, by simp⟩
 ·simp only [Value.cells, List.cons.injEq, Value.slice.injEq, and_true] at hcs
  obtain ⟨rfl, rfl, rfl⟩ := hcs
  obtain ⟨rfl, _⟩ := Prod.mk.inj hx0
  have hlm : len ≤ m' := by rw [hm]; split <;> omega
  have hww := (vK h1 hw).2
  have hall : ∀ i, i < len → ∃ cs' : List Value, cs'.length = 15 ∧ (∀ j, j < 15 → w.cell? (a.add (i * 15 + j)) = cs'[j]?) ∧ (∃ x : OpRow, cs' = x.cells ∧ OpOk w x.o x.A x.n x.c) := fun i hi => by
   obtain ⟨cs', hc, ht'⟩ := hx i (by omega)
   rw [h3] at hc
   obtain ⟨q1, q2⟩ := sY hc
   refine ⟨cs', q1, fun j hj => ?_, aPv O ht' (hww (D i) (List.mem_map.2 ⟨i, List.mem_range.2 hi, rfl⟩))⟩
   rw [← q2 j hj, Addr.add_add]
  obtain ⟨ls, R, hQ⟩ := aOg (by omega) (by omega) hall
  obtain ⟨l, rfl, hl⟩ := aNh ls hQ
  exact ⟨l, R, hl⟩
end
end Go.Bil
