/- Part of the proof of the laws of this seat: Mf2, Mf3, Mf4, Mf5, Mf6, Mf7, Fx3, Fx5, Mf8, Mf9. No conditions. -/
import Derived.Test.YtaoaknafiegfoaaGreatDoorK6
import Derived.Test.YtaoaknafiegfoaaGreatDoorK18
import Derived.Test.YtaoaknafiegfoaaGreatDoorK33
set_option linter.unusedVariables false
set_option linter.unusedSimpArgs false
set_option linter.unnecessarySimpa false
namespace Go.Bil
def mG (b : Body) (j : Int × Int) : Body := { b with vx := iS (b.vx + j.1 * b.mass / 65536) 16777216, vy := iS (b.vy + j.2 * b.mass / 65536) 16777216 }
theorem aSm {b : Body} (h : Okb b) (j : Int × Int) : Okb (mG b j) := ⟨h.r, h.a, h.m, h.c, h.p, ⟨(eP _ (by decide)).1, (eP _ (by decide)).2, (eP _ (by decide)).1, (eP _ (by decide)).2⟩⟩
theorem aCn {b : Body} (h : Okb b) : check b = 0 := by
 have h1 := h.r
 have h2 := h.a
 have h3 := h.m
 have h4 := h.c
 have h5 := h.p
 have h6 := h.v
 unfold check vR
 rw [if_neg (by omega), if_neg (by omega), if_neg (by omega), if_neg (by omega), if_neg (by omega), if_neg (by omega)]
def qX (v : List Body) (k : Int) (j : Int × Int) : List Body × Int := if dI k v < 0 then (v, 11) else (vT v (mG (v.getD (dI k v).toNat default) j) false, 0)
structure OpI where
 kind : Int
 body : Body
 key : Int
 push : Int × Int
 bytes : List Int
structure ResI where
 err : Int
 body : Body
 bytes : List Int
 cont : Int
 cl : Bool
def mB : ResI := ⟨0, bBn, [], 0, false⟩
def qS (v : List Body) (k : Int) : ResI := if dI k v < 0 then { mB with err := 11 } else { mB with body := v.getD (dI k v).toNat default }
def sV (v : List Body) (l : List Int) : List Body := if (mN l).2 = 0 then (mN l).1 else v
def doR (v : List Body) (o : OpI) : List Body × ResI :=
 if o.kind = 0 then ((mP v o.body).1, { mB with err := (mP v o.body).2 })
 else if o.kind = 1 then ((gQ v o.key).1, { mB with err := (gQ v o.key).2 })
 else if o.kind = 2 then ((qX v o.key o.push).1, { mB with err := (qX v o.key o.push).2 })
 else if o.kind = 3 then (pU v, { mB with cont := ((kL v).length : Int), cl := sJ v })
 else if o.kind = 4 then (v, { mB with bytes := oG v })
 else if o.kind = 5 then (sV v o.bytes, { mB with err := (mN o.bytes).2 })
 else if o.kind = 6 then (v, qS v o.key)
 else (v, mB)
structure GoodV (v : List Body) : Prop where
 s : cW v
 len : v.length ≤ 4096
 ok : ∀ b ∈ v, check b = 0
 inb : ∀ b ∈ v, InB b
theorem GoodV.okb {v : List Body} (h : GoodV v) : ∀ b ∈ v, Okb b := fun b hb => aLd (h.ok b hb)
theorem GoodV.chk {v : List Body} (h : GoodV v) : iK v = 0 := aWb (bEa h.len h.ok) h.s
theorem GoodV.nil : GoodV [] := ⟨by simp [cW], by simp, by simp, by simp⟩
def dB (T : Nat) (r : StV) (v : List Body) : Prop := GoodV v ∧ ∃ m, StoreIs T r.A r.n r.c r.p r.er r.em m ∧ Rel m v
theorem aBo {T : Nat} {r : StV} {m v : List Body} (h : StoreIs T r.A r.n r.c r.p r.er r.em m) (R : Rel m v) (hi : ∀ b ∈ m, InB b) : dB T r v :=
 ⟨⟨R.sorted, by rw [R.perm.length_eq]; exact h.cap, fun b hb => h.ok b (R.perm.mem_iff.1 hb), fun b hb => hi b (R.perm.mem_iff.1 hb)⟩, m, h, R⟩
theorem dB.new (T : Nat) (o o' : Obj) : dB T ⟨none, 0, 0, none, (none, o), (none, o')⟩ [] := aBo (StoreIs.nil T o o') Rel.nil (by simp)
theorem aTs {m : List Body} {x : Body} (h : ∀ b ∈ m, InB b) (hx : InB x) : ∀ b ∈ (nT m x).1, InB b := by
 intro b hb
 unfold nT at hb
 split at hb
 ·exact h b hb
 ·split at hb
  ·exact h b hb
  ·split at hb
   ·exact h b hb
   ·rcases List.mem_append.1 hb with h1 | h1
    ·exact h b h1
    ·rw [List.mem_singleton] at h1; subst h1; exact hx
theorem aEu {m : List Body} (hk : jZ m) {k : Int} (h : ∀ b ∈ m, InB b) : ∀ b ∈ (lG m k).1, InB b := fun b hb => h b (xD.1 ((aAt hk k).mem_iff.1 hb)).1
theorem aTd {m : List Body} {x : Body} (h : ∀ b ∈ m, InB b) (hx : InB x) : ∀ b ∈ (sL m x).1, InB b := by
 intro b hb
 unfold sL at hb
 split at hb
 ·exact h b hb
 ·split at hb
  ·exact h b hb
  ·rcases List.mem_or_eq_of_mem_set hb with h1 | h1
   ·exact h b h1
   ·subst h1; exact hx
theorem GoodV.inm {v m : List Body} (h : GoodV v) (R : Rel m v) : ∀ b ∈ m, InB b := fun b hb => h.inb b (R.perm.mem_iff.2 hb)
theorem aTh {b : Body} (h : InB b) (j : Int × Int) : InB (mG b j) := by
 obtain ⟨h0, h1, h2, h3, h4, h5, h6, h7, h8, h9⟩ := h
 have a := eP (b.vx + j.1 * b.mass / 65536) (l := 16777216) (by decide)
 have c := eP (b.vy + j.2 * b.mass / 65536) (l := 16777216) (by decide)
 exact ⟨h0, h1, h2, h3, h4, h5, h6, h7, ⟨by show -2147483648 ≤ iS _ _; omega, by show iS _ _ ≤ 2147483647; omega⟩, ⟨by show -2147483648 ≤ iS _ _; omega, by show iS _ _ ≤ 2147483647; omega⟩⟩
theorem bIs {xs ys : List Body} (l : Like xs ys) (hx : ∀ b ∈ xs, InB b) (hy : ∀ b ∈ ys, Okb b) : ∀ b ∈ ys, InB b := by
 intro b hb
 obtain ⟨i, hi⟩ := List.getElem?_of_mem hb
 have hlt : i < xs.length := by rw [← l.len]; exact (List.getElem?_eq_some_iff.1 hi).1
 have hxi := List.getElem?_eq_getElem hlt
 have hs := l.at_ i _ b hxi hi
 obtain ⟨h0, _⟩ := hx _ (List.getElem_mem hlt)
 have o := hy b hb
 have o1 := o.r
 have o2 := o.a
 have o3 := o.m
 have o4 := o.c
 have o5 := o.p
 have o6 := o.v
 have := hs.key
 exact ⟨by omega, by omega, by omega, by omega, by omega, by omega, by omega, by omega, by omega, by omega⟩
theorem GoodV.step {v : List Body} (h : GoodV v) : GoodV (pU v) :=
 ⟨(zK v).sorted h.s, by rw [(zK v).len]; exact h.len, fun b hb => aCn (aTi h.okb b hb), bIs (zK v) h.inb (aTi h.okb)⟩
theorem GoodV.dec {l : List Int} (hl : jH l) (hn : l.length ≤ 1000000) (h : (mN l).2 = 0) : GoodV (mN l).1 := by
 have d := bHj hl h
 have hc := d.c
 have h1 : oA (mN l).1 = 0 := by
  unfold iK at hc
  split at hc
  ·rename_i hne; exact absurd hc hne
  ·rename_i hne; exact Decidable.not_not.1 hne
 obtain ⟨h2, h3⟩ := bCe h1
 refine ⟨?_, h2, h3, d.inb⟩
 unfold iK at hc
 rw [if_neg (by omega)] at hc
 by_cases ha : aGo (mN l).1 = true
 ·exact tN ha
 ·rw [if_neg ha] at hc; omega
theorem aLy {v : List Body} (h : GoodV v) : ∀ k, k ≤ v.length → aHh (v.take k) = v.take k := by
 intro k hk
 rw [aDe h.s.keys h.len k hk]
 exact List.filter_eq_self.2 fun b hb => by simpa using h.ok b (List.mem_of_mem_take hb)
theorem xI {v : List Body} (h : cW v) : Rel v v := ⟨List.Perm.refl _, h⟩
theorem aWl {v : List Body} {l : List Int} (h : GoodV v) (hl : jH l) (hn : l.length ≤ 1000000) : GoodV (sV v l) := by
 unfold sV
 split
 ·rename_i hd; exact GoodV.dec hl hn hd
 ·exact h
theorem tD {v : List Body} {k : Int} {i : Nat} {b : Body} (hf : dI k v = (i : Int)) (hb : v[i]? = some b) : v.getD (dI k v).toNat default = b := by
 rw [hf, Int.toNat_natCast, List.getD_eq_getElem?_getD, hb]
 rfl
theorem aXs {v : List Body} (h : GoodV v) : mN (oG v) = (v, 0) := bAg h.inb h.len h.chk
theorem aSo {m v : List Body} (R : Rel m v) (h : GoodV v) {k : Int} {i : Nat} {b : Body} (j : Int × Int) (hf : dI k v = (i : Int)) (hb : v[i]? = some b) : Rel (sL m (mG b j)).1 (qX v k j).1 ∧ (sL m (mG b j)).2 = 0 ∧ (qX v k j).2 = 0 ∧ (qX v k j).1 = vT v (mG b j) false := by
 have hbm : b ∈ v := List.mem_of_getElem? hb
 have hi : (qX v k j) = (vT v (mG b j) false, 0) := by unfold qX; rw [if_neg (by omega), tD hf hb]
 have hk : b.key = k := by
  rcases eJ k v with ⟨h1, _⟩ | ⟨q, c, h1, h2, h3⟩
  ·omega
  ·have : q = i := by omega
   subst this
   rw [h1] at hb; injection hb with hb; rw [← hb]; exact h2
 have hp : check (mG b j) = 0 := aCn (aSm (h.okb b hbm) j)
 obtain ⟨h1, h2⟩ := R.set (mG b j)
 have hs : bEc v (mG b j) = (vT v (mG b j) false, 0) := by
  unfold bEc
  rw [if_neg (by omega), if_neg (by show ¬ dI b.key v < 0; rw [hk]; omega)]
 rw [hs] at h1 h2
 exact ⟨by rw [hi]; exact h1, h2.symm, by rw [hi], by rw [hi]⟩
theorem tE {v : List Body} {k : Int} (j : Int × Int) (h : dI k v < 0) : qX v k j = (v, 11) := by unfold qX; rw [if_pos h]
end Go.Bil
namespace Go.Bil
theorem bIh {j m : Int} (hj : -2147483648 ≤ j ∧ j ≤ 2147483647) (hm : 0 ≤ m ∧ m ≤ 1048576) : -2251799813685248 ≤ j * m ∧ j * m ≤ 2251799813685248 := by
 have h1 : j * m ≤ 2147483647 * m := Int.mul_le_mul_of_nonneg_right hj.2 hm.1
 have h2 : -2147483648 * m ≤ j * m := Int.mul_le_mul_of_nonneg_right hj.1 hm.1
 omega
theorem bHt {m v : List Body} (R : Rel m v) (k : Int) : aDb m k = ((qS v k).body, (qS v k).err) := by
 rcases R.get k with ⟨h1, h2⟩ | ⟨i, b, h1, h2, h3⟩
 ·rw [h2]; unfold qS; rw [if_pos h1]; rfl
 ·rw [h3]; unfold qS; rw [if_neg (by omega), tD h1 h2]; rfl
end Go.Bil
namespace Go.Bil
theorem bDk {v : List Body} {o : OpI} (h0 : o.kind = 0) : doR v o = ((mP v o.body).1, { mB with err := (mP v o.body).2 }) := by unfold doR; rw [if_pos h0]
theorem bEd {v : List Body} {o : OpI} (h : o.kind = 1) : doR v o = ((gQ v o.key).1, { mB with err := (gQ v o.key).2 }) := by unfold doR; rw [if_neg (by omega), if_pos h]
theorem bAt {v : List Body} {o : OpI} (h : o.kind = 2) : doR v o = ((qX v o.key o.push).1, { mB with err := (qX v o.key o.push).2 }) := by unfold doR; rw [if_neg (by omega), if_neg (by omega), if_pos h]
theorem bAa {v : List Body} {o : OpI} (h : o.kind = 3) : doR v o = (pU v, { mB with cont := ((kL v).length : Int), cl := sJ v }) := by unfold doR; rw [if_neg (by omega), if_neg (by omega), if_neg (by omega), if_pos h]
theorem bFe {v : List Body} {o : OpI} (h : o.kind = 4) : doR v o = (v, { mB with bytes := oG v }) := by unfold doR; rw [if_neg (by omega), if_neg (by omega), if_neg (by omega), if_neg (by omega), if_pos h]
theorem aLr {v : List Body} {o : OpI} (h : o.kind = 5) : doR v o = (sV v o.bytes, { mB with err := (mN o.bytes).2 }) := by unfold doR; rw [if_neg (by omega), if_neg (by omega), if_neg (by omega), if_neg (by omega), if_neg (by omega), if_pos h]
theorem aPt {v : List Body} {o : OpI} (h : o.kind = 6) : doR v o = (v, qS v o.key) := by unfold doR; rw [if_neg (by omega), if_neg (by omega), if_neg (by omega), if_neg (by omega), if_neg (by omega), if_neg (by omega), if_pos h]
theorem bHr {v : List Body} {o : OpI} (h0 : ¬ o.kind = 0) (h1 : ¬ o.kind = 1) (h2 : ¬ o.kind = 2) (h3 : ¬ o.kind = 3) (h4 : ¬ o.kind = 4) (h5 : ¬ o.kind = 5) (h6 : ¬ o.kind = 6) : doR v o = (v, mB) := by
 unfold doR; rw [if_neg h0, if_neg h1, if_neg h2, if_neg h3, if_neg h4, if_neg h5, if_neg h6]
theorem zS {v : List Body} {k : Int} (h : dI k v < 0) : qS v k = { mB with err := 11 } := by unfold qS; rw [if_pos h]
theorem zD {v : List Body} {k : Int} {i : Nat} {b : Body} (hf : dI k v = (i : Int)) (hb : v[i]? = some b) : qS v k = { mB with body := b } := by unfold qS; rw [if_neg (by omega), tD hf hb]
def fP (o : OpI) (A : Option Addr) (n c : Nat) : List Value := [.int .i64 o.kind] ++ aF o.body ++ [.int .u32 o.key, .int .i32 o.push.1, .int .i32 o.push.2, .slice A n c]
def bCy (A : Option Addr) (n c : Nat) (B : Option Addr) (m d : Nat) (z : ResI) : List Value := [.slice A n c, .int .i64 z.err] ++ aF z.body ++ [.slice B m d, .int .i64 z.cont, .bool z.cl]
structure OpOk (w : World) (o : OpI) (A : Option Addr) (n c : Nat) : Prop where
 rd : Rd w 1 A n (o.bytes.map bJ)
 cap : n ≤ c
 byt : jH o.bytes
 body : InB o.body
 p1 : -2147483648 ≤ o.push.1 ∧ o.push.1 ≤ 2147483647
 p2 : -2147483648 ≤ o.push.2 ∧ o.push.2 ≤ 2147483647
theorem OpOk.len {w : World} {o : OpI} {A : Option Addr} {n c : Nat} (h : OpOk w o A n c) : o.bytes.length = n := by simpa using h.rd.len
theorem OpOk.mem {w0 w : World} {S : List eZ} {o : OpI} {A : Option Addr} {n c : Nat} (h : OpOk w0 o A n c) (M : Mem w0 [] S w) : OpOk w o A n c := ⟨h.rd.mem M, h.cap, h.byt, h.body, h.p1, h.p2⟩
theorem OpOk.memY {w0 w : World} {X : List Nat} {S : List eZ} {o : OpI} {A : Option Addr} {n c : Nat} (h : OpOk w0 o A n c) (M : Mem w0 X S w) (hX : 0 < n → ∀ q off, A = Option.some ⟨q, off, none⟩ → q ∉ X) : OpOk w o A n c := ⟨h.rd.memY M hX, h.cap, h.byt, h.body, h.p1, h.p2⟩
structure OpRow where
 o : OpI
 A : Option Addr
 n : Nat
 c : Nat
def OpRow.cells (x : OpRow) : List Value := fP x.o x.A x.n x.c
structure OpsRd (w : World) (A : Option Addr) (n : Nat) (l : List OpRow) : Prop where
 rd : Rd w 15 A n (l.map OpRow.cells)
 each : ∀ x ∈ l, OpOk w x.o x.A x.n x.c
theorem OpsRd.mem {w0 w : World} {S : List eZ} {A : Option Addr} {n : Nat} {l : List OpRow} (h : OpsRd w0 A n l) (M : Mem w0 [] S w) : OpsRd w A n l := ⟨h.rd.mem M, fun x hx => (h.each x hx).mem M⟩
end Go.Bil
namespace Go.Bil
end Go.Bil
namespace Go.Bil
end Go.Bil
namespace Go.Bil
end Go.Bil
namespace Go.Bil
end Go.Bil

namespace Go.Bil
def jW (v : List Body) (o : OpI) : List Body × ResI := if o.kind < 1 ∨ 6 < o.kind then (v, { mB with err := 1 }) else doR v { o with kind := o.kind - 1 }
def oE (v : List Body) : List OpI → List Body
 | [] => v
 | o :: l => oE (jW v o).1 l
def wT (v : List Body) : List OpI → List ResI
 | [] => []
 | o :: l => (jW v o).2 :: wT (jW v o).1 l
theorem aAq (v : List Body) : ∀ (a b : List OpI), oE v (a ++ b) = oE (oE v a) b
 | [], b => rfl
 | o :: a, b => aAq (jW v o).1 a b
theorem aOm (v : List Body) : ∀ (a b : List OpI), wT v (a ++ b) = wT v a ++ wT (oE v a) b := by
 intro a
 induction a generalizing v with
 | nil => intro b; rfl
 | cons o a ih => intro b; show _ :: wT (jW v o).1 (a ++ b) = _; rw [ih]; rfl
theorem yR {v : List Body} {l : List OpI} {i : Nat} {o : OpI} (h : l[i]? = some o) : oE v (l.take (i + 1)) = (jW (oE v (l.take i)) o).1 := by rw [cP h, aAq]; rfl
theorem aHp {v : List Body} {l : List OpI} {i : Nat} {o : OpI} (h : l[i]? = some o) : wT v (l.take (i + 1)) = wT v (l.take i) ++ [(jW (oE v (l.take i)) o).2] := by rw [cP h, aOm]; rfl
theorem aLk (v : List Body) : ∀ l : List OpI, (wT v l).length = l.length
 | [] => rfl
 | o :: l => by show (wT (jW v o).1 l).length + 1 = l.length + 1; rw [aLk (jW v o).1 l]
theorem jK {v : List Body} {o : OpI} (h : ¬ (1 ≤ o.kind ∧ o.kind ≤ 6)) : jW v o = (v, { mB with err := 1 }) := by unfold jW; rw [if_pos (by omega)]
end Go.Bil

namespace Go.Bil
structure OkO (o : OpI) : Prop where
 body : InB o.body
 byt : jH o.bytes
 len : o.bytes.length ≤ 1000000
theorem aDr {m v : List Body} (R : Rel m v) (hl : m.length ≤ 4096) (hc : ∀ b ∈ m, check b = 0) (hi : ∀ b ∈ m, InB b) : GoodV v :=
 ⟨R.sorted, by rw [R.perm.length_eq]; exact hl, fun b hb => hc b (R.perm.mem_iff.1 hb), fun b hb => hi b (R.perm.mem_iff.1 hb)⟩
theorem bEg {v : List Body} {b : Body} (h : GoodV v) (hb : InB b) : GoodV (mP v b).1 := by
 have R := ((xI h.s).add b).1
 obtain ⟨_, h2, h3⟩ := aKp (x := b) ⟨h.s.keys, h.len, h.ok⟩
 exact aDr R h2 h3 (aTs h.inb hb)
theorem aMt {v : List Body} {k : Int} (h : GoodV v) : GoodV (gQ v k).1 := by
 have R := ((xI h.s).remove k).1
 have p := aAt h.s.keys k
 refine aDr R ?_ (fun b hb => h.ok b (xD.1 (p.mem_iff.1 hb)).1) (aEu h.s.keys h.inb)
 rw [p.length_eq]
 exact Nat.le_trans (List.length_filter_le _ _) h.len
theorem bBx {v : List Body} {k : Int} {j : Int × Int} (h : GoodV v) : GoodV (qX v k j).1 := by
 by_cases hf : dI k v < 0
 ·rw [tE j hf]; exact h
 ·obtain ⟨i, bb, hbi, _, hfi⟩ := (eJ k v).resolve_left (fun g => hf (by omega))
  obtain ⟨h1, h2, _, _⟩ := aSo (xI h.s) h j hfi hbi
  have hbm := List.mem_of_getElem? hbi
  have hin := aTd h.inb (aTh (h.inb bb hbm) j)
  have hsm : ∀ b ∈ (sL v (mG bb j)).1, b ∈ v ∨ b = mG bb j := by
   intro b hb
   unfold sL at hb
   split at hb
   ·exact .inl hb
   ·split at hb
    ·exact .inl hb
    ·exact List.mem_or_eq_of_mem_set hb
  refine aDr h1 ?_ (fun b hb => ?_) hin
  ·unfold sL
   split
   ·exact h.len
   ·split
    ·exact h.len
    ·rw [List.length_set]; exact h.len
  ·rcases hsm b hb with g | rfl
   ·exact h.ok b g
   ·exact aCn (aSm (h.okb bb hbm) j)
theorem bIl {v : List Body} {o : OpI} (h : GoodV v) (ho : OkO o) : GoodV (doR v o).1 := by
 by_cases h0 : o.kind = 0
 ·rw [bDk h0]; exact bEg h ho.body
 by_cases h1 : o.kind = 1
 ·rw [bEd h1]; exact aMt h
 by_cases h2 : o.kind = 2
 ·rw [bAt h2]; exact bBx h
 by_cases h3 : o.kind = 3
 ·rw [bAa h3]; exact h.step
 by_cases h4 : o.kind = 4
 ·rw [bFe h4]; exact h
 by_cases h5 : o.kind = 5
 ·rw [aLr h5]; exact aWl h ho.byt ho.len
 by_cases h6 : o.kind = 6
 ·rw [aPt h6]; exact h
 rw [bHr h0 h1 h2 h3 h4 h5 h6]; exact h
theorem aVa {v : List Body} {o : OpI} (h : GoodV v) (ho : OkO o) : GoodV (jW v o).1 := by
 unfold jW
 split
 ·exact h
 ·exact bIl h ⟨ho.body, ho.byt, ho.len⟩
theorem aLg : ∀ {l : List OpI} {v : List Body}, GoodV v → (∀ o ∈ l, OkO o) → GoodV (oE v l)
 | [], v, h, _ => h
 | o :: l, v, h, hl => by
  show GoodV (oE (jW v o).1 l)
  exact aLg (aVa h (hl o (by simp))) (fun q hq => hl q (by simp [hq]))
end Go.Bil

namespace Go.Bil
def fD (z : ResI) (r : Row) : List Value := [.int .i64 z.err, .slice r.A r.n r.c, .int .i64 z.cont, .bool z.cl]
structure OutR (T : Nat) (rs : List Row) (zs : List ResI) : Prop where
 len : rs.length = zs.length
 row : ∀ (j : Nat) (r : Row) (z : ResI), rs[j]? = some r → zs[j]? = some z → bC T 1 r.A r.n r.c (z.bytes.map bJ) r.e
def aBa (zs : List ResI) (rs : List Row) : List (List Value) := List.zipWith fD zs rs
theorem OutR.nil (T : Nat) : OutR T [] [] := ⟨rfl, by simp⟩
theorem OutR.add {T : Nat} {rs : List Row} {zs : List ResI} {r : Row} {z : ResI} (h : OutR T rs zs) (hr : bC T 1 r.A r.n r.c (z.bytes.map bJ) r.e) : OutR T (rs ++ [r]) (zs ++ [z]) := by
 refine ⟨by simp [h.len], fun j q k hq hk => ?_⟩
 by_cases hj : j < rs.length
 ·rw [List.getElem?_append_left hj] at hq
  rw [List.getElem?_append_left (by rw [← h.len]; exact hj)] at hk
  exact h.row j q k hq hk
 ·have hj2 : j = rs.length := by
   have := (List.getElem?_eq_some_iff.1 hq).1
   simp at this
   omega
  rw [hj2, List.getElem?_append_right (Nat.le_refl _), Nat.sub_self] at hq
  rw [hj2, h.len, List.getElem?_append_right (Nat.le_refl _), Nat.sub_self] at hk
  simp only [List.getElem?_cons_zero, Option.some.injEq] at hq hk
  subst hq hk
  exact hr
theorem bCa {zs : List ResI} {rs : List Row} (h : rs.length = zs.length) : (aBa zs rs).length = zs.length := by unfold aBa; rw [List.length_zipWith, h, Nat.min_self]
theorem aVb {zs : List ResI} {rs : List Row} (h : rs.length = zs.length) (z : ResI) (r : Row) : aBa (zs ++ [z]) (rs ++ [r]) = aBa zs rs ++ [fD z r] := by
 unfold aBa
 rw [List.zipWith_append h.symm]
 rfl
theorem OutR.rd {w0 w : World} {X : List Nat} {S : List eZ} {T : Nat} {rs : List Row} {zs : List ResI} (h : OutR T rs zs) (M : Mem w0 X S w) (ht : ∀ r ∈ rs, r.e ∈ S) {j : Nat} {r : Row} {z : ResI} (hr : rs[j]? = some r) (hz : zs[j]? = some z) : Rd w 1 r.A r.n (z.bytes.map bJ) :=
 (h.row j r z hr hz).rd M (ht r (List.mem_of_getElem? hr))
theorem bGd (l : List OpRow) : ∀ y ∈ l.map OpRow.cells, y.length = 15 := by
 intro y hy
 obtain ⟨x, _, rfl⟩ := List.mem_map.1 hy
 rfl
end Go.Bil

namespace Go.Bil
theorem aWe {v : List Body} {o : OpI} (h : o.kind = 1) : jW v o = ((mP v o.body).1, { mB with err := (mP v o.body).2 }) := by unfold jW; rw [if_neg (by omega)]; exact bDk (by simp; omega)
theorem bOi {v : List Body} {o : OpI} (h : o.kind = 2) : jW v o = ((gQ v o.key).1, { mB with err := (gQ v o.key).2 }) := by unfold jW; rw [if_neg (by omega)]; exact bEd (by simp; omega)
theorem bLa {v : List Body} {o : OpI} (h : o.kind = 3) : jW v o = ((qX v o.key o.push).1, { mB with err := (qX v o.key o.push).2 }) := by unfold jW; rw [if_neg (by omega)]; exact bAt (by simp; omega)
theorem bLt {v : List Body} {o : OpI} (h : o.kind = 4) : jW v o = (pU v, { mB with cont := ((kL v).length : Int), cl := sJ v }) := by unfold jW; rw [if_neg (by omega)]; exact bAa (by simp; omega)
theorem bKs {v : List Body} {o : OpI} (h : o.kind = 5) : jW v o = (v, { mB with bytes := oG v }) := by unfold jW; rw [if_neg (by omega)]; exact bFe (by simp; omega)
theorem bLi {v : List Body} {o : OpI} (h : o.kind = 6) : jW v o = (sV v o.bytes, { mB with err := (mN o.bytes).2 }) := by unfold jW; rw [if_neg (by omega)]; exact aLr (by simp; omega)
theorem bCi {v : List Body} {o : OpI} (h : ¬ (o.kind < 1 ∨ 6 < o.kind)) : jW v o = doR v { o with kind := o.kind - 1 } := by unfold jW; rw [if_neg h]
theorem oL {f : Int → Option Value} {k : Int} {v : Value} (h : f k = some v) : Value.tuple [((f k).getD .nilFunc), .bool (f k).isSome].toArray = Value.tuple [v, .bool true].toArray := by rw [h]; rfl
theorem aYl {f : Int → Option Value} {k : Int} (h : f k = none) : Value.tuple [((f k).getD .nilFunc), .bool (f k).isSome].toArray = Value.tuple [.nilFunc, .bool false].toArray := by rw [h]; rfl
def aSu (l : List OpRow) (X : List Nat) : Prop := ∀ x ∈ l, 0 < x.n → ∀ q off, x.A = some ⟨q, off, none⟩ → q ∉ X
def oS (l : List OpRow) : List OpI := l.map OpRow.o
theorem aSp {l : List OpRow} {i : Nat} {x : OpRow} (h : l[i]? = some x) : (oS l)[i]? = some x.o := by unfold oS; rw [List.getElem?_map, h]; rfl
theorem aOn (l : List OpRow) : (oS l).length = l.length := List.length_map ..
theorem OpOk.okO {w : World} {o : OpI} {A : Option Addr} {n c : Nat} (h : OpOk w o A n c) (hn : n ≤ 1000000) : OkO o := ⟨h.body, h.byt, by rw [h.len]; exact hn⟩
theorem OpsRd.okO {w : World} {A : Option Addr} {n : Nat} {l : List OpRow} (h : OpsRd w A n l) (hby : ∀ x ∈ l, x.n ≤ 1000000) : ∀ o ∈ oS l, OkO o := by
 intro o ho
 obtain ⟨x, hx, rfl⟩ := List.mem_map.1 ho
 exact (h.each x hx).okO (hby x hx)
end Go.Bil

namespace Go.Bil
theorem OpsRd.none (w : World) : OpsRd w none 0 [] := ⟨Rd.nil w 15 Option.none, by simp⟩
theorem OpsRd.memY {w0 w : World} {X : List Nat} {S : List eZ} {A : Option Addr} {n : Nat} {l : List OpRow} (h : OpsRd w0 A n l) (M : Mem w0 X S w) (hA : 0 < n → ∀ q off, A = some ⟨q, off, Option.none⟩ → q ∉ X) (hX : aSu l X) : OpsRd w A n l := ⟨h.rd.memY M hA, fun x hx => (h.each x hx).memY M (hX x hx)⟩
theorem OpsRd.sub {w : World} {A : Option Addr} {n c : Nat} {l : List OpRow} (h : OpsRd w A n l) (i j : Nat) (h1 : i ≤ j) (h2 : j ≤ n) (hc : n ≤ c) : OpsRd w (uW A c i 15) (j - i) ((l.drop i).take (j - i)) :=
 ⟨by rw [List.map_take, List.map_drop]; exact h.rd.sub i j h1 h2 hc, fun x hx => h.each x (List.mem_of_mem_drop (List.mem_of_mem_take hx))⟩
theorem Own.dummy (w : World) (o : Obj) : Own [(none, o)] w := ⟨by simp, by simp [cE]⟩
end Go.Bil

namespace Go.Bil
open Go Go.RowKit Go.Deep
theorem aMy {α : Type} {f : α → List Value} {Q : α → Prop} : ∀ ls : List (List Value), (∀ y ∈ ls, ∃ x, y = f x ∧ Q x) → ∃ l : List α, ls = l.map f ∧ ∀ x ∈ l, Q x
 | [], _ => ⟨[], rfl, by simp⟩
 | y :: ls, h => by
  obtain ⟨x, rfl, hx⟩ := h y (by simp)
  obtain ⟨l, rfl, hl⟩ := aMy ls (fun z hz => h z (by simp [hz]))
  refine ⟨x :: l, rfl, fun z hz => ?_⟩
  rcases List.mem_cons.1 hz with rfl | hz
  ·exact hx
  ·exact hl z hz
theorem bMi (l : List Value) (h : nL [.u8] l) : ∃ x : Int, l = bJ x ∧ (0 ≤ x ∧ x ≤ 255) := by
 obtain ⟨z, l', rfl, hz, hl'⟩ := gE h
 obtain rfl := sM hl'
 exact ⟨z, rfl, hz⟩
section
variable {H : Type} {enc : TypeId × Value → H} {P : Program} {w : World} {base : Nat} {spare : Nat → Bool} {held : Bool}
theorem aRu {t e fuel : Nat} {cs : List Value} {x : DataW H × List MemPlace} (hu : P.underlying t = some (.slice e)) (h : DataW.trod enc P w base spare held fuel t cs = some x) : ∃ (A : Option Addr) (n c : Nat), cs = [.slice A n c] ∧ n ≤ c := by
 rcases open_slice hu h with ⟨rfl, _⟩ | ⟨a, l, c, m', n, D, Pl, rfl, hb, hlc, _⟩
 ·exact ⟨none, 0, 0, rfl, Nat.le_refl _⟩
 ·exact ⟨_, _, _, rfl, hlc⟩
structure OpT (P : Program) (m T T0 T1 T2 T3 T4 e8 b8 : Nat) (fs : Array Field) : Prop where
 u : P.underlying T = some (.struct fs)
 f : fs.toList.map (fun f => (f.type, f.offset)) = [(T0, 0), (T1, 1), (T2, 11), (T3, 12), (T4, 14)]
 sz : P.cellsOf T = 15
 l0 : nQ P m T0 = some [.i64]
 l1 : nQ P m T1 = some [.u32, .i32, .i32, .i32, .i32, .i32, .i32, .i32, .i32, .i32]
 l2 : nQ P m T2 = some [.u32]
 l3 : nQ P m T3 = some [.i32, .i32]
 l8 : nQ P m e8 = some [.u8]
 c0 : P.cellsOf T0 = 1
 c1 : P.cellsOf T1 = 10
 c2 : P.cellsOf T2 = 1
 c3 : P.cellsOf T3 = 2
 c4 : P.cellsOf T4 = 1
 s : fR P T4 e8 1 b8 = true
theorem aRk {α : Type} {l : List α} (h : l.length = 15) : l = l.take 1 ++ (((l.drop 1).take 10) ++ (((l.drop 11).take 1) ++ (((l.drop 12).take 2) ++ ((l.drop 14).take 1)))) := by
 have e4 : (l.drop 14).take 1 = l.drop 14 := List.take_of_length_le (by rw [List.length_drop]; omega)
 have e3 : (l.drop 12).take 2 ++ l.drop 14 = l.drop 12 := by have g := List.take_append_drop 2 (l.drop 12); rwa [List.drop_drop] at g
 have e2 : (l.drop 11).take 1 ++ l.drop 12 = l.drop 11 := by have g := List.take_append_drop 1 (l.drop 11); rwa [List.drop_drop] at g
 have e1 : (l.drop 1).take 10 ++ l.drop 11 = l.drop 1 := by have g := List.take_append_drop 10 (l.drop 1); rwa [List.drop_drop] at g
 rw [e4, e3, e2, e1, List.take_append_drop]
theorem aPx {m T T0 T1 T2 T3 T4 e8 b8 : Nat} {fs : Array Field} (O : OpT P m T T0 T1 T2 T3 T4 e8 b8 fs) {fuel : Nat} {cs : List Value} {d : DataW H} {pl : List MemPlace} (hx : DataW.trod enc P w base spare held fuel T cs = some (d, pl)) (hw : ∀ n ∈ d.weights P T, n ≤ reachBytes) :
  ∃ x : OpRow, cs = x.cells ∧ OpOk w x.o x.A x.n x.c := by
 obtain ⟨xs, k, _, hd, hl, hxl, hfs⟩ := DataW.trod_struct O.u hx
 rw [O.sz] at hl
 have hlen : fs.toList.length = 5 := by have := congrArg List.length O.f; simpa using this
 have hf : ∀ (i : Nat) (t o : Nat), [(T0, 0), (T1, 1), (T2, 11), (T3, 12), (T4, 14)][i]? = some (t, o) → ∃ f, fs[i]? = some f ∧ f.type = t ∧ f.offset = o := by
  intro i t o hi
  rw [← O.f, List.getElem?_map] at hi
  cases hq : fs.toList[i]? with
  | none => rw [hq] at hi; cases hi
  | some f =>
   rw [hq] at hi
   simp only [Option.map_some, Option.some.injEq, Prod.mk.injEq] at hi
   exact ⟨f, by simpa using hq, hi⟩
 have part : ∀ (i : Nat) (t o z : Nat), [(T0, 0), (T1, 1), (T2, 11), (T3, 12), (T4, 14)][i]? = some (t, o) → P.cellsOf t = z → ∃ y, xs[i]? = some y ∧ DataW.trod enc P w base spare held k t ((cs.drop o).take z) = some y := by
  intro i t o z hi hz
  obtain ⟨f, h1, rfl, rfl⟩ := hf i t o hi
  have h2 := hfs i f h1
  have hlt : i < xs.length := by rw [hxl]; exact (Array.getElem?_eq_some_iff.1 h1).1
  rw [List.getElem?_eq_getElem hlt, hz] at h2
  exact ⟨_, List.getElem?_eq_getElem hlt, h2⟩
 obtain ⟨y0, _, p0⟩ := part 0 T0 0 1 rfl O.c0
 obtain ⟨y1, _, p1⟩ := part 1 T1 1 10 rfl O.c1
 obtain ⟨y2, _, p2⟩ := part 2 T2 11 1 rfl O.c2
 obtain ⟨y3, _, p3⟩ := part 3 T3 12 2 rfl O.c3
 obtain ⟨y4, q4, p4⟩ := part 4 T4 14 1 rfl O.c4
 obtain ⟨h1, h2, h3, h4, h5, h6, zv, hzv, hzs⟩ := gK O.s
 obtain ⟨A, n, c, hsl, hnc⟩ := aRu h1 p4
 rw [hsl] at p4
 have hT : DataW.Trod enc P w base spare held T4 (.slice A n c) y4.1 y4.2 := ⟨k, p4⟩
 have hw4 : ∀ n ∈ y4.1.weights P T4, n ≤ reachBytes := fun n hn => by
  refine hw n ?_
  obtain rfl : d = .agg (xs.map (·.1)) := (Prod.mk.inj hd).1
  simp only [DataW.weights, O.u]
  obtain ⟨f, g1, rfl, _⟩ := hf 4 T4 14 rfl
  have g1' : fs.toList[4]? = some f := by simpa using g1
  exact DataW.weights_mem_each (j := 4) (by rw [List.getElem?_map, g1']; rfl) (by rw [List.getElem?_map, q4]; rfl) n hn
 have hs := aAa hw4 O.s hT
 obtain ⟨ls, R, hI⟩ := aVu O.s O.l8 rfl hs hT
 obtain ⟨bs, rfl, hbs⟩ := aSl bMi ls hI
 have i0 := kM m T0 _ k _ _ O.l0 p0
 have i1 := kM m T1 _ k _ _ O.l1 p1
 have i2 := kM m T2 _ k _ _ O.l2 p2
 have i3 := kM m T3 _ k _ _ O.l3 p3
 obtain ⟨kind, l', e0, _, hl'⟩ := gE i0
 obtain rfl := sM hl'
 obtain ⟨body, e1, hbody⟩ := bKv _ i1
 obtain ⟨key, l', e2, hkey, hl'⟩ := gE i2
 obtain rfl := sM hl'
 obtain ⟨dx, l', e3, hdx, hl'⟩ := gE i3
 obtain ⟨dy, l'', rfl, hdy, hl''⟩ := gE hl'
 obtain rfl := sM hl''
 refine ⟨⟨⟨kind, body, key, (dx, dy), bs⟩, A, n, c⟩, ?_, R, hnc, hbs, hbody, hdx, hdy⟩
 have e := aRk hl
 rw [List.drop_zero] at e0
 rw [e0, e1, e2, e3, hsl] at e
 rw [e]
 rfl
theorem bBu {m t T T0 T1 T2 T3 T4 e8 b8 bytes : Nat} {A : Option Addr} {len cap : Nat} {d : DataW H} {ps : List MemPlace} (ht : fR P t T 15 bytes = true) (O : ∃ fs, OpT P m T T0 T1 T2 T3 T4 e8 b8 fs) (hw : ∀ n ∈ d.weights P t, n ≤ reachBytes)
  (h : DataW.Trod enc P w base spare held t (.slice A len cap) d ps) : ∃ l : List OpRow, OpsRd w A len l := by
 obtain ⟨fs, O⟩ := O
 have hbig := aAa hw ht h
 obtain ⟨h1, h2, h3, h4, h5, h6, zv, hzv, hzs⟩ := gK ht
 obtain ⟨fuel, hf⟩ := h
 have hle : len ≤ 140737488351232 := Nat.le_trans (Nat.le_mul_of_pos_right _ (Nat.pos_of_ne_zero h6)) hbig
 rcases open_slice h1 hf with ⟨hcs, _⟩ | ⟨a, l, c, m', n, D, Pl, hcs, hb, hlc, _, hm, hx0, hx⟩
 ·simp only [Value.cells, List.cons.injEq, Value.slice.injEq, and_true] at hcs
  obtain ⟨rfl, rfl, rfl⟩ := hcs
  exact ⟨[], Rd.nil w 15 none, by simp⟩
 ·simp only [Value.cells, List.cons.injEq, Value.slice.injEq, and_true] at hcs
  obtain ⟨rfl, rfl, rfl⟩ := hcs
  obtain ⟨rfl, _⟩ := Prod.mk.inj hx0
  have hlm : len ≤ m' := by rw [hm]; split <;> omega
  have hww := (vG h1 hw).2
  have hall : ∀ i, i < len → ∃ cs' : List Value, cs'.length = 15 ∧ (∀ j, j < 15 → w.cell? (a.add (i * 15 + j)) = cs'[j]?) ∧ (∃ x : OpRow, cs' = x.cells ∧ OpOk w x.o x.A x.n x.c) := fun i hi => by
   obtain ⟨cs', hc, ht'⟩ := hx i (by omega)
   rw [h3] at hc
   obtain ⟨q1, q2⟩ := tJ hc
   refine ⟨cs', q1, fun j hj => ?_, aPx O ht' (hww (D i) (List.mem_map.2 ⟨i, List.mem_range.2 hi, rfl⟩))⟩
   rw [← q2 j hj, Addr.add_add]
  obtain ⟨ls, R, hQ⟩ := aLh (by omega) (by omega) hall
  obtain ⟨l, rfl, hl⟩ := aMy ls hQ
  exact ⟨l, R, hl⟩
end
end Go.Bil

namespace Go.Bil
open Go Go.RowKit
structure BytR (T : Nat) (rs : List Row) (bs : List (List Int)) : Prop where
 len : rs.length = bs.length
 row : ∀ (j : Nat) (r : Row) (b : List Int), rs[j]? = some r → bs[j]? = some b → bC T 1 r.A r.n r.c (b.map bJ) r.e
theorem BytR.nil (T : Nat) : BytR T [] [] := ⟨rfl, by simp⟩
theorem BytR.add {T : Nat} {rs : List Row} {bs : List (List Int)} {r : Row} {b : List Int} (h : BytR T rs bs) (hr : bC T 1 r.A r.n r.c (b.map bJ) r.e) : BytR T (rs ++ [r]) (bs ++ [b]) := by
 refine ⟨by simp [h.len], fun j q k hq hk => ?_⟩
 by_cases hj : j < rs.length
 ·rw [List.getElem?_append_left hj] at hq
  rw [List.getElem?_append_left (by rw [← h.len]; exact hj)] at hk
  exact h.row j q k hq hk
 ·have hj2 : j = rs.length := by
   have := (List.getElem?_eq_some_iff.1 hq).1
   simp at this
   omega
  rw [hj2, List.getElem?_append_right (Nat.le_refl _), Nat.sub_self] at hq
  rw [hj2, h.len, List.getElem?_append_right (Nat.le_refl _), Nat.sub_self] at hk
  simp only [List.getElem?_cons_zero, Option.some.injEq] at hq hk
  subst hq hk
  exact hr
theorem BytR.at {T : Nat} {rs : List Row} {bs : List (List Int)} (h : BytR T rs bs) {j : Nat} {b : List Int} (hb : bs[j]? = some b) : ∃ r, rs[j]? = some r ∧ bC T 1 r.A r.n r.c (b.map bJ) r.e := by
 have hj : j < rs.length := by rw [h.len]; exact (List.getElem?_eq_some_iff.1 hb).1
 have hr := List.getElem?_eq_getElem hj
 exact ⟨_, hr, h.row j _ b hr hb⟩
structure BytRd (w : World) (A : Option Addr) (n : Nat) (rs : List Row) (bs : List (List Int)) : Prop where
 rd : Rd w 1 A n (rs.map hdr)
 len : rs.length = bs.length
 row : ∀ (j : Nat) (r : Row) (b : List Int), rs[j]? = some r → bs[j]? = some b → Rd w 1 r.A r.n (b.map bJ) ∧ jH b ∧ r.n ≤ r.c
theorem BytRd.n_eq {w : World} {A : Option Addr} {n : Nat} {rs : List Row} {bs : List (List Int)} (h : BytRd w A n rs bs) : bs.length = n ∧ rs.length = n := by
 have := h.rd.len
 rw [List.length_map] at this
 exact ⟨by rw [← h.len]; exact this, this⟩
theorem BytRd.mem {w0 w : World} {S : List eZ} {A : Option Addr} {n : Nat} {rs : List Row} {bs : List (List Int)} (h : BytRd w0 A n rs bs) (M : Mem w0 [] S w) : BytRd w A n rs bs :=
 ⟨h.rd.mem M, h.len, fun j r b hr hb => by obtain ⟨h1, h2, h3⟩ := h.row j r b hr hb; exact ⟨h1.mem M, h2, h3⟩⟩
def bDm (rs : List Row) (X : List Nat) : Prop := ∀ r ∈ rs, 0 < r.n → ∀ q off, r.A = some ⟨q, off, none⟩ → q ∉ X
theorem BytRd.memY {w0 w : World} {X : List Nat} {S : List eZ} {A : Option Addr} {n : Nat} {rs : List Row} {bs : List (List Int)} (h : BytRd w0 A n rs bs) (M : Mem w0 X S w) (hA : 0 < n → ∀ q off, A = some ⟨q, off, none⟩ → q ∉ X) (hX : bDm rs X) : BytRd w A n rs bs :=
 ⟨h.rd.memY M hA, h.len, fun j r b hr hb => by obtain ⟨h1, h2, h3⟩ := h.row j r b hr hb; exact ⟨h1.memY M (hX r (List.mem_of_getElem? hr)), h2, h3⟩⟩
theorem BytRd.at {w : World} {A : Option Addr} {n : Nat} {rs : List Row} {bs : List (List Int)} (h : BytRd w A n rs bs) {j : Nat} (hj : j < n) : ∃ r b, rs[j]? = some r ∧ bs[j]? = some b ∧ (rs.map hdr)[j]? = some [.slice r.A r.n r.c] ∧ Rd w 1 r.A r.n (b.map bJ) ∧ jH b ∧ r.n ≤ r.c := by
 obtain ⟨h1, h2⟩ := h.n_eq
 have hr := List.getElem?_eq_getElem (l := rs) (i := j) (by omega)
 have hb := List.getElem?_eq_getElem (l := bs) (i := j) (by omega)
 exact ⟨_, _, hr, hb, by rw [List.getElem?_map, hr]; rfl, h.row j _ _ hr hb⟩
theorem BytRd.none (w : World) : BytRd w none 0 [] [] := ⟨Rd.nil w 1 Option.none, rfl, by simp⟩
structure GoodO (o : OpI) : Prop where
 byt : jH o.bytes
 body : InB o.body
 p1 : -2147483648 ≤ o.push.1 ∧ o.push.1 ≤ 2147483647
 p2 : -2147483648 ≤ o.push.2 ∧ o.push.2 ≤ 2147483647
 len : o.bytes.length ≤ 1000000
theorem GoodO.ok {o : OpI} (h : GoodO o) : OkO o := ⟨h.body, h.byt, h.len⟩
theorem aVi {l : List OpI} (hl : ∀ o ∈ l, OkO o) (n : Nat) : GoodV (oE [] (l.take n)) := aLg GoodV.nil (fun o ho => hl o (List.mem_of_mem_take ho))
end Go.Bil

namespace Go.Bil
def pD : Body := ⟨1, 65536, 0, 0, 0, 0, 100000, 0, 0, 0⟩
def tB2 : Body := ⟨2, 65536, 0, 0, 65536, 0, 0, 0, 0, 0⟩
def tB3 : Body := ⟨1, 65536, 0, 0, 0, 0, 0, 0, 0, 0⟩
def tB4 : Body := ⟨2, 65536, 0, 0, 65536, 0, -12019, -16, 0, -1024⟩
def opA (b : Body) : OpRow := ⟨⟨1, b, 0, (0, 0), []⟩, none, 0, 0⟩
def aFt : List OpRow := [opA tB2, opA pD, opA tB3]
theorem bGg : ∀ x ∈ aFt, InB x.o.body := by
 intro x hx
 simp only [aFt, List.mem_cons, List.not_mem_nil, or_false] at hx
 rcases hx with rfl | rfl | rfl <;> exact ⟨by decide, by decide, by decide, by decide, by decide, by decide, by decide, by decide, by decide, by decide⟩
theorem bMj (w : World) (b : Body) (h : InB b) : OpOk w (opA b).o (opA b).A (opA b).n (opA b).c :=
 ⟨Rd.nil w 1 none, Nat.le_refl _, by simp [opA, jH], h, (by decide : (-2147483648 : Int) ≤ 0 ∧ (0 : Int) ≤ 2147483647), (by decide : (-2147483648 : Int) ≤ 0 ∧ (0 : Int) ≤ 2147483647)⟩
theorem aXe (w : World) : ∀ x ∈ aFt, OpOk w x.o x.A x.n x.c := by
 intro x hx
 have hi := bGg x hx
 simp only [aFt, List.mem_cons, List.not_mem_nil, or_false] at hx
 rcases hx with rfl | rfl | rfl <;> exact bMj w _ hi
theorem bOd : ∀ x ∈ aFt, x.n = 0 := by
 intro x hx
 simp only [aFt, List.mem_cons, List.not_mem_nil, or_false] at hx
 rcases hx with rfl | rfl | rfl <;> rfl
theorem bSb : jW [] (opA tB2).o = ([tB2], mB) := by rw [aWe rfl, show mP [] (opA tB2).o.body = ([tB2], 0) by decide]; rfl
theorem bRs : jW [tB2] (opA pD).o = ([pD, tB2], mB) := by rw [aWe rfl, show mP [tB2] (opA pD).o.body = ([pD, tB2], 0) by decide]; rfl
theorem bPz : jW [pD, tB2] (opA tB3).o = ([pD, tB2], { mB with err := 10 }) := by rw [aWe rfl, show mP [pD, tB2] (opA tB3).o.body = ([pD, tB2], 10) by decide]
theorem bQn : oE [] (oS aFt) = [pD, tB2] := by
 show (jW (jW (jW [] (opA tB2).o).1 (opA pD).o).1 (opA tB3).o).1 = _
 rw [bSb, bRs, bPz]
theorem bPv : vA 10000000000 = 100000 := (bEq (by decide) (by decide)).symm
theorem bJw : len (-100000) 0 = 100000 := by
 unfold len
 rw [show pP (-100000) 0 = 10000000000 by decide, bPv]
 rfl
theorem bQg : jY pD tB2 = some ⟨1, 2, -65536, 0, 31072⟩ := by
 have e : oC pD tB2 = ((100000, 0), (0, 0), 10000000000) := by decide
 have hu : mI (-100000) 0 = (-65536, 0) := by unfold mI; rw [bJw]; decide
 unfold jY
 rw [if_neg (by decide)]
 unfold jI
 rw [e]
 show (if ((65536 : Int) + 65536).natAbs * ((65536 : Int) + 65536).natAbs ≤ pP (-100000) 0 then none else some (⟨1, 2, (mI (-100000) 0).1, (mI (-100000) 0).2, IntKind.wrap .i32 (65536 + 65536 - len (-100000) 0)⟩ : Con)) = _
 rw [if_neg (by decide), hu, bJw]
 decide
theorem bQo : nH [pD, tB2] = [(1, 2)] := by decide
theorem aKf : kL [pD, tB2] = [⟨1, 2, -65536, 0, 31072⟩] := by
 have h : aBn (boM [pD, tB2]) (1, 2) = some ⟨1, 2, -65536, 0, 31072⟩ := (sE (show boM [pD, tB2] 1 = some pD from by decide) (show boM [pD, tB2] 2 = some tB2 from by decide)).trans bQg
 unfold kL
 rw [bQo]
 simp only [List.filterMap_cons, List.filterMap_nil, h]
theorem bPw : pU [pD, tB2] = [pD, tB4] := by
 unfold pU lJ
 rw [aKf]
 decide +kernel
theorem bRe : sJ [pD, tB2] = false := by
 unfold sJ lJ
 rw [aKf]
 decide +kernel
end Go.Bil
