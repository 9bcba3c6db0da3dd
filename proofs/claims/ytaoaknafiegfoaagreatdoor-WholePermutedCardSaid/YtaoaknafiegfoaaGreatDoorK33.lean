/- Part of the proof of the laws of this seat: Mf2, Mf3, Mf4, Mf5, Mf6, Mf7, Fx3, Fx5, Mf8, Mf9. No conditions. -/
import Derived.Test.YtaoaknafiegfoaaGreatDoorK6
import Derived.Test.YtaoaknafiegfoaaGreatDoorK18
import Derived.Test.YtaoaknafiegfoaaGreatDoorK32
set_option linter.unusedVariables false
set_option linter.unusedSimpArgs false
set_option linter.unnecessarySimpa false
namespace Go.Bil
def oD (b : Body) (j : Int × Int) : Body := { b with vx := iU (b.vx + j.1 * b.mass / 65536) 16777216, vy := iU (b.vy + j.2 * b.mass / 65536) 16777216 }
theorem aZt {b : Body} (h : Okb b) (j : Int × Int) : Okb (oD b j) := ⟨h.r, h.a, h.m, h.c, h.p, ⟨(eI _ (by decide)).1, (eI _ (by decide)).2, (eI _ (by decide)).1, (eI _ (by decide)).2⟩⟩
theorem aIg {b : Body} (h : Okb b) : check b = 0 := by
 have h1 := h.r
 have h2 := h.a
 have h3 := h.m
 have h4 := h.c
 have h5 := h.p
 have h6 := h.v
 unfold check sA
 rw [if_neg (by omega), if_neg (by omega), if_neg (by omega), if_neg (by omega), if_neg (by omega), if_neg (by omega)]
def sC (v : List Body) (k : Int) (j : Int × Int) : List Body × Int := if cK k v < 0 then (v, 11) else (aFg v (oD (v.getD (cK k v).toNat default) j) false, 0)
structure OpI where
 kind : Int
 body : Body
 key : Int
 push : Int × Int
 bytes : List Int
structure ResI where
 err : Int
 body : Body
 bytes : List Int
 cont : Int
 cl : Bool
def kM : ResI := ⟨0, aVg, [], 0, false⟩
def rX (v : List Body) (k : Int) : ResI := if cK k v < 0 then { kM with err := 11 } else { kM with body := v.getD (cK k v).toNat default }
def yA (v : List Body) (l : List Int) : List Body := if (kI l).2 = 0 then (kI l).1 else v
def doR (v : List Body) (o : OpI) : List Body × ResI :=
 if o.kind = 0 then ((nR v o.body).1, { kM with err := (nR v o.body).2 })
 else if o.kind = 1 then ((iI v o.key).1, { kM with err := (iI v o.key).2 })
 else if o.kind = 2 then ((sC v o.key o.push).1, { kM with err := (sC v o.key o.push).2 })
 else if o.kind = 3 then (nZ v, { kM with cont := ((kX v).length : Int), cl := rN v })
 else if o.kind = 4 then (v, { kM with bytes := lO v })
 else if o.kind = 5 then (yA v o.bytes, { kM with err := (kI o.bytes).2 })
 else if o.kind = 6 then (v, rX v o.key)
 else (v, kM)
structure GoodV (v : List Body) : Prop where
 s : cA v
 len : v.length ≤ 4096
 ok : ∀ b ∈ v, check b = 0
 inb : ∀ b ∈ v, InB b
theorem GoodV.okb {v : List Body} (h : GoodV v) : ∀ b ∈ v, Okb b := fun b hb => aIh (h.ok b hb)
theorem GoodV.chk {v : List Body} (h : GoodV v) : gQ v = 0 := aPz (aYa h.len h.ok) h.s
theorem GoodV.nil : GoodV [] := ⟨by simp [cA], by simp, by simp, by simp⟩
def bY (T : Nat) (r : StV) (v : List Body) : Prop := GoodV v ∧ ∃ m, StoreIs T r.A r.n r.c r.p r.er r.em m ∧ Rel m v
theorem xK {T : Nat} {r : StV} {m v : List Body} (h : StoreIs T r.A r.n r.c r.p r.er r.em m) (R : Rel m v) (hi : ∀ b ∈ m, InB b) : bY T r v :=
 ⟨⟨R.sorted, by rw [R.perm.length_eq]; exact h.cap, fun b hb => h.ok b (R.perm.mem_iff.1 hb), fun b hb => hi b (R.perm.mem_iff.1 hb)⟩, m, h, R⟩
theorem bY.new (T : Nat) (o o' : Obj) : bY T ⟨none, 0, 0, none, (none, o), (none, o')⟩ [] := xK (StoreIs.nil T o o') Rel.nil (by simp)
theorem aZw {m : List Body} {x : Body} (h : ∀ b ∈ m, InB b) (hx : InB x) : ∀ b ∈ (jZ m x).1, InB b := by
 intro b hb
 unfold jZ at hb
 split at hb
 ·exact h b hb
 ·split at hb
  ·exact h b hb
  ·split at hb
   ·exact h b hb
   ·rcases List.mem_append.1 hb with h1 | h1
    ·exact h b h1
    ·rw [List.mem_singleton] at h1; subst h1; exact hx
theorem aKx {m : List Body} (hk : fL m) {k : Int} (h : ∀ b ∈ m, InB b) : ∀ b ∈ (jA m k).1, InB b := fun b hb => h b (yN.1 ((aHn hk k).mem_iff.1 hb)).1
theorem aYn {m : List Body} {x : Body} (h : ∀ b ∈ m, InB b) (hx : InB x) : ∀ b ∈ (sM m x).1, InB b := by
 intro b hb
 unfold sM at hb
 split at hb
 ·exact h b hb
 ·split at hb
  ·exact h b hb
  ·rcases List.mem_or_eq_of_mem_set hb with h1 | h1
   ·exact h b h1
   ·subst h1; exact hx
theorem GoodV.inm {v m : List Body} (h : GoodV v) (R : Rel m v) : ∀ b ∈ m, InB b := fun b hb => h.inb b (R.perm.mem_iff.2 hb)
theorem bBk {b : Body} (h : InB b) (j : Int × Int) : InB (oD b j) := by
 obtain ⟨h0, h1, h2, h3, h4, h5, h6, h7, h8, h9⟩ := h
 have a := eI (b.vx + j.1 * b.mass / 65536) (l := 16777216) (by decide)
 have c := eI (b.vy + j.2 * b.mass / 65536) (l := 16777216) (by decide)
 exact ⟨h0, h1, h2, h3, h4, h5, h6, h7, ⟨by show -2147483648 ≤ iU _ _; omega, by show iU _ _ ≤ 2147483647; omega⟩, ⟨by show -2147483648 ≤ iU _ _; omega, by show iU _ _ ≤ 2147483647; omega⟩⟩
theorem bAv {xs ys : List Body} (l : Like xs ys) (hx : ∀ b ∈ xs, InB b) (hy : ∀ b ∈ ys, Okb b) : ∀ b ∈ ys, InB b := by
 intro b hb
 obtain ⟨i, hi⟩ := List.getElem?_of_mem hb
 have hlt : i < xs.length := by rw [← l.len]; exact (List.getElem?_eq_some_iff.1 hi).1
 have hxi := List.getElem?_eq_getElem hlt
 have hs := l.at_ i _ b hxi hi
 obtain ⟨h0, _⟩ := hx _ (List.getElem_mem hlt)
 have o := hy b hb
 have o1 := o.r
 have o2 := o.a
 have o3 := o.m
 have o4 := o.c
 have o5 := o.p
 have o6 := o.v
 have := hs.key
 exact ⟨by omega, by omega, by omega, by omega, by omega, by omega, by omega, by omega, by omega, by omega⟩
theorem GoodV.step {v : List Body} (h : GoodV v) : GoodV (nZ v) :=
 ⟨(uW v).sorted h.s, by rw [(uW v).len]; exact h.len, fun b hb => aIg (aOe h.okb b hb), bAv (uW v) h.inb (aOe h.okb)⟩
theorem GoodV.dec {l : List Int} (hl : iR l) (hn : l.length ≤ 1000000) (h : (kI l).2 = 0) : GoodV (kI l).1 := by
 have d := bAf hl h
 have hc := d.c
 have h1 : pC (kI l).1 = 0 := by
  unfold gQ at hc
  split at hc
  ·rename_i hne; exact absurd hc hne
  ·rename_i hne; exact Decidable.not_not.1 hne
 obtain ⟨h2, h3⟩ := aXg h1
 refine ⟨?_, h2, h3, d.inb⟩
 unfold gQ at hc
 rw [if_neg (by omega)] at hc
 by_cases ha : aAx (kI l).1 = true
 ·exact pJ ha
 ·rw [if_neg ha] at hc; omega
theorem aFu {v : List Body} (h : GoodV v) : ∀ k, k ≤ v.length → nG (v.take k) = v.take k := by
 intro k hk
 rw [lW h.s.keys h.len k hk]
 exact List.filter_eq_self.2 fun b hb => by simpa using h.ok b (List.mem_of_mem_take hb)
theorem aTh {v : List Body} (h : cA v) : Rel v v := ⟨List.Perm.refl _, h⟩
theorem aAg {v : List Body} {k : Int} {i : Nat} {b : Body} (hf : cK k v = (i : Int)) (hb : v[i]? = some b) : v.getD (cK k v).toNat default = b := by
 rw [hf, Int.toNat_natCast, List.getD_eq_getElem?_getD, hb]
 rfl
theorem aPo {v : List Body} (h : GoodV v) : kI (lO v) = (v, 0) := aUh h.inb h.len h.chk
theorem aZi {m v : List Body} (R : Rel m v) (h : GoodV v) {k : Int} {i : Nat} {b : Body} (j : Int × Int) (hf : cK k v = (i : Int)) (hb : v[i]? = some b) : Rel (sM m (oD b j)).1 (sC v k j).1 ∧ (sM m (oD b j)).2 = 0 ∧ (sC v k j).2 = 0 ∧ (sC v k j).1 = aFg v (oD b j) false := by
 have hbm : b ∈ v := List.mem_of_getElem? hb
 have hi : (sC v k j) = (aFg v (oD b j) false, 0) := by unfold sC; rw [if_neg (by omega), aAg hf hb]
 have hk : b.key = k := by
  rcases dM k v with ⟨h1, _⟩ | ⟨q, c, h1, h2, h3⟩
  ·omega
  ·have : q = i := by omega
   subst this
   rw [h1] at hb; injection hb with hb; rw [← hb]; exact h2
 have hp : check (oD b j) = 0 := aIg (aZt (h.okb b hbm) j)
 obtain ⟨h1, h2⟩ := R.set (oD b j)
 have hs : aUu v (oD b j) = (aFg v (oD b j) false, 0) := by
  unfold aUu
  rw [if_neg (by omega), if_neg (by show ¬ cK b.key v < 0; rw [hk]; omega)]
 rw [hs] at h1 h2
 exact ⟨by rw [hi]; exact h1, h2.symm, by rw [hi], by rw [hi]⟩
theorem aGu {v : List Body} {k : Int} (j : Int × Int) (h : cK k v < 0) : sC v k j = (v, 11) := by unfold sC; rw [if_pos h]
end Go.Bil
namespace Go.Bil
theorem bIn {j m : Int} (hj : -2147483648 ≤ j ∧ j ≤ 2147483647) (hm : 0 ≤ m ∧ m ≤ 1048576) : -2251799813685248 ≤ j * m ∧ j * m ≤ 2251799813685248 := by
 have h1 : j * m ≤ 2147483647 * m := Int.mul_le_mul_of_nonneg_right hj.2 hm.1
 have h2 : -2147483648 * m ≤ j * m := Int.mul_le_mul_of_nonneg_right hj.1 hm.1
 omega
theorem aZr {m v : List Body} (R : Rel m v) (k : Int) : xR m k = ((rX v k).body, (rX v k).err) := by
 rcases R.get k with ⟨h1, h2⟩ | ⟨i, b, h1, h2, h3⟩
 ·rw [h2]; unfold rX; rw [if_pos h1]; rfl
 ·rw [h3]; unfold rX; rw [if_neg (by omega), aAg h1 h2]; rfl
end Go.Bil
namespace Go.Bil
theorem bKe {v : List Body} {o : OpI} (h0 : o.kind = 0) : doR v o = ((nR v o.body).1, { kM with err := (nR v o.body).2 }) := by unfold doR; rw [if_pos h0]
theorem bKd {v : List Body} {o : OpI} (h : o.kind = 1) : doR v o = ((iI v o.key).1, { kM with err := (iI v o.key).2 }) := by unfold doR; rw [if_neg (by omega), if_pos h]
theorem bKi {v : List Body} {o : OpI} (h : o.kind = 2) : doR v o = ((sC v o.key o.push).1, { kM with err := (sC v o.key o.push).2 }) := by unfold doR; rw [if_neg (by omega), if_neg (by omega), if_pos h]
theorem bKf {v : List Body} {o : OpI} (h : o.kind = 3) : doR v o = (nZ v, { kM with cont := ((kX v).length : Int), cl := rN v }) := by unfold doR; rw [if_neg (by omega), if_neg (by omega), if_neg (by omega), if_pos h]
theorem bKj {v : List Body} {o : OpI} (h : o.kind = 4) : doR v o = (v, { kM with bytes := lO v }) := by unfold doR; rw [if_neg (by omega), if_neg (by omega), if_neg (by omega), if_neg (by omega), if_pos h]
theorem bKl {v : List Body} {o : OpI} (h : o.kind = 5) : doR v o = (yA v o.bytes, { kM with err := (kI o.bytes).2 }) := by unfold doR; rw [if_neg (by omega), if_neg (by omega), if_neg (by omega), if_neg (by omega), if_neg (by omega), if_pos h]
def eL (o : OpI) (A : Option Addr) (n c : Nat) : List Value := [.int .i64 o.kind] ++ aF o.body ++ [.int .u32 o.key, .int .i32 o.push.1, .int .i32 o.push.2, .slice A n c]
structure OpOk (w : World) (o : OpI) (A : Option Addr) (n c : Nat) : Prop where
 rd : Rd w 1 A n (o.bytes.map bI)
 cap : n ≤ c
 byt : iR o.bytes
 body : InB o.body
 p1 : -2147483648 ≤ o.push.1 ∧ o.push.1 ≤ 2147483647
 p2 : -2147483648 ≤ o.push.2 ∧ o.push.2 ≤ 2147483647
theorem OpOk.len {w : World} {o : OpI} {A : Option Addr} {n c : Nat} (h : OpOk w o A n c) : o.bytes.length = n := by simpa using h.rd.len
theorem OpOk.mem {w0 w : World} {S : List dN} {o : OpI} {A : Option Addr} {n c : Nat} (h : OpOk w0 o A n c) (M : Mem w0 [] S w) : OpOk w o A n c := ⟨h.rd.mem M, h.cap, h.byt, h.body, h.p1, h.p2⟩
theorem OpOk.memY {w0 w : World} {X : List Nat} {S : List dN} {o : OpI} {A : Option Addr} {n c : Nat} (h : OpOk w0 o A n c) (M : Mem w0 X S w) (hX : 0 < n → ∀ q off, A = Option.some ⟨q, off, none⟩ → q ∉ X) : OpOk w o A n c := ⟨h.rd.memY M hX, h.cap, h.byt, h.body, h.p1, h.p2⟩
structure OpRow where
 o : OpI
 A : Option Addr
 n : Nat
 c : Nat
def OpRow.cells (x : OpRow) : List Value := eL x.o x.A x.n x.c
structure OpsRd (w : World) (A : Option Addr) (n : Nat) (l : List OpRow) : Prop where
 rd : Rd w 15 A n (l.map OpRow.cells)
 each : ∀ x ∈ l, OpOk w x.o x.A x.n x.c
theorem OpsRd.mem {w0 w : World} {S : List dN} {A : Option Addr} {n : Nat} {l : List OpRow} (h : OpsRd w0 A n l) (M : Mem w0 [] S w) : OpsRd w A n l := ⟨h.rd.mem M, fun x hx => (h.each x hx).mem M⟩
end Go.Bil
namespace Go.Bil
end Go.Bil
namespace Go.Bil
end Go.Bil
namespace Go.Bil
end Go.Bil
namespace Go.Bil
theorem aSj {l l' : List Body} (p : l'.Perm l) (h : fL l) (hl : l.length < 4096) : wY l = wY l' := by
 have e := aMj p h hl
 rw [(uO l).eq, (uO l').eq] at e
 exact e
end Go.Bil

namespace Go.Bil
def jB (v : List Body) (o : OpI) : List Body × ResI := if o.kind < 1 ∨ 6 < o.kind then (v, { kM with err := 1 }) else doR v { o with kind := o.kind - 1 }
def rC (v : List Body) : List OpI → List Body
 | [] => v
 | o :: l => rC (jB v o).1 l
def tC (v : List Body) : List OpI → List ResI
 | [] => []
 | o :: l => (jB v o).2 :: tC (jB v o).1 l
theorem wD (v : List Body) : ∀ (a b : List OpI), rC v (a ++ b) = rC (rC v a) b
 | [], b => rfl
 | o :: a, b => wD (jB v o).1 a b
theorem aGe (v : List Body) : ∀ (a b : List OpI), tC v (a ++ b) = tC v a ++ tC (rC v a) b := by
 intro a
 induction a generalizing v with
 | nil => intro b; rfl
 | cons o a ih => intro b; show _ :: tC (jB v o).1 (a ++ b) = _; rw [ih]; rfl
theorem uR {v : List Body} {l : List OpI} {i : Nat} {o : OpI} (h : l[i]? = some o) : rC v (l.take (i + 1)) = (jB (rC v (l.take i)) o).1 := by rw [cT h, wD]; rfl
theorem aCq {v : List Body} {l : List OpI} {i : Nat} {o : OpI} (h : l[i]? = some o) : tC v (l.take (i + 1)) = tC v (l.take i) ++ [(jB (rC v (l.take i)) o).2] := by rw [cT h, aGe]; rfl
theorem aGp (v : List Body) : ∀ l : List OpI, (tC v l).length = l.length
 | [] => rfl
 | o :: l => by show (tC (jB v o).1 l).length + 1 = l.length + 1; rw [aGp (jB v o).1 l]
theorem rR {v : List Body} {o : OpI} (h : ¬ (1 ≤ o.kind ∧ o.kind ≤ 6)) : jB v o = (v, { kM with err := 1 }) := by unfold jB; rw [if_pos (by omega)]
end Go.Bil

namespace Go.Bil
structure OkO (o : OpI) : Prop where
 body : InB o.body
 byt : iR o.bytes
 len : o.bytes.length ≤ 1000000
end Go.Bil

namespace Go.Bil
def eM (z : ResI) (r : Row) : List Value := [.int .i64 z.err, .slice r.A r.n r.c, .int .i64 z.cont, .bool z.cl]
structure OutR (T : Nat) (rs : List Row) (zs : List ResI) : Prop where
 len : rs.length = zs.length
 row : ∀ (j : Nat) (r : Row) (z : ResI), rs[j]? = some r → zs[j]? = some z → aW T 1 r.A r.n r.c (z.bytes.map bI) r.e
def vQ (zs : List ResI) (rs : List Row) : List (List Value) := List.zipWith eM zs rs
theorem OutR.nil (T : Nat) : OutR T [] [] := ⟨rfl, by simp⟩
theorem OutR.add {T : Nat} {rs : List Row} {zs : List ResI} {r : Row} {z : ResI} (h : OutR T rs zs) (hr : aW T 1 r.A r.n r.c (z.bytes.map bI) r.e) : OutR T (rs ++ [r]) (zs ++ [z]) := by
 refine ⟨by simp [h.len], fun j q k hq hk => ?_⟩
 by_cases hj : j < rs.length
 ·rw [List.getElem?_append_left hj] at hq
  rw [List.getElem?_append_left (by rw [← h.len]; exact hj)] at hk
  exact h.row j q k hq hk
 ·have hj2 : j = rs.length := by
   have := (List.getElem?_eq_some_iff.1 hq).1
   simp at this
   omega
  rw [hj2, List.getElem?_append_right (Nat.le_refl _), Nat.sub_self] at hq
  rw [hj2, h.len, List.getElem?_append_right (Nat.le_refl _), Nat.sub_self] at hk
  simp only [List.getElem?_cons_zero, Option.some.injEq] at hq hk
  subst hq hk
  exact hr
theorem aVn {zs : List ResI} {rs : List Row} (h : rs.length = zs.length) : (vQ zs rs).length = zs.length := by unfold vQ; rw [List.length_zipWith, h, Nat.min_self]
theorem aSd {zs : List ResI} {rs : List Row} (h : rs.length = zs.length) (z : ResI) (r : Row) : vQ (zs ++ [z]) (rs ++ [r]) = vQ zs rs ++ [eM z r] := by
 unfold vQ
 rw [List.zipWith_append h.symm]
 rfl
theorem OutR.rd {w0 w : World} {X : List Nat} {S : List dN} {T : Nat} {rs : List Row} {zs : List ResI} (h : OutR T rs zs) (M : Mem w0 X S w) (ht : ∀ r ∈ rs, r.e ∈ S) {j : Nat} {r : Row} {z : ResI} (hr : rs[j]? = some r) (hz : zs[j]? = some z) : Rd w 1 r.A r.n (z.bytes.map bI) :=
 (h.row j r z hr hz).rd M (ht r (List.mem_of_getElem? hr))
theorem bAs (l : List OpRow) : ∀ y ∈ l.map OpRow.cells, y.length = 15 := by
 intro y hy
 obtain ⟨x, _, rfl⟩ := List.mem_map.1 hy
 rfl
end Go.Bil

namespace Go.Bil
theorem aQk {v : List Body} {o : OpI} (h : o.kind = 1) : jB v o = ((nR v o.body).1, { kM with err := (nR v o.body).2 }) := by unfold jB; rw [if_neg (by omega)]; exact bKe (by simp; omega)
theorem bFe {v : List Body} {o : OpI} (h : o.kind = 2) : jB v o = ((iI v o.key).1, { kM with err := (iI v o.key).2 }) := by unfold jB; rw [if_neg (by omega)]; exact bKd (by simp; omega)
theorem bHl {v : List Body} {o : OpI} (h : o.kind = 3) : jB v o = ((sC v o.key o.push).1, { kM with err := (sC v o.key o.push).2 }) := by unfold jB; rw [if_neg (by omega)]; exact bKi (by simp; omega)
theorem bEc {v : List Body} {o : OpI} (h : o.kind = 4) : jB v o = (nZ v, { kM with cont := ((kX v).length : Int), cl := rN v }) := by unfold jB; rw [if_neg (by omega)]; exact bKf (by simp; omega)
theorem bCy {v : List Body} {o : OpI} (h : o.kind = 5) : jB v o = (v, { kM with bytes := lO v }) := by unfold jB; rw [if_neg (by omega)]; exact bKj (by simp; omega)
theorem bFy {v : List Body} {o : OpI} (h : o.kind = 6) : jB v o = (yA v o.bytes, { kM with err := (kI o.bytes).2 }) := by unfold jB; rw [if_neg (by omega)]; exact bKl (by simp; omega)
theorem lJ {f : Int → Option Value} {k : Int} {v : Value} (h : f k = some v) : Value.tuple [((f k).getD .nilFunc), .bool (f k).isSome].toArray = Value.tuple [v, .bool true].toArray := by rw [h]; rfl
theorem aRn {f : Int → Option Value} {k : Int} (h : f k = none) : Value.tuple [((f k).getD .nilFunc), .bool (f k).isSome].toArray = Value.tuple [.nilFunc, .bool false].toArray := by rw [h]; rfl
def aMp (l : List OpRow) (X : List Nat) : Prop := ∀ x ∈ l, 0 < x.n → ∀ q off, x.A = some ⟨q, off, none⟩ → q ∉ X
def rE (l : List OpRow) : List OpI := l.map OpRow.o
theorem aMt {l : List OpRow} {i : Nat} {x : OpRow} (h : l[i]? = some x) : (rE l)[i]? = some x.o := by unfold rE; rw [List.getElem?_map, h]; rfl
theorem aJc (l : List OpRow) : (rE l).length = l.length := List.length_map ..
end Go.Bil

namespace Go.Bil
theorem OpsRd.none (w : World) : OpsRd w none 0 [] := ⟨Rd.nil w 15 Option.none, by simp⟩
theorem OpsRd.memY {w0 w : World} {X : List Nat} {S : List dN} {A : Option Addr} {n : Nat} {l : List OpRow} (h : OpsRd w0 A n l) (M : Mem w0 X S w) (hA : 0 < n → ∀ q off, A = some ⟨q, off, Option.none⟩ → q ∉ X) (hX : aMp l X) : OpsRd w A n l := ⟨h.rd.memY M hA, fun x hx => (h.each x hx).memY M (hX x hx)⟩
theorem OpsRd.sub {w : World} {A : Option Addr} {n c : Nat} {l : List OpRow} (h : OpsRd w A n l) (i j : Nat) (h1 : i ≤ j) (h2 : j ≤ n) (hc : n ≤ c) : OpsRd w (rD A c i 15) (j - i) ((l.drop i).take (j - i)) :=
 ⟨by rw [List.map_take, List.map_drop]; exact h.rd.sub i j h1 h2 hc, fun x hx => h.each x (List.mem_of_mem_drop (List.mem_of_mem_take hx))⟩
theorem Own.dummy (w : World) (o : Obj) : Own [(none, o)] w := ⟨by simp, by simp [bH]⟩
end Go.Bil

namespace Go.Bil
open Go Go.RowKit Go.Deep
theorem aGx {α : Type} {f : α → List Value} {Q : α → Prop} : ∀ ls : List (List Value), (∀ y ∈ ls, ∃ x, y = f x ∧ Q x) → ∃ l : List α, ls = l.map f ∧ ∀ x ∈ l, Q x
 | [], _ => ⟨[], rfl, by simp⟩
 | y :: ls, h => by
  obtain ⟨x, rfl, hx⟩ := h y (by simp)
  obtain ⟨l, rfl, hl⟩ := aGx ls (fun z hz => h z (by simp [hz]))
  refine ⟨x :: l, rfl, fun z hz => ?_⟩
  rcases List.mem_cons.1 hz with rfl | hz
  ·exact hx
  ·exact hl z hz
theorem bDq (l : List Value) (h : kL [.u8] l) : ∃ x : Int, l = bI x ∧ (0 ≤ x ∧ x ≤ 255) := by
 obtain ⟨z, l', rfl, hz, hl'⟩ := eO h
 obtain rfl := qK hl'
 exact ⟨z, rfl, hz⟩
section
variable {H : Type} {enc : TypeId × Value → H} {P : Program} {w : World} {base : Nat} {spare : Nat → Bool} {held : Bool}
theorem aKy {t e fuel : Nat} {cs : List Value} {x : DataW H × List MemPlace} (hu : P.underlying t = some (.slice e)) (h : DataW.trod enc P w base spare held fuel t cs = some x) : ∃ (A : Option Addr) (n c : Nat), cs = [.slice A n c] ∧ n ≤ c := by
 rcases open_slice hu h with ⟨rfl, _⟩ | ⟨a, l, c, m', n, D, Pl, rfl, hb, hlc, _⟩
 ·exact ⟨none, 0, 0, rfl, Nat.le_refl _⟩
 ·exact ⟨_, _, _, rfl, hlc⟩
structure OpT (P : Program) (m T T0 T1 T2 T3 T4 e8 b8 : Nat) (fs : Array Field) : Prop where
 u : P.underlying T = some (.struct fs)
 f : fs.toList.map (fun f => (f.type, f.offset)) = [(T0, 0), (T1, 1), (T2, 11), (T3, 12), (T4, 14)]
 sz : P.cellsOf T = 15
 l0 : jY P m T0 = some [.i64]
 l1 : jY P m T1 = some [.u32, .i32, .i32, .i32, .i32, .i32, .i32, .i32, .i32, .i32]
 l2 : jY P m T2 = some [.u32]
 l3 : jY P m T3 = some [.i32, .i32]
 l8 : jY P m e8 = some [.u8]
 c0 : P.cellsOf T0 = 1
 c1 : P.cellsOf T1 = 10
 c2 : P.cellsOf T2 = 1
 c3 : P.cellsOf T3 = 2
 c4 : P.cellsOf T4 = 1
 s : eD P T4 e8 1 b8 = true
theorem aLh {α : Type} {l : List α} (h : l.length = 15) : l = l.take 1 ++ (((l.drop 1).take 10) ++ (((l.drop 11).take 1) ++ (((l.drop 12).take 2) ++ ((l.drop 14).take 1)))) := by
 have e4 : (l.drop 14).take 1 = l.drop 14 := List.take_of_length_le (by rw [List.length_drop]; omega)
 have e3 : (l.drop 12).take 2 ++ l.drop 14 = l.drop 12 := by have g := List.take_append_drop 2 (l.drop 12); rwa [List.drop_drop] at g
 have e2 : (l.drop 11).take 1 ++ l.drop 12 = l.drop 11 := by have g := List.take_append_drop 1 (l.drop 11); rwa [List.drop_drop] at g
 have e1 : (l.drop 1).take 10 ++ l.drop 11 = l.drop 1 := by have g := List.take_append_drop 10 (l.drop 1); rwa [List.drop_drop] at g
 rw [e4, e3, e2, e1, List.take_append_drop]
theorem aMb {m T T0 T1 T2 T3 T4 e8 b8 : Nat} {fs : Array Field} (O : OpT P m T T0 T1 T2 T3 T4 e8 b8 fs) {fuel : Nat} {cs : List Value} {d : DataW H} {pl : List MemPlace} (hx : DataW.trod enc P w base spare held fuel T cs = some (d, pl)) (hw : ∀ n ∈ d.weights P T, n ≤ reachBytes) :
  ∃ x : OpRow, cs = x.cells ∧ OpOk w x.o x.A x.n x.c := by
 obtain ⟨xs, k, _, hd, hl, hxl, hfs⟩ := DataW.trod_struct O.u hx
 rw [O.sz] at hl
 have hlen : fs.toList.length = 5 := by have := congrArg List.length O.f; simpa using this
 have hf : ∀ (i : Nat) (t o : Nat), [(T0, 0), (T1, 1), (T2, 11), (T3, 12), (T4, 14)][i]? = some (t, o) → ∃ f, fs[i]? = some f ∧ f.type = t ∧ f.offset = o := by
  intro i t o hi
  rw [← O.f, List.getElem?_map] at hi
  cases hq : fs.toList[i]? with
  | none => rw [hq] at hi; cases hi
  | some f =>
   rw [hq] at hi
   simp only [Option.map_some, Option.some.injEq, Prod.mk.injEq] at hi
   exact ⟨f, by simpa using hq, hi⟩
 have part : ∀ (i : Nat) (t o z : Nat), [(T0, 0), (T1, 1), (T2, 11), (T3, 12), (T4, 14)][i]? = some (t, o) → P.cellsOf t = z → ∃ y, xs[i]? = some y ∧ DataW.trod enc P w base spare held k t ((cs.drop o).take z) = some y := by
  intro i t o z hi hz
  obtain ⟨f, h1, rfl, rfl⟩ := hf i t o hi
  have h2 := hfs i f h1
  have hlt : i < xs.length := by rw [hxl]; exact (Array.getElem?_eq_some_iff.1 h1).1
  rw [List.getElem?_eq_getElem hlt, hz] at h2
  exact ⟨_, List.getElem?_eq_getElem hlt, h2⟩
 obtain ⟨y0, _, p0⟩ := part 0 T0 0 1 rfl O.c0
 obtain ⟨y1, _, p1⟩ := part 1 T1 1 10 rfl O.c1
 obtain ⟨y2, _, p2⟩ := part 2 T2 11 1 rfl O.c2
 obtain ⟨y3, _, p3⟩ := part 3 T3 12 2 rfl O.c3
 obtain ⟨y4, q4, p4⟩ := part 4 T4 14 1 rfl O.c4
 obtain ⟨h1, h2, h3, h4, h5, h6, zv, hzv, hzs⟩ := eK O.s
 obtain ⟨A, n, c, hsl, hnc⟩ := aKy h1 p4
 rw [hsl] at p4
 have hT : DataW.Trod enc P w base spare held T4 (.slice A n c) y4.1 y4.2 := ⟨k, p4⟩
 have hw4 : ∀ n ∈ y4.1.weights P T4, n ≤ reachBytes := fun n hn => by
  refine hw n ?_
  obtain rfl : d = .agg (xs.map (·.1)) := (Prod.mk.inj hd).1
  simp only [DataW.weights, O.u]
  obtain ⟨f, g1, rfl, _⟩ := hf 4 T4 14 rfl
  have g1' : fs.toList[4]? = some f := by simpa using g1
  exact DataW.weights_mem_each (j := 4) (by rw [List.getElem?_map, g1']; rfl) (by rw [List.getElem?_map, q4]; rfl) n hn
 have hs := vW hw4 O.s hT
 obtain ⟨ls, R, hI⟩ := aCk O.s O.l8 rfl hs hT
 obtain ⟨bs, rfl, hbs⟩ := aEu bDq ls hI
 have i0 := iK m T0 _ k _ _ O.l0 p0
 have i1 := iK m T1 _ k _ _ O.l1 p1
 have i2 := iK m T2 _ k _ _ O.l2 p2
 have i3 := iK m T3 _ k _ _ O.l3 p3
 obtain ⟨kind, l', e0, _, hl'⟩ := eO i0
 obtain rfl := qK hl'
 obtain ⟨body, e1, hbody⟩ := aWk _ i1
 obtain ⟨key, l', e2, hkey, hl'⟩ := eO i2
 obtain rfl := qK hl'
 obtain ⟨dx, l', e3, hdx, hl'⟩ := eO i3
 obtain ⟨dy, l'', rfl, hdy, hl''⟩ := eO hl'
 obtain rfl := qK hl''
 refine ⟨⟨⟨kind, body, key, (dx, dy), bs⟩, A, n, c⟩, ?_, R, hnc, hbs, hbody, hdx, hdy⟩
 have e := aLh hl
 rw [List.drop_zero] at e0
 rw [e0, e1, e2, e3, hsl] at e
 rw [e]
 rfl
theorem aYd {m t T T0 T1 T2 T3 T4 e8 b8 bytes : Nat} {A : Option Addr} {len cap : Nat} {d : DataW H} {ps : List MemPlace} (ht : eD P t T 15 bytes = true) (O : ∃ fs, OpT P m T T0 T1 T2 T3 T4 e8 b8 fs) (hw : ∀ n ∈ d.weights P t, n ≤ reachBytes)
  (h : DataW.Trod enc P w base spare held t (.slice A len cap) d ps) : ∃ l : List OpRow, OpsRd w A len l := by
 obtain ⟨fs, O⟩ := O
 have hbig := vW hw ht h
 obtain ⟨h1, h2, h3, h4, h5, h6, zv, hzv, hzs⟩ := eK ht
 obtain ⟨fuel, hf⟩ := h
 have hle : len ≤ 140737488351232 := Nat.le_trans (Nat.le_mul_of_pos_right _ (Nat.pos_of_ne_zero h6)) hbig
 rcases open_slice h1 hf with ⟨hcs, _⟩ | ⟨a, l, c, m', n, D, Pl, hcs, hb, hlc, _, hm, hx0, hx⟩
 ·simp only [Value.cells, List.cons.injEq, Value.slice.injEq, and_true] at hcs
  obtain ⟨rfl, rfl, rfl⟩ := hcs
  exact ⟨[], Rd.nil w 15 none, by simp⟩
 ·simp only [Value.cells, List.cons.injEq, Value.slice.injEq, and_true] at hcs
  obtain ⟨rfl, rfl, rfl⟩ := hcs
  obtain ⟨rfl, _⟩ := Prod.mk.inj hx0
  have hlm : len ≤ m' := by rw [hm]; split <;> omega
  have hww := (rP h1 hw).2
  have hall : ∀ i, i < len → ∃ cs' : List Value, cs'.length = 15 ∧ (∀ j, j < 15 → w.cell? (a.add (i * 15 + j)) = cs'[j]?) ∧ (∃ x : OpRow, cs' = x.cells ∧ OpOk w x.o x.A x.n x.c) := fun i hi => by
   obtain ⟨cs', hc, ht'⟩ := hx i (by omega)
   rw [h3] at hc
   obtain ⟨q1, q2⟩ := qG hc
   refine ⟨cs', q1, fun j hj => ?_, aMb O ht' (hww (D i) (List.mem_map.2 ⟨i, List.mem_range.2 hi, rfl⟩))⟩
   rw [← q2 j hj, Addr.add_add]
  obtain ⟨ls, R, hQ⟩ := aHs (by omega) (by omega) hall
  obtain ⟨l, rfl, hl⟩ := aGx ls hQ
  exact ⟨l, R, hl⟩
end
end Go.Bil

namespace Go.Bil
open Go Go.RowKit
structure BytR (T : Nat) (rs : List Row) (bs : List (List Int)) : Prop where
 len : rs.length = bs.length
 row : ∀ (j : Nat) (r : Row) (b : List Int), rs[j]? = some r → bs[j]? = some b → aW T 1 r.A r.n r.c (b.map bI) r.e
theorem BytR.nil (T : Nat) : BytR T [] [] := ⟨rfl, by simp⟩
theorem BytR.add {T : Nat} {rs : List Row} {bs : List (List Int)} {r : Row} {b : List Int} (h : BytR T rs bs) (hr : aW T 1 r.A r.n r.c (b.map bI) r.e) : BytR T (rs ++ [r]) (bs ++ [b]) := by
 refine ⟨by simp [h.len], fun j q k hq hk => ?_⟩
 by_cases hj : j < rs.length
 ·rw [List.getElem?_append_left hj] at hq
  rw [List.getElem?_append_left (by rw [← h.len]; exact hj)] at hk
  exact h.row j q k hq hk
 ·have hj2 : j = rs.length := by
   have := (List.getElem?_eq_some_iff.1 hq).1
   simp at this
   omega
  rw [hj2, List.getElem?_append_right (Nat.le_refl _), Nat.sub_self] at hq
  rw [hj2, h.len, List.getElem?_append_right (Nat.le_refl _), Nat.sub_self] at hk
  simp only [List.getElem?_cons_zero, Option.some.injEq] at hq hk
  subst hq hk
  exact hr
theorem BytR.at {T : Nat} {rs : List Row} {bs : List (List Int)} (h : BytR T rs bs) {j : Nat} {b : List Int} (hb : bs[j]? = some b) : ∃ r, rs[j]? = some r ∧ aW T 1 r.A r.n r.c (b.map bI) r.e := by
 have hj : j < rs.length := by rw [h.len]; exact (List.getElem?_eq_some_iff.1 hb).1
 have hr := List.getElem?_eq_getElem hj
 exact ⟨_, hr, h.row j _ b hr hb⟩
structure BytRd (w : World) (A : Option Addr) (n : Nat) (rs : List Row) (bs : List (List Int)) : Prop where
 rd : Rd w 1 A n (rs.map hdr)
 len : rs.length = bs.length
 row : ∀ (j : Nat) (r : Row) (b : List Int), rs[j]? = some r → bs[j]? = some b → Rd w 1 r.A r.n (b.map bI) ∧ iR b ∧ r.n ≤ r.c
theorem BytRd.n_eq {w : World} {A : Option Addr} {n : Nat} {rs : List Row} {bs : List (List Int)} (h : BytRd w A n rs bs) : bs.length = n ∧ rs.length = n := by
 have := h.rd.len
 rw [List.length_map] at this
 exact ⟨by rw [← h.len]; exact this, this⟩
theorem BytRd.mem {w0 w : World} {S : List dN} {A : Option Addr} {n : Nat} {rs : List Row} {bs : List (List Int)} (h : BytRd w0 A n rs bs) (M : Mem w0 [] S w) : BytRd w A n rs bs :=
 ⟨h.rd.mem M, h.len, fun j r b hr hb => by obtain ⟨h1, h2, h3⟩ := h.row j r b hr hb; exact ⟨h1.mem M, h2, h3⟩⟩
def aUe (rs : List Row) (X : List Nat) : Prop := ∀ r ∈ rs, 0 < r.n → ∀ q off, r.A = some ⟨q, off, none⟩ → q ∉ X
theorem BytRd.memY {w0 w : World} {X : List Nat} {S : List dN} {A : Option Addr} {n : Nat} {rs : List Row} {bs : List (List Int)} (h : BytRd w0 A n rs bs) (M : Mem w0 X S w) (hA : 0 < n → ∀ q off, A = some ⟨q, off, none⟩ → q ∉ X) (hX : aUe rs X) : BytRd w A n rs bs :=
 ⟨h.rd.memY M hA, h.len, fun j r b hr hb => by obtain ⟨h1, h2, h3⟩ := h.row j r b hr hb; exact ⟨h1.memY M (hX r (List.mem_of_getElem? hr)), h2, h3⟩⟩
theorem BytRd.at {w : World} {A : Option Addr} {n : Nat} {rs : List Row} {bs : List (List Int)} (h : BytRd w A n rs bs) {j : Nat} (hj : j < n) : ∃ r b, rs[j]? = some r ∧ bs[j]? = some b ∧ (rs.map hdr)[j]? = some [.slice r.A r.n r.c] ∧ Rd w 1 r.A r.n (b.map bI) ∧ iR b ∧ r.n ≤ r.c := by
 obtain ⟨h1, h2⟩ := h.n_eq
 have hr := List.getElem?_eq_getElem (l := rs) (i := j) (by omega)
 have hb := List.getElem?_eq_getElem (l := bs) (i := j) (by omega)
 exact ⟨_, _, hr, hb, by rw [List.getElem?_map, hr]; rfl, h.row j _ _ hr hb⟩
theorem BytRd.none (w : World) : BytRd w none 0 [] [] := ⟨Rd.nil w 1 Option.none, rfl, by simp⟩
structure GoodO (o : OpI) : Prop where
 byt : iR o.bytes
 body : InB o.body
 p1 : -2147483648 ≤ o.push.1 ∧ o.push.1 ≤ 2147483647
 p2 : -2147483648 ≤ o.push.2 ∧ o.push.2 ≤ 2147483647
 len : o.bytes.length ≤ 1000000
theorem GoodO.ok {o : OpI} (h : GoodO o) : OkO o := ⟨h.body, h.byt, h.len⟩
end Go.Bil

namespace Go.Bil
def mG : Body := ⟨1, 65536, 0, 0, 0, 0, 100000, 0, 0, 0⟩
def wL : Body := ⟨2, 65536, 0, 0, 65536, 0, 0, 0, 0, 0⟩
def tB3 : Body := ⟨1, 65536, 0, 0, 0, 0, 0, 0, 0, 0⟩
def xL : Body := ⟨2, 65536, 0, 0, 65536, 0, -12019, -16, 0, -1024⟩
def opA (b : Body) : OpRow := ⟨⟨1, b, 0, (0, 0), []⟩, none, 0, 0⟩
def aBd : List OpRow := [opA wL, opA mG, opA tB3]
theorem aYl : ∀ x ∈ aBd, InB x.o.body := by
 intro x hx
 simp only [aBd, List.mem_cons, List.not_mem_nil, or_false] at hx
 rcases hx with rfl | rfl | rfl <;> exact ⟨by decide, by decide, by decide, by decide, by decide, by decide, by decide, by decide, by decide, by decide⟩
theorem bDe (w : World) (b : Body) (h : InB b) : OpOk w (opA b).o (opA b).A (opA b).n (opA b).c :=
 ⟨Rd.nil w 1 none, Nat.le_refl _, by simp [opA, iR], h, (by decide : (-2147483648 : Int) ≤ 0 ∧ (0 : Int) ≤ 2147483647), (by decide : (-2147483648 : Int) ≤ 0 ∧ (0 : Int) ≤ 2147483647)⟩
theorem aPs (w : World) : ∀ x ∈ aBd, OpOk w x.o x.A x.n x.c := by
 intro x hx
 have hi := aYl x hx
 simp only [aBd, List.mem_cons, List.not_mem_nil, or_false] at hx
 rcases hx with rfl | rfl | rfl <;> exact bDe w _ hi
theorem bDy : ∀ x ∈ aBd, x.n = 0 := by
 intro x hx
 simp only [aBd, List.mem_cons, List.not_mem_nil, or_false] at hx
 rcases hx with rfl | rfl | rfl <;> rfl
theorem bJu : jB [] (opA wL).o = ([wL], kM) := by rw [aQk rfl, show nR [] (opA wL).o.body = ([wL], 0) by decide]; rfl
theorem bHu : jB [wL] (opA mG).o = ([mG, wL], kM) := by rw [aQk rfl, show nR [wL] (opA mG).o.body = ([mG, wL], 0) by decide]; rfl
theorem bJk : jB [mG, wL] (opA tB3).o = ([mG, wL], { kM with err := 10 }) := by rw [aQk rfl, show nR [mG, wL] (opA tB3).o.body = ([mG, wL], 10) by decide]
theorem bId : rC [] (rE aBd) = [mG, wL] := by
 show (jB (jB (jB [] (opA wL).o).1 (opA mG).o).1 (opA tB3).o).1 = _
 rw [bJu, bHu, bJk]
theorem bIh : uV 10000000000 = 100000 := (aXd (by decide) (by decide)).symm
theorem bCx : len (-100000) 0 = 100000 := by
 unfold len
 rw [show lsq (-100000) 0 = 10000000000 by decide, bIh]
 rfl
theorem bIk : mS mG wL = some ⟨1, 2, -65536, 0, 31072⟩ := by
 have e : wC mG wL = ((100000, 0), (0, 0), 10000000000) := by decide
 have hu : lQ (-100000) 0 = (-65536, 0) := by unfold lQ; rw [bCx]; decide
 unfold mS
 rw [if_neg (by decide)]
 unfold mZ
 rw [e]
 show (if ((65536 : Int) + 65536).natAbs * ((65536 : Int) + 65536).natAbs ≤ lsq (-100000) 0 then none else some (⟨1, 2, (lQ (-100000) 0).1, (lQ (-100000) 0).2, IntKind.wrap .i32 (65536 + 65536 - len (-100000) 0)⟩ : Con)) = _
 rw [if_neg (by decide), hu, bCx]
 decide
theorem bIr : lA [mG, wL] = [(1, 2)] := by decide
theorem aEc : kX [mG, wL] = [⟨1, 2, -65536, 0, 31072⟩] := by
 have h : aEs (boM [mG, wL]) (1, 2) = some ⟨1, 2, -65536, 0, 31072⟩ := (rA (show boM [mG, wL] 1 = some mG from by decide) (show boM [mG, wL] 2 = some wL from by decide)).trans bIk
 unfold kX
 rw [bIr]
 simp only [List.filterMap_cons, List.filterMap_nil, h]
theorem bJn : nZ [mG, wL] = [mG, xL] := by
 unfold nZ mQ
 rw [aEc]
 decide +kernel
theorem bJa : rN [mG, wL] = false := by
 unfold rN mQ
 rw [aEc]
 decide +kernel
def aQb (l : List Body) (k : Nat) : List Body := l.drop k ++ l.take k
theorem aDb (l : List Body) (k : Nat) : (aQb l k).Perm l := by
 unfold aQb
 exact List.perm_append_comm.trans (by rw [List.take_append_drop])
theorem aOa {l : List Body} {k j : Nat} (hk : k < l.length) (hj : j < l.length) : (aQb l k)[j]? = l[(j + k) % l.length]? := by
 unfold aQb
 by_cases h : j + k < l.length
 ·rw [List.getElem?_append_left (by rw [List.length_drop]; omega), List.getElem?_drop, Nat.mod_eq_of_lt h, Nat.add_comm]
 ·rw [List.getElem?_append_right (by rw [List.length_drop]; omega), List.length_drop, List.getElem?_take_of_lt (by omega)]
  congr 1
  have e : (j + k) % l.length = j + k - l.length := by rw [Nat.mod_eq_sub_mod (by omega), Nat.mod_eq_of_lt (by omega)]
  omega
def tH (l : List Body) (k : Nat) (back : Bool) : List Body := aQb (if back then l.reverse else l) k
theorem rS (l : List Body) (k : Nat) (back : Bool) : (tH l k back).Perm l := by
 unfold tH
 cases back
 ·exact aDb l k
 ·exact (aDb l.reverse k).trans (List.reverse_perm l)
theorem aPw (l : List Body) (k : Nat) (back : Bool) : (tH l k back).length = l.length := (rS l k back).length_eq
theorem aTu {l : List Body} {k j : Nat} (hk : k < l.length) (hj : j < l.length) : (tH l k false)[j]? = l[(j + k) % l.length]? := aOa hk hj
theorem aPm {l : List Body} {k j : Nat} (hk : k < l.length) (hj : j < l.length) : (tH l k true)[j]? = l[l.length - 1 - (j + k) % l.length]? := by
 have h := aOa (l := l.reverse) (k := k) (j := j) (by rw [List.length_reverse]; exact hk) (by rw [List.length_reverse]; exact hj)
 show (aQb l.reverse k)[j]? = _
 rw [h, List.length_reverse, List.getElem?_reverse (Nat.mod_lt _ (by omega))]
theorem yO {l : List Body} (hk : fL l) (hl : l.length < 4096) {j : Nat} {x : Body} (hx : l[j]? = some x) : (nR (wY (l.take j)) x).2 = check x := by
 have R : Rel (nG (l.take j)) (wY (l.take j)) := uO _
 rw [(R.add x).2]
 exact aQn hk (by omega) hx
end Go.Bil
