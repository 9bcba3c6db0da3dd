/- Part of the proof of the laws of this seat: Mf2, Mf3, Mf4, Mf5, Mf6, Mf7, Fx3, Fx5. No conditions. -/
import Derived.Test.YtaoaknafiegfoaaGreatDoorK6
import Derived.Test.YtaoaknafiegfoaaGreatDoorK18
import Derived.Test.YtaoaknafiegfoaaGreatDoorK32
set_option linter.unusedVariables false
set_option linter.unusedSimpArgs false
set_option linter.unnecessarySimpa false
namespace Go.Bil
def nG (b : Body) (j : Int × Int) : Body := { b with vx := iT (b.vx + j.1 * b.mass / 65536) 16777216, vy := iT (b.vy + j.2 * b.mass / 65536) 16777216 }
theorem aXe {b : Body} (h : Okb b) (j : Int × Int) : Okb (nG b j) := ⟨h.r, h.a, h.m, h.c, h.p, ⟨(eG _ (by decide)).1, (eG _ (by decide)).2, (eG _ (by decide)).1, (eG _ (by decide)).2⟩⟩
theorem aGc {b : Body} (h : Okb b) : check b = 0 := by
 have h1 := h.r
 have h2 := h.a
 have h3 := h.m
 have h4 := h.c
 have h5 := h.p
 have h6 := h.v
 unfold check inR
 rw [if_neg (by omega), if_neg (by omega), if_neg (by omega), if_neg (by omega), if_neg (by omega), if_neg (by omega)]
def rQ (v : List Body) (k : Int) (j : Int × Int) : List Body × Int := if cH k v < 0 then (v, 11) else (aDo v (nG (v.getD (cH k v).toNat default) j) false, 0)
structure OpI where
 kind : Int
 body : Body
 key : Int
 push : Int × Int
 bytes : List Int
structure ResI where
 err : Int
 body : Body
 bytes : List Int
 cont : Int
 cl : Bool
def gB : ResI := ⟨0, aJi, [], 0, false⟩
def rG (v : List Body) (k : Int) : ResI := if cH k v < 0 then { gB with err := 11 } else { gB with body := v.getD (cH k v).toNat default }
def xV (v : List Body) (l : List Int) : List Body := if (lE l).2 = 0 then (lE l).1 else v
def doR (v : List Body) (o : OpI) : List Body × ResI :=
 if o.kind = 0 then ((rY v o.body).1, { gB with err := (rY v o.body).2 })
 else if o.kind = 1 then ((gR v o.key).1, { gB with err := (gR v o.key).2 })
 else if o.kind = 2 then ((rQ v o.key o.push).1, { gB with err := (rQ v o.key o.push).2 })
 else if o.kind = 3 then (oZ v, { gB with cont := ((lV v).length : Int), cl := rZ v })
 else if o.kind = 4 then (v, { gB with bytes := vZ v })
 else if o.kind = 5 then (xV v o.bytes, { gB with err := (lE o.bytes).2 })
 else if o.kind = 6 then (v, rG v o.key)
 else (v, gB)
structure GoodV (v : List Body) : Prop where
 s : bU v
 len : v.length ≤ 4096
 ok : ∀ b ∈ v, check b = 0
 inb : ∀ b ∈ v, InB b
theorem GoodV.okb {v : List Body} (h : GoodV v) : ∀ b ∈ v, Okb b := fun b hb => aIb (h.ok b hb)
theorem GoodV.chk {v : List Body} (h : GoodV v) : gX v = 0 := aQj (aSe h.len h.ok) h.s
theorem GoodV.nil : GoodV [] := ⟨by simp [bU], by simp, by simp, by simp⟩
def cE (T : Nat) (r : StV) (v : List Body) : Prop := GoodV v ∧ ∃ m, StoreIs T r.A r.n r.c r.p r.er r.em m ∧ Rel m v
theorem wN {T : Nat} {r : StV} {m v : List Body} (h : StoreIs T r.A r.n r.c r.p r.er r.em m) (R : Rel m v) (hi : ∀ b ∈ m, InB b) : cE T r v :=
 ⟨⟨R.sorted, by rw [R.perm.length_eq]; exact h.cap, fun b hb => h.ok b (R.perm.mem_iff.1 hb), fun b hb => hi b (R.perm.mem_iff.1 hb)⟩, m, h, R⟩
theorem cE.new (T : Nat) (o o' : Obj) : cE T ⟨none, 0, 0, none, (none, o), (none, o')⟩ [] := wN (StoreIs.nil T o o') Rel.nil (by simp)
theorem aYn {m : List Body} {x : Body} (h : ∀ b ∈ m, InB b) (hx : InB x) : ∀ b ∈ (kN m x).1, InB b := by
 intro b hb
 unfold kN at hb
 split at hb
 ·exact h b hb
 ·split at hb
  ·exact h b hb
  ·split at hb
   ·exact h b hb
   ·rcases List.mem_append.1 hb with h1 | h1
    ·exact h b h1
    ·rw [List.mem_singleton] at h1; subst h1; exact hx
theorem aIo {m : List Body} (hk : gS m) {k : Int} (h : ∀ b ∈ m, InB b) : ∀ b ∈ (iZ m k).1, InB b := fun b hb => h b (zL.1 ((aHs hk k).mem_iff.1 hb)).1
theorem aZk {m : List Body} {x : Body} (h : ∀ b ∈ m, InB b) (hx : InB x) : ∀ b ∈ (rF m x).1, InB b := by
 intro b hb
 unfold rF at hb
 split at hb
 ·exact h b hb
 ·split at hb
  ·exact h b hb
  ·rcases List.mem_or_eq_of_mem_set hb with h1 | h1
   ·exact h b h1
   ·subst h1; exact hx
theorem GoodV.inm {v m : List Body} (h : GoodV v) (R : Rel m v) : ∀ b ∈ m, InB b := fun b hb => h.inb b (R.perm.mem_iff.2 hb)
theorem aWv {b : Body} (h : InB b) (j : Int × Int) : InB (nG b j) := by
 obtain ⟨h0, h1, h2, h3, h4, h5, h6, h7, h8, h9⟩ := h
 have a := eG (b.vx + j.1 * b.mass / 65536) (l := 16777216) (by decide)
 have c := eG (b.vy + j.2 * b.mass / 65536) (l := 16777216) (by decide)
 exact ⟨h0, h1, h2, h3, h4, h5, h6, h7, ⟨by show -2147483648 ≤ iT _ _; omega, by show iT _ _ ≤ 2147483647; omega⟩, ⟨by show -2147483648 ≤ iT _ _; omega, by show iT _ _ ≤ 2147483647; omega⟩⟩
theorem aWm {xs ys : List Body} (l : Like xs ys) (hx : ∀ b ∈ xs, InB b) (hy : ∀ b ∈ ys, Okb b) : ∀ b ∈ ys, InB b := by
 intro b hb
 obtain ⟨i, hi⟩ := List.getElem?_of_mem hb
 have hlt : i < xs.length := by rw [← l.len]; exact (List.getElem?_eq_some_iff.1 hi).1
 have hxi := List.getElem?_eq_getElem hlt
 have hs := l.at_ i _ b hxi hi
 obtain ⟨h0, _⟩ := hx _ (List.getElem_mem hlt)
 have o := hy b hb
 have o1 := o.r
 have o2 := o.a
 have o3 := o.m
 have o4 := o.c
 have o5 := o.p
 have o6 := o.v
 have := hs.key
 exact ⟨by omega, by omega, by omega, by omega, by omega, by omega, by omega, by omega, by omega, by omega⟩
theorem GoodV.step {v : List Body} (h : GoodV v) : GoodV (oZ v) :=
 ⟨(tO v).sorted h.s, by rw [(tO v).len]; exact h.len, fun b hb => aGc (aMo h.okb b hb), aWm (tO v) h.inb (aMo h.okb)⟩
theorem GoodV.dec {l : List Int} (hl : lP l) (hn : l.length ≤ 1000000) (h : (lE l).2 = 0) : GoodV (lE l).1 := by
 have d := bAb hl h
 have hc := d.c
 have h1 : oM (lE l).1 = 0 := by
  unfold gX at hc
  split at hc
  ·rename_i hne; exact absurd hc hne
  ·rename_i hne; exact Decidable.not_not.1 hne
 obtain ⟨h2, h3⟩ := aVh h1
 refine ⟨?_, h2, h3, d.inb⟩
 unfold gX at hc
 rw [if_neg (by omega)] at hc
 by_cases ha : aAi (lE l).1 = true
 ·exact pB ha
 ·rw [if_neg ha] at hc; omega
theorem aHt {v : List Body} (h : GoodV v) : ∀ k, k ≤ v.length → aCq (v.take k) = v.take k := by
 intro k hk
 rw [yX h.s.keys h.len k hk]
 exact List.filter_eq_self.2 fun b hb => by simpa using h.ok b (List.mem_of_mem_take hb)
theorem aVp {v : List Body} (h : bU v) : Rel v v := ⟨List.Perm.refl _, h⟩
theorem yE {v : List Body} {k : Int} {i : Nat} {b : Body} (hf : cH k v = (i : Int)) (hb : v[i]? = some b) : v.getD (cH k v).toNat default = b := by
 rw [hf, Int.toNat_natCast, List.getD_eq_getElem?_getD, hb]
 rfl
theorem aXc {m v : List Body} (R : Rel m v) (h : GoodV v) {k : Int} {i : Nat} {b : Body} (j : Int × Int) (hf : cH k v = (i : Int)) (hb : v[i]? = some b) : Rel (rF m (nG b j)).1 (rQ v k j).1 ∧ (rF m (nG b j)).2 = 0 ∧ (rQ v k j).2 = 0 ∧ (rQ v k j).1 = aDo v (nG b j) false := by
 have hbm : b ∈ v := List.mem_of_getElem? hb
 have hi : (rQ v k j) = (aDo v (nG b j) false, 0) := by unfold rQ; rw [if_neg (by omega), yE hf hb]
 have hk : b.key = k := by
  rcases dF k v with ⟨h1, _⟩ | ⟨q, c, h1, h2, h3⟩
  ·omega
  ·have : q = i := by omega
   subst this
   rw [h1] at hb; injection hb with hb; rw [← hb]; exact h2
 have hp : check (nG b j) = 0 := aGc (aXe (h.okb b hbm) j)
 obtain ⟨h1, h2⟩ := R.set (nG b j)
 have hs : aWf v (nG b j) = (aDo v (nG b j) false, 0) := by
  unfold aWf
  rw [if_neg (by omega), if_neg (by show ¬ cH b.key v < 0; rw [hk]; omega)]
 rw [hs] at h1 h2
 exact ⟨by rw [hi]; exact h1, h2.symm, by rw [hi], by rw [hi]⟩
theorem aFp {v : List Body} {k : Int} (j : Int × Int) (h : cH k v < 0) : rQ v k j = (v, 11) := by unfold rQ; rw [if_pos h]
end Go.Bil
namespace Go.Bil
theorem bGl {j m : Int} (hj : -2147483648 ≤ j ∧ j ≤ 2147483647) (hm : 0 ≤ m ∧ m ≤ 1048576) : -2251799813685248 ≤ j * m ∧ j * m ≤ 2251799813685248 := by
 have h1 : j * m ≤ 2147483647 * m := Int.mul_le_mul_of_nonneg_right hj.2 hm.1
 have h2 : -2147483648 * m ≤ j * m := Int.mul_le_mul_of_nonneg_right hj.1 hm.1
 omega
theorem aXj {m v : List Body} (R : Rel m v) (k : Int) : zO m k = ((rG v k).body, (rG v k).err) := by
 rcases R.get k with ⟨h1, h2⟩ | ⟨i, b, h1, h2, h3⟩
 ·rw [h2]; unfold rG; rw [if_pos h1]; rfl
 ·rw [h3]; unfold rG; rw [if_neg (by omega), yE h1 h2]; rfl
end Go.Bil
namespace Go.Bil
theorem bIu {v : List Body} {o : OpI} (h0 : o.kind = 0) : doR v o = ((rY v o.body).1, { gB with err := (rY v o.body).2 }) := by unfold doR; rw [if_pos h0]
theorem bJb {v : List Body} {o : OpI} (h : o.kind = 1) : doR v o = ((gR v o.key).1, { gB with err := (gR v o.key).2 }) := by unfold doR; rw [if_neg (by omega), if_pos h]
theorem bIz {v : List Body} {o : OpI} (h : o.kind = 2) : doR v o = ((rQ v o.key o.push).1, { gB with err := (rQ v o.key o.push).2 }) := by unfold doR; rw [if_neg (by omega), if_neg (by omega), if_pos h]
theorem bIq {v : List Body} {o : OpI} (h : o.kind = 3) : doR v o = (oZ v, { gB with cont := ((lV v).length : Int), cl := rZ v }) := by unfold doR; rw [if_neg (by omega), if_neg (by omega), if_neg (by omega), if_pos h]
theorem bIr {v : List Body} {o : OpI} (h : o.kind = 4) : doR v o = (v, { gB with bytes := vZ v }) := by unfold doR; rw [if_neg (by omega), if_neg (by omega), if_neg (by omega), if_neg (by omega), if_pos h]
theorem bIv {v : List Body} {o : OpI} (h : o.kind = 5) : doR v o = (xV v o.bytes, { gB with err := (lE o.bytes).2 }) := by unfold doR; rw [if_neg (by omega), if_neg (by omega), if_neg (by omega), if_neg (by omega), if_neg (by omega), if_pos h]
def dV (o : OpI) (A : Option Addr) (n c : Nat) : List Value := [.int .i64 o.kind] ++ aF o.body ++ [.int .u32 o.key, .int .i32 o.push.1, .int .i32 o.push.2, .slice A n c]
structure OpOk (w : World) (o : OpI) (A : Option Addr) (n c : Nat) : Prop where
 rd : Rd w 1 A n (o.bytes.map bK)
 cap : n ≤ c
 byt : lP o.bytes
 body : InB o.body
 p1 : -2147483648 ≤ o.push.1 ∧ o.push.1 ≤ 2147483647
 p2 : -2147483648 ≤ o.push.2 ∧ o.push.2 ≤ 2147483647
theorem OpOk.len {w : World} {o : OpI} {A : Option Addr} {n c : Nat} (h : OpOk w o A n c) : o.bytes.length = n := by simpa using h.rd.len
theorem OpOk.mem {w0 w : World} {S : List dG} {o : OpI} {A : Option Addr} {n c : Nat} (h : OpOk w0 o A n c) (M : Mem w0 [] S w) : OpOk w o A n c := ⟨h.rd.mem M, h.cap, h.byt, h.body, h.p1, h.p2⟩
theorem OpOk.memY {w0 w : World} {X : List Nat} {S : List dG} {o : OpI} {A : Option Addr} {n c : Nat} (h : OpOk w0 o A n c) (M : Mem w0 X S w) (hX : 0 < n → ∀ q off, A = Option.some ⟨q, off, none⟩ → q ∉ X) : OpOk w o A n c := ⟨h.rd.memY M hX, h.cap, h.byt, h.body, h.p1, h.p2⟩
structure OpRow where
 o : OpI
 A : Option Addr
 n : Nat
 c : Nat
def OpRow.cells (x : OpRow) : List Value := dV x.o x.A x.n x.c
structure OpsRd (w : World) (A : Option Addr) (n : Nat) (l : List OpRow) : Prop where
 rd : Rd w 15 A n (l.map OpRow.cells)
 each : ∀ x ∈ l, OpOk w x.o x.A x.n x.c
theorem OpsRd.mem {w0 w : World} {S : List dG} {A : Option Addr} {n : Nat} {l : List OpRow} (h : OpsRd w0 A n l) (M : Mem w0 [] S w) : OpsRd w A n l := ⟨h.rd.mem M, fun x hx => (h.each x hx).mem M⟩
end Go.Bil
namespace Go.Bil
end Go.Bil
namespace Go.Bil
end Go.Bil
namespace Go.Bil
end Go.Bil
namespace Go.Bil
end Go.Bil

namespace Go.Bil
def gI (v : List Body) (o : OpI) : List Body × ResI := if o.kind < 1 ∨ 6 < o.kind then (v, { gB with err := 1 }) else doR v { o with kind := o.kind - 1 }
def uE (v : List Body) : List OpI → List Body
 | [] => v
 | o :: l => uE (gI v o).1 l
def mL (v : List Body) : List OpI → List ResI
 | [] => []
 | o :: l => (gI v o).2 :: mL (gI v o).1 l
theorem vV (v : List Body) : ∀ (a b : List OpI), uE v (a ++ b) = uE (uE v a) b
 | [], b => rfl
 | o :: a, b => vV (gI v o).1 a b
theorem aGl (v : List Body) : ∀ (a b : List OpI), mL v (a ++ b) = mL v a ++ mL (uE v a) b := by
 intro a
 induction a generalizing v with
 | nil => intro b; rfl
 | cons o a ih => intro b; show _ :: mL (gI v o).1 (a ++ b) = _; rw [ih]; rfl
theorem aPl {v : List Body} {l : List OpI} {i : Nat} {o : OpI} (h : l[i]? = some o) : uE v (l.take (i + 1)) = (gI (uE v (l.take i)) o).1 := by rw [cP h, vV]; rfl
theorem aBr {v : List Body} {l : List OpI} {i : Nat} {o : OpI} (h : l[i]? = some o) : mL v (l.take (i + 1)) = mL v (l.take i) ++ [(gI (uE v (l.take i)) o).2] := by rw [cP h, aGl]; rfl
theorem aIa (v : List Body) : ∀ l : List OpI, (mL v l).length = l.length
 | [] => rfl
 | o :: l => by show (mL (gI v o).1 l).length + 1 = l.length + 1; rw [aIa (gI v o).1 l]
theorem gY {v : List Body} {o : OpI} (h : ¬ (1 ≤ o.kind ∧ o.kind ≤ 6)) : gI v o = (v, { gB with err := 1 }) := by unfold gI; rw [if_pos (by omega)]
end Go.Bil

namespace Go.Bil
end Go.Bil

namespace Go.Bil
def cX (z : ResI) (r : Row) : List Value := [.int .i64 z.err, .slice r.A r.n r.c, .int .i64 z.cont, .bool z.cl]
structure OutR (T : Nat) (rs : List Row) (zs : List ResI) : Prop where
 len : rs.length = zs.length
 row : ∀ (j : Nat) (r : Row) (z : ResI), rs[j]? = some r → zs[j]? = some z → aU T 1 r.A r.n r.c (z.bytes.map bK) r.e
def pJ (zs : List ResI) (rs : List Row) : List (List Value) := List.zipWith cX zs rs
theorem OutR.nil (T : Nat) : OutR T [] [] := ⟨rfl, by simp⟩
theorem OutR.add {T : Nat} {rs : List Row} {zs : List ResI} {r : Row} {z : ResI} (h : OutR T rs zs) (hr : aU T 1 r.A r.n r.c (z.bytes.map bK) r.e) : OutR T (rs ++ [r]) (zs ++ [z]) := by
 refine ⟨by simp [h.len], fun j q k hq hk => ?_⟩
 by_cases hj : j < rs.length
 ·rw [List.getElem?_append_left hj] at hq
  rw [List.getElem?_append_left (by rw [← h.len]; exact hj)] at hk
  exact h.row j q k hq hk
 ·have hj2 : j = rs.length := by
   have := (List.getElem?_eq_some_iff.1 hq).1
   simp at this
   omega
  rw [hj2, List.getElem?_append_right (Nat.le_refl _), Nat.sub_self] at hq
  rw [hj2, h.len, List.getElem?_append_right (Nat.le_refl _), Nat.sub_self] at hk
  simp only [List.getElem?_cons_zero, Option.some.injEq] at hq hk
  subst hq hk
  exact hr
theorem aHx {zs : List ResI} {rs : List Row} (h : rs.length = zs.length) : (pJ zs rs).length = zs.length := by unfold pJ; rw [List.length_zipWith, h, Nat.min_self]
theorem aOm {zs : List ResI} {rs : List Row} (h : rs.length = zs.length) (z : ResI) (r : Row) : pJ (zs ++ [z]) (rs ++ [r]) = pJ zs rs ++ [cX z r] := by
 unfold pJ
 rw [List.zipWith_append h.symm]
 rfl
theorem tK {zs : List ResI} {rs : List Row} (h : rs.length = zs.length) {j : Nat} {z : ResI} (hz : zs[j]? = some z) : ∃ r, rs[j]? = some r ∧ (pJ zs rs)[j]? = some (cX z r) := by
 have hj : j < rs.length := by rw [h]; exact (List.getElem?_eq_some_iff.1 hz).1
 have hr := List.getElem?_eq_getElem hj
 refine ⟨_, hr, ?_⟩
 unfold pJ
 rw [List.getElem?_zipWith, hz, hr]
theorem OutR.rd {w0 w : World} {X : List Nat} {S : List dG} {T : Nat} {rs : List Row} {zs : List ResI} (h : OutR T rs zs) (M : Mem w0 X S w) (ht : ∀ r ∈ rs, r.e ∈ S) {j : Nat} {r : Row} {z : ResI} (hr : rs[j]? = some r) (hz : zs[j]? = some z) : Rd w 1 r.A r.n (z.bytes.map bK) :=
 (h.row j r z hr hz).rd M (ht r (List.mem_of_getElem? hr))
theorem bAi (l : List OpRow) : ∀ y ∈ l.map OpRow.cells, y.length = 15 := by
 intro y hy
 obtain ⟨x, _, rfl⟩ := List.mem_map.1 hy
 rfl
end Go.Bil

namespace Go.Bil
theorem aWr {v : List Body} {o : OpI} (h : o.kind = 1) : gI v o = ((rY v o.body).1, { gB with err := (rY v o.body).2 }) := by unfold gI; rw [if_neg (by omega)]; exact bIu (by simp; omega)
theorem aYe {v : List Body} {o : OpI} (h : o.kind = 2) : gI v o = ((gR v o.key).1, { gB with err := (gR v o.key).2 }) := by unfold gI; rw [if_neg (by omega)]; exact bJb (by simp; omega)
theorem bFy {v : List Body} {o : OpI} (h : o.kind = 3) : gI v o = ((rQ v o.key o.push).1, { gB with err := (rQ v o.key o.push).2 }) := by unfold gI; rw [if_neg (by omega)]; exact bIz (by simp; omega)
theorem bAd {v : List Body} {o : OpI} (h : o.kind = 4) : gI v o = (oZ v, { gB with cont := ((lV v).length : Int), cl := rZ v }) := by unfold gI; rw [if_neg (by omega)]; exact bIq (by simp; omega)
theorem aZs {v : List Body} {o : OpI} (h : o.kind = 5) : gI v o = (v, { gB with bytes := vZ v }) := by unfold gI; rw [if_neg (by omega)]; exact bIr (by simp; omega)
theorem bCx {v : List Body} {o : OpI} (h : o.kind = 6) : gI v o = (xV v o.bytes, { gB with err := (lE o.bytes).2 }) := by unfold gI; rw [if_neg (by omega)]; exact bIv (by simp; omega)
theorem kZ {f : Int → Option Value} {k : Int} {v : Value} (h : f k = some v) : Value.tuple [((f k).getD .nilFunc), .bool (f k).isSome].toArray = Value.tuple [v, .bool true].toArray := by rw [h]; rfl
theorem aPr {f : Int → Option Value} {k : Int} (h : f k = none) : Value.tuple [((f k).getD .nilFunc), .bool (f k).isSome].toArray = Value.tuple [.nilFunc, .bool false].toArray := by rw [h]; rfl
def aDw (l : List OpRow) (X : List Nat) : Prop := ∀ x ∈ l, 0 < x.n → ∀ q off, x.A = some ⟨q, off, none⟩ → q ∉ X
def mU (l : List OpRow) : List OpI := l.map OpRow.o
theorem aZw {l : List OpRow} {i : Nat} {x : OpRow} (h : l[i]? = some x) : (mU l)[i]? = some x.o := by unfold mU; rw [List.getElem?_map, h]; rfl
theorem aFq (l : List OpRow) : (mU l).length = l.length := List.length_map ..
end Go.Bil

namespace Go.Bil
theorem bJa {rs : List Row} : ∀ r ∈ rs, r.e ∈ rs.map Row.e := fun r hr => List.mem_map.2 ⟨r, hr, rfl⟩
theorem bJc {rs : List Row} {L T : List dG} (h : ∀ r ∈ rs, r.e ∈ T) : ∀ r ∈ rs, r.e ∈ L ++ T := fun r hr => List.mem_append_right _ (h r hr)
theorem OpsRd.none (w : World) : OpsRd w none 0 [] := ⟨Rd.nil w 15 Option.none, by simp⟩
theorem OpsRd.memY {w0 w : World} {X : List Nat} {S : List dG} {A : Option Addr} {n : Nat} {l : List OpRow} (h : OpsRd w0 A n l) (M : Mem w0 X S w) (hA : 0 < n → ∀ q off, A = some ⟨q, off, Option.none⟩ → q ∉ X) (hX : aDw l X) : OpsRd w A n l := ⟨h.rd.memY M hA, fun x hx => (h.each x hx).memY M (hX x hx)⟩
theorem OpsRd.sub {w : World} {A : Option Addr} {n c : Nat} {l : List OpRow} (h : OpsRd w A n l) (i j : Nat) (h1 : i ≤ j) (h2 : j ≤ n) (hc : n ≤ c) : OpsRd w (qS A c i 15) (j - i) ((l.drop i).take (j - i)) :=
 ⟨by rw [List.map_take, List.map_drop]; exact h.rd.sub i j h1 h2 hc, fun x hx => h.each x (List.mem_of_mem_drop (List.mem_of_mem_take hx))⟩
theorem Own.dummy (w : World) (o : Obj) : Own [(none, o)] w := ⟨by simp, by simp [bH]⟩
def qV (k : Int) : OpRow := ⟨⟨k, aJi, 0, (0, 0), []⟩, none, 0, 0⟩
theorem bHp : InB aJi := ⟨by decide, by decide, by decide, by decide, by decide, by decide, by decide, by decide, by decide, by decide⟩
theorem bFo (w : World) (k : Int) : OpOk w (qV k).o (qV k).A (qV k).n (qV k).c :=
 ⟨Rd.nil w 1 none, Nat.le_refl _, by simp [qV, lP], bHp, (by decide : (-2147483648 : Int) ≤ 0 ∧ (0 : Int) ≤ 2147483647), (by decide : (-2147483648 : Int) ≤ 0 ∧ (0 : Int) ≤ 2147483647)⟩
def rX : List OpRow := [qV 1, qV 5, qV 7, qV 2, qV 4]
theorem aPt (w : World) : ∀ x ∈ rX, OpOk w x.o x.A x.n x.c := by
 intro x hx
 simp only [rX, List.mem_cons, List.not_mem_nil, or_false] at hx
 rcases hx with rfl | rfl | rfl | rfl | rfl <;> exact bFo w _
theorem aTb : ∀ x ∈ rX, x.n = 0 := by
 intro x hx
 simp only [rX, List.mem_cons, List.not_mem_nil, or_false] at hx
 rcases hx with rfl | rfl | rfl | rfl | rfl <;> rfl
theorem bGm {l : List OpRow} {X : List Nat} (h : ∀ x ∈ l, x.n = 0) : aDw l X := fun x hx hn => absurd hn (by rw [h x hx]; decide)
theorem aUa : lV [] = [] := by decide +kernel
theorem bGg : oZ [] = [] := by
 unfold oZ mC
 rw [aUa]
 decide +kernel
theorem bGj : rZ [] = false := by
 unfold rZ mC
 rw [aUa]
 decide +kernel
theorem bHt : gI [] (qV 1).o = ([], { gB with err := 4 }) := by rw [aWr rfl, show rY [] (qV 1).o.body = ([], 4) by decide]
theorem bId : gI [] (qV 5).o = ([], { gB with bytes := vZ [] }) := by rw [aZs rfl]
theorem bHd : gI [] (qV 7).o = ([], { gB with err := 1 }) := by rw [gY (by decide)]
theorem bGf : gI [] (qV 2).o = ([], { gB with err := 11 }) := by rw [aYe rfl, show gR [] (qV 2).o.key = ([], 11) by decide]
theorem bHu : gI [] (qV 4).o = ([], gB) := by rw [bAd rfl, bGg, bGj, aUa]; rfl
theorem vT : mL [] (mU rX) = [{ gB with err := 4 }, { gB with bytes := vZ [] }, { gB with err := 1 }, { gB with err := 11 }, gB] := by
 show [(gI [] (qV 1).o).2, (gI (gI [] (qV 1).o).1 (qV 5).o).2, (gI (gI (gI [] (qV 1).o).1 (qV 5).o).1 (qV 7).o).2, (gI (gI (gI (gI [] (qV 1).o).1 (qV 5).o).1 (qV 7).o).1 (qV 2).o).2, (gI (gI (gI (gI (gI [] (qV 1).o).1 (qV 5).o).1 (qV 7).o).1 (qV 2).o).1 (qV 4).o).2] = _
 rw [bHt, bId, bHd, bGf, bHu]
end Go.Bil

namespace Go.Bil
open Go Go.RowKit Go.Deep
theorem aHp {α : Type} {f : α → List Value} {Q : α → Prop} : ∀ ls : List (List Value), (∀ y ∈ ls, ∃ x, y = f x ∧ Q x) → ∃ l : List α, ls = l.map f ∧ ∀ x ∈ l, Q x
 | [], _ => ⟨[], rfl, by simp⟩
 | y :: ls, h => by
  obtain ⟨x, rfl, hx⟩ := h y (by simp)
  obtain ⟨l, rfl, hl⟩ := aHp ls (fun z hz => h z (by simp [hz]))
  refine ⟨x :: l, rfl, fun z hz => ?_⟩
  rcases List.mem_cons.1 hz with rfl | hz
  ·exact hx
  ·exact hl z hz
theorem bBs (l : List Value) (h : kH [.u8] l) : ∃ x : Int, l = bK x ∧ (0 ≤ x ∧ x ≤ 255) := by
 obtain ⟨z, l', rfl, hz, hl'⟩ := eJ h
 obtain rfl := pK hl'
 exact ⟨z, rfl, hz⟩
section
variable {H : Type} {enc : TypeId × Value → H} {P : Program} {w : World} {base : Nat} {spare : Nat → Bool} {held : Bool}
theorem aKp {t e fuel : Nat} {cs : List Value} {x : DataW H × List MemPlace} (hu : P.underlying t = some (.slice e)) (h : DataW.trod enc P w base spare held fuel t cs = some x) : ∃ (A : Option Addr) (n c : Nat), cs = [.slice A n c] ∧ n ≤ c := by
 rcases open_slice hu h with ⟨rfl, _⟩ | ⟨a, l, c, m', n, D, Pl, rfl, hb, hlc, _⟩
 ·exact ⟨none, 0, 0, rfl, Nat.le_refl _⟩
 ·exact ⟨_, _, _, rfl, hlc⟩
structure OpT (P : Program) (m T T0 T1 T2 T3 T4 e8 b8 : Nat) (fs : Array Field) : Prop where
 u : P.underlying T = some (.struct fs)
 f : fs.toList.map (fun f => (f.type, f.offset)) = [(T0, 0), (T1, 1), (T2, 11), (T3, 12), (T4, 14)]
 sz : P.cellsOf T = 15
 l0 : kP P m T0 = some [.i64]
 l1 : kP P m T1 = some [.u32, .i32, .i32, .i32, .i32, .i32, .i32, .i32, .i32, .i32]
 l2 : kP P m T2 = some [.u32]
 l3 : kP P m T3 = some [.i32, .i32]
 l8 : kP P m e8 = some [.u8]
 c0 : P.cellsOf T0 = 1
 c1 : P.cellsOf T1 = 10
 c2 : P.cellsOf T2 = 1
 c3 : P.cellsOf T3 = 2
 c4 : P.cellsOf T4 = 1
 s : eF P T4 e8 1 b8 = true
theorem aJv {α : Type} {l : List α} (h : l.length = 15) : l = l.take 1 ++ (((l.drop 1).take 10) ++ (((l.drop 11).take 1) ++ (((l.drop 12).take 2) ++ ((l.drop 14).take 1)))) := by
 have e4 : (l.drop 14).take 1 = l.drop 14 := List.take_of_length_le (by rw [List.length_drop]; omega)
 have e3 : (l.drop 12).take 2 ++ l.drop 14 = l.drop 12 := by have g := List.take_append_drop 2 (l.drop 12); rwa [List.drop_drop] at g
 have e2 : (l.drop 11).take 1 ++ l.drop 12 = l.drop 11 := by have g := List.take_append_drop 1 (l.drop 11); rwa [List.drop_drop] at g
 have e1 : (l.drop 1).take 10 ++ l.drop 11 = l.drop 1 := by have g := List.take_append_drop 10 (l.drop 1); rwa [List.drop_drop] at g
 rw [e4, e3, e2, e1, List.take_append_drop]
theorem xS {m T T0 T1 T2 T3 T4 e8 b8 : Nat} {fs : Array Field} (O : OpT P m T T0 T1 T2 T3 T4 e8 b8 fs) {fuel : Nat} {cs : List Value} {d : DataW H} {pl : List MemPlace} (hx : DataW.trod enc P w base spare held fuel T cs = some (d, pl)) (hw : ∀ n ∈ d.weights P T, n ≤ reachBytes) :
  ∃ x : OpRow, cs = x.cells ∧ OpOk w x.o x.A x.n x.c := by
 obtain ⟨xs, k, _, hd, hl, hxl, hfs⟩ := DataW.trod_struct O.u hx
 rw [O.sz] at hl
 have hlen : fs.toList.length = 5 := by have := congrArg List.length O.f; simpa using this
 have hf : ∀ (i : Nat) (t o : Nat), [(T0, 0), (T1, 1), (T2, 11), (T3, 12), (T4, 14)][i]? = some (t, o) → ∃ f, fs[i]? = some f ∧ f.type = t ∧ f.offset = o := by
  intro i t o hi
  rw [← O.f, List.getElem?_map] at hi
  cases hq : fs.toList[i]? with
  | none => rw [hq] at hi; cases hi
  | some f =>
   rw [hq] at hi
   simp only [Option.map_some, Option.some.injEq, Prod.mk.injEq] at hi
   exact ⟨f, by simpa using hq, hi⟩
 have part : ∀ (i : Nat) (t o z : Nat), [(T0, 0), (T1, 1), (T2, 11), (T3, 12), (T4, 14)][i]? = some (t, o) → P.cellsOf t = z → ∃ y, xs[i]? = some y ∧ DataW.trod enc P w base spare held k t ((cs.drop o).take z) = some y := by
  intro i t o z hi hz
  obtain ⟨f, h1, rfl, rfl⟩ := hf i t o hi
  have h2 := hfs i f h1
  have hlt : i < xs.length := by rw [hxl]; exact (Array.getElem?_eq_some_iff.1 h1).1
  rw [List.getElem?_eq_getElem hlt, hz] at h2
  exact ⟨_, List.getElem?_eq_getElem hlt, h2⟩
 obtain ⟨y0, _, p0⟩ := part 0 T0 0 1 rfl O.c0
 obtain ⟨y1, _, p1⟩ := part 1 T1 1 10 rfl O.c1
 obtain ⟨y2, _, p2⟩ := part 2 T2 11 1 rfl O.c2
 obtain ⟨y3, _, p3⟩ := part 3 T3 12 2 rfl O.c3
 obtain ⟨y4, q4, p4⟩ := part 4 T4 14 1 rfl O.c4
 obtain ⟨h1, h2, h3, h4, h5, h6, zv, hzv, hzs⟩ := eN O.s
 obtain ⟨A, n, c, hsl, hnc⟩ := aKp h1 p4
 rw [hsl] at p4
 have hT : DataW.Trod enc P w base spare held T4 (.slice A n c) y4.1 y4.2 := ⟨k, p4⟩
 have hw4 : ∀ n ∈ y4.1.weights P T4, n ≤ reachBytes := fun n hn => by
  refine hw n ?_
  obtain rfl : d = .agg (xs.map (·.1)) := (Prod.mk.inj hd).1
  simp only [DataW.weights, O.u]
  obtain ⟨f, g1, rfl, _⟩ := hf 4 T4 14 rfl
  have g1' : fs.toList[4]? = some f := by simpa using g1
  exact DataW.weights_mem_each (j := 4) (by rw [List.getElem?_map, g1']; rfl) (by rw [List.getElem?_map, q4]; rfl) n hn
 have hs := vQ hw4 O.s hT
 obtain ⟨ls, R, hI⟩ := aOj O.s O.l8 rfl hs hT
 obtain ⟨bs, rfl, hbs⟩ := aNa bBs ls hI
 have i0 := iO m T0 _ k _ _ O.l0 p0
 have i1 := iO m T1 _ k _ _ O.l1 p1
 have i2 := iO m T2 _ k _ _ O.l2 p2
 have i3 := iO m T3 _ k _ _ O.l3 p3
 obtain ⟨kind, l', e0, _, hl'⟩ := eJ i0
 obtain rfl := pK hl'
 obtain ⟨body, e1, hbody⟩ := bDv _ i1
 obtain ⟨key, l', e2, hkey, hl'⟩ := eJ i2
 obtain rfl := pK hl'
 obtain ⟨dx, l', e3, hdx, hl'⟩ := eJ i3
 obtain ⟨dy, l'', rfl, hdy, hl''⟩ := eJ hl'
 obtain rfl := pK hl''
 refine ⟨⟨⟨kind, body, key, (dx, dy), bs⟩, A, n, c⟩, ?_, R, hnc, hbs, hbody, hdx, hdy⟩
 have e := aJv hl
 rw [List.drop_zero] at e0
 rw [e0, e1, e2, e3, hsl] at e
 rw [e]
 rfl
theorem aWg {m t T T0 T1 T2 T3 T4 e8 b8 bytes : Nat} {A : Option Addr} {len cap : Nat} {d : DataW H} {ps : List MemPlace} (ht : eF P t T 15 bytes = true) (O : ∃ fs, OpT P m T T0 T1 T2 T3 T4 e8 b8 fs) (hw : ∀ n ∈ d.weights P t, n ≤ reachBytes)
  (h : DataW.Trod enc P w base spare held t (.slice A len cap) d ps) : ∃ l : List OpRow, OpsRd w A len l := by
 obtain ⟨fs, O⟩ := O
 have hbig := vQ hw ht h
 obtain ⟨h1, h2, h3, h4, h5, h6, zv, hzv, hzs⟩ := eN ht
 obtain ⟨fuel, hf⟩ := h
 have hle : len ≤ 140737488351232 := Nat.le_trans (Nat.le_mul_of_pos_right _ (Nat.pos_of_ne_zero h6)) hbig
 rcases open_slice h1 hf with ⟨hcs, _⟩ | ⟨a, l, c, m', n, D, Pl, hcs, hb, hlc, _, hm, hx0, hx⟩
 ·simp only [Value.cells, List.cons.injEq, Value.slice.injEq, and_true] at hcs
  obtain ⟨rfl, rfl, rfl⟩ := hcs
  exact ⟨[], Rd.nil w 15 none, by simp⟩
 ·simp only [Value.cells, List.cons.injEq, Value.slice.injEq, and_true] at hcs
  obtain ⟨rfl, rfl, rfl⟩ := hcs
  obtain ⟨rfl, _⟩ := Prod.mk.inj hx0
  have hlm : len ≤ m' := by rw [hm]; split <;> omega
  have hww := (qU h1 hw).2
  have hall : ∀ i, i < len → ∃ cs' : List Value, cs'.length = 15 ∧ (∀ j, j < 15 → w.cell? (a.add (i * 15 + j)) = cs'[j]?) ∧ (∃ x : OpRow, cs' = x.cells ∧ OpOk w x.o x.A x.n x.c) := fun i hi => by
   obtain ⟨cs', hc, ht'⟩ := hx i (by omega)
   rw [h3] at hc
   obtain ⟨q1, q2⟩ := pU hc
   refine ⟨cs', q1, fun j hj => ?_, xS O ht' (hww (D i) (List.mem_map.2 ⟨i, List.mem_range.2 hi, rfl⟩))⟩
   rw [← q2 j hj, Addr.add_add]
  obtain ⟨ls, R, hQ⟩ := aHu (by omega) (by omega) hall
  obtain ⟨l, rfl, hl⟩ := aHp ls hQ
  exact ⟨l, R, hl⟩
end
theorem aXs {H : Type} {enc : TypeId × Value → H} {P : Program} {w : World} {base : Nat} {spare : Nat → Bool} {held : Bool} {m T T0 T1 T2 T3 T4 e8 b8 : Nat} {v : Value} {d : DataW H} {ps : List MemPlace} (O : ∃ fs, OpT P m T T0 T1 T2 T3 T4 e8 b8 fs) (hw : ∀ n ∈ d.weights P T, n ≤ reachBytes)
  (h : DataW.Trod enc P w base spare held T v d ps) : ∃ x : OpRow, v = .agg x.cells.toArray ∧ OpOk w x.o x.A x.n x.c := by
 obtain ⟨fs, O⟩ := O
 obtain ⟨fuel, hf⟩ := h
 obtain ⟨x, hx, hok⟩ := xS O hf hw
 refine ⟨x, ?_, hok⟩
 have hl : x.cells.length = 15 := rfl
 cases v with
 | agg cs =>
  simp only [Value.cells] at hx
  rw [← hx]
 | _ =>
  exfalso
  have := congrArg List.length hx
  rw [hl] at this
  simp [Value.cells] at this
end Go.Bil
