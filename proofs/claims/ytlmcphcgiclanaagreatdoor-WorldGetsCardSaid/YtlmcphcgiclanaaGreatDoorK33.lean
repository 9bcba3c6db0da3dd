/- Part of the proof of the laws of this seat: Mf2, Fx3. No conditions. -/
import Derived.Test.YtlmcphcgiclanaaGreatDoorK6
import Derived.Test.YtlmcphcgiclanaaGreatDoorK18
import Derived.Test.YtlmcphcgiclanaaGreatDoorK32
set_option linter.unusedVariables false
set_option linter.unusedSimpArgs false
set_option linter.unnecessarySimpa false
namespace Go.Bil
def mM (b : Body) (j : Int × Int) : Body := { b with vx := iC (b.vx + j.1 * b.mass / 65536) 16777216, vy := iC (b.vy + j.2 * b.mass / 65536) 16777216 }
theorem aUu {b : Body} (h : Okb b) (j : Int × Int) : Okb (mM b j) := ⟨h.r, h.a, h.m, h.c, h.p, ⟨(dX _ (by decide)).1, (dX _ (by decide)).2, (dX _ (by decide)).1, (dX _ (by decide)).2⟩⟩
theorem aGd {b : Body} (h : Okb b) : check b = 0 := by
 have h1 := h.r
 have h2 := h.a
 have h3 := h.m
 have h4 := h.c
 have h5 := h.p
 have h6 := h.v
 unfold check inR
 rw [if_neg (by omega), if_neg (by omega), if_neg (by omega), if_neg (by omega), if_neg (by omega), if_neg (by omega)]
def sJ (v : List Body) (k : Int) (j : Int × Int) : List Body × Int := if bZ k v < 0 then (v, 11) else (aDj v (mM (v.getD (bZ k v).toNat default) j) false, 0)
structure OpI where
 kind : Int
 body : Body
 key : Int
 push : Int × Int
 bytes : List Int
structure ResI where
 err : Int
 body : Body
 bytes : List Int
 cont : Int
 cl : Bool
def oD : ResI := ⟨0, aJg, [], 0, false⟩
def iO (v : List Body) (k : Int) : ResI := if bZ k v < 0 then { oD with err := 11 } else { oD with body := v.getD (bZ k v).toNat default }
def xJ (v : List Body) (l : List Int) : List Body := if (lI l).2 = 0 then (lI l).1 else v
def zF (v : List Body) (o : OpI) : List Body × ResI :=
 if o.kind = 0 then ((wH v o.body).1, { oD with err := (wH v o.body).2 })
 else if o.kind = 1 then ((jO v o.key).1, { oD with err := (jO v o.key).2 })
 else if o.kind = 2 then ((sJ v o.key o.push).1, { oD with err := (sJ v o.key o.push).2 })
 else if o.kind = 3 then (pU v, { oD with cont := ((lY v).length : Int), cl := tU v })
 else if o.kind = 4 then (v, { oD with bytes := aFo v })
 else if o.kind = 5 then (xJ v o.bytes, { oD with err := (lI o.bytes).2 })
 else if o.kind = 6 then (v, iO v o.key)
 else (v, oD)
structure GoodV (v : List Body) : Prop where
 s : bS v
 len : v.length ≤ 4096
 ok : ∀ b ∈ v, check b = 0
 inb : ∀ b ∈ v, InB b
theorem GoodV.okb {v : List Body} (h : GoodV v) : ∀ b ∈ v, Okb b := fun b hb => aEs (h.ok b hb)
theorem GoodV.chk {v : List Body} (h : GoodV v) : gR v = 0 := aMf (aRp h.len h.ok) h.s
theorem GoodV.nil : GoodV [] := ⟨by simp [bS], by simp, by simp, by simp⟩
def dU (T : Nat) (r : StV) (v : List Body) : Prop := GoodV v ∧ ∃ m, StoreIs T r.A r.n r.c r.p r.er r.em m ∧ Rel m v
theorem vO {T : Nat} {r : StV} {m v : List Body} (h : StoreIs T r.A r.n r.c r.p r.er r.em m) (R : Rel m v) (hi : ∀ b ∈ m, InB b) : dU T r v :=
 ⟨⟨R.sorted, by rw [R.perm.length_eq]; exact h.cap, fun b hb => h.ok b (R.perm.mem_iff.1 hb), fun b hb => hi b (R.perm.mem_iff.1 hb)⟩, m, h, R⟩
theorem dU.new (T : Nat) (o o' : Obj) : dU T ⟨none, 0, 0, none, (none, o), (none, o')⟩ [] := vO (StoreIs.nil T o o') Rel.nil (by simp)
theorem aWz {m : List Body} {x : Body} (h : ∀ b ∈ m, InB b) (hx : InB x) : ∀ b ∈ (kD m x).1, InB b := by
 intro b hb
 unfold kD at hb
 split at hb
 ·exact h b hb
 ·split at hb
  ·exact h b hb
  ·split at hb
   ·exact h b hb
   ·rcases List.mem_append.1 hb with h1 | h1
    ·exact h b h1
    ·rw [List.mem_singleton] at h1; subst h1; exact hx
theorem aHt {m : List Body} (hk : gG m) {k : Int} (h : ∀ b ∈ m, InB b) : ∀ b ∈ (iK m k).1, InB b := fun b hb => h b (xE.1 ((aDr hk k).mem_iff.1 hb)).1
theorem aUl {m : List Body} {x : Body} (h : ∀ b ∈ m, InB b) (hx : InB x) : ∀ b ∈ (qK m x).1, InB b := by
 intro b hb
 unfold qK at hb
 split at hb
 ·exact h b hb
 ·split at hb
  ·exact h b hb
  ·rcases List.mem_or_eq_of_mem_set hb with h1 | h1
   ·exact h b h1
   ·subst h1; exact hx
theorem GoodV.inm {v m : List Body} (h : GoodV v) (R : Rel m v) : ∀ b ∈ m, InB b := fun b hb => h.inb b (R.perm.mem_iff.2 hb)
theorem aWf {b : Body} (h : InB b) (j : Int × Int) : InB (mM b j) := by
 obtain ⟨h0, h1, h2, h3, h4, h5, h6, h7, h8, h9⟩ := h
 have a := dX (b.vx + j.1 * b.mass / 65536) (l := 16777216) (by decide)
 have c := dX (b.vy + j.2 * b.mass / 65536) (l := 16777216) (by decide)
 exact ⟨h0, h1, h2, h3, h4, h5, h6, h7, ⟨by show -2147483648 ≤ iC _ _; omega, by show iC _ _ ≤ 2147483647; omega⟩, ⟨by show -2147483648 ≤ iC _ _; omega, by show iC _ _ ≤ 2147483647; omega⟩⟩
theorem aUo {xs ys : List Body} (l : Like xs ys) (hx : ∀ b ∈ xs, InB b) (hy : ∀ b ∈ ys, Okb b) : ∀ b ∈ ys, InB b := by
 intro b hb
 obtain ⟨i, hi⟩ := List.getElem?_of_mem hb
 have hlt : i < xs.length := by rw [← l.len]; exact (List.getElem?_eq_some_iff.1 hi).1
 have hxi := List.getElem?_eq_getElem hlt
 have hs := l.at_ i _ b hxi hi
 obtain ⟨h0, _⟩ := hx _ (List.getElem_mem hlt)
 have o := hy b hb
 have o1 := o.r
 have o2 := o.a
 have o3 := o.m
 have o4 := o.c
 have o5 := o.p
 have o6 := o.v
 have := hs.key
 exact ⟨by omega, by omega, by omega, by omega, by omega, by omega, by omega, by omega, by omega, by omega⟩
theorem GoodV.step {v : List Body} (h : GoodV v) : GoodV (pU v) :=
 ⟨(tP v).sorted h.s, by rw [(tP v).len]; exact h.len, fun b hb => aGd (aKn h.okb b hb), aUo (tP v) h.inb (aKn h.okb)⟩
theorem GoodV.dec {l : List Int} (hl : kN l) (hn : l.length ≤ 1000000) (h : (lI l).2 = 0) : GoodV (lI l).1 := by
 have d := aWr hl h
 have hc := d.c
 have h1 : nQ (lI l).1 = 0 := by
  unfold gR at hc
  split at hc
  ·rename_i hne; exact absurd hc hne
  ·rename_i hne; exact Decidable.not_not.1 hne
 obtain ⟨h2, h3⟩ := aTx h1
 refine ⟨?_, h2, h3, d.inb⟩
 unfold gR at hc
 rw [if_neg (by omega)] at hc
 by_cases ha : zD (lI l).1 = true
 ·exact oH ha
 ·rw [if_neg ha] at hc; omega
theorem aFj {v : List Body} (h : GoodV v) : ∀ k, k ≤ v.length → zW (v.take k) = v.take k := by
 intro k hk
 rw [xL h.s.keys h.len k hk]
 exact List.filter_eq_self.2 fun b hb => by simpa using h.ok b (List.mem_of_mem_take hb)
theorem aSx {v : List Body} (h : bS v) : Rel v v := ⟨List.Perm.refl _, h⟩
theorem rB {v : List Body} {k : Int} {i : Nat} {b : Body} (hf : bZ k v = (i : Int)) (hb : v[i]? = some b) : v.getD (bZ k v).toNat default = b := by
 rw [hf, Int.toNat_natCast, List.getD_eq_getElem?_getD, hb]
 rfl
theorem aXn {m v : List Body} (R : Rel m v) (h : GoodV v) {k : Int} {i : Nat} {b : Body} (j : Int × Int) (hf : bZ k v = (i : Int)) (hb : v[i]? = some b) : Rel (qK m (mM b j)).1 (sJ v k j).1 ∧ (qK m (mM b j)).2 = 0 ∧ (sJ v k j).2 = 0 ∧ (sJ v k j).1 = aDj v (mM b j) false := by
 have hbm : b ∈ v := List.mem_of_getElem? hb
 have hi : (sJ v k j) = (aDj v (mM b j) false, 0) := by unfold sJ; rw [if_neg (by omega), rB hf hb]
 have hk : b.key = k := by
  rcases cW k v with ⟨h1, _⟩ | ⟨q, c, h1, h2, h3⟩
  ·omega
  ·have : q = i := by omega
   subst this
   rw [h1] at hb; injection hb with hb; rw [← hb]; exact h2
 have hp : check (mM b j) = 0 := aGd (aUu (h.okb b hbm) j)
 obtain ⟨h1, h2⟩ := R.set (mM b j)
 have hs : aTh v (mM b j) = (aDj v (mM b j) false, 0) := by
  unfold aTh
  rw [if_neg (by omega), if_neg (by show ¬ bZ b.key v < 0; rw [hk]; omega)]
 rw [hs] at h1 h2
 exact ⟨by rw [hi]; exact h1, h2.symm, by rw [hi], by rw [hi]⟩
theorem aGr {v : List Body} {k : Int} (j : Int × Int) (h : bZ k v < 0) : sJ v k j = (v, 11) := by unfold sJ; rw [if_pos h]
end Go.Bil
namespace Go.Bil
theorem bDs {j m : Int} (hj : -2147483648 ≤ j ∧ j ≤ 2147483647) (hm : 0 ≤ m ∧ m ≤ 1048576) : -2251799813685248 ≤ j * m ∧ j * m ≤ 2251799813685248 := by
 have h1 : j * m ≤ 2147483647 * m := Int.mul_le_mul_of_nonneg_right hj.2 hm.1
 have h2 : -2147483648 * m ≤ j * m := Int.mul_le_mul_of_nonneg_right hj.1 hm.1
 omega
theorem aWu {m v : List Body} (R : Rel m v) (k : Int) : wE m k = ((iO v k).body, (iO v k).err) := by
 rcases R.get k with ⟨h1, h2⟩ | ⟨i, b, h1, h2, h3⟩
 ·rw [h2]; unfold iO; rw [if_pos h1]; rfl
 ·rw [h3]; unfold iO; rw [if_neg (by omega), rB h1 h2]; rfl
end Go.Bil
namespace Go.Bil
theorem bBi {v : List Body} {o : OpI} (h0 : o.kind = 0) : zF v o = ((wH v o.body).1, { oD with err := (wH v o.body).2 }) := by unfold zF; rw [if_pos h0]
theorem bAc {v : List Body} {o : OpI} (h : o.kind = 1) : zF v o = ((jO v o.key).1, { oD with err := (jO v o.key).2 }) := by unfold zF; rw [if_neg (by omega), if_pos h]
theorem bCd {v : List Body} {o : OpI} (h : o.kind = 2) : zF v o = ((sJ v o.key o.push).1, { oD with err := (sJ v o.key o.push).2 }) := by unfold zF; rw [if_neg (by omega), if_neg (by omega), if_pos h]
theorem bBp {v : List Body} {o : OpI} (h : o.kind = 3) : zF v o = (pU v, { oD with cont := ((lY v).length : Int), cl := tU v }) := by unfold zF; rw [if_neg (by omega), if_neg (by omega), if_neg (by omega), if_pos h]
theorem bAt {v : List Body} {o : OpI} (h : o.kind = 4) : zF v o = (v, { oD with bytes := aFo v }) := by unfold zF; rw [if_neg (by omega), if_neg (by omega), if_neg (by omega), if_neg (by omega), if_pos h]
theorem bAo {v : List Body} {o : OpI} (h : o.kind = 5) : zF v o = (xJ v o.bytes, { oD with err := (lI o.bytes).2 }) := by unfold zF; rw [if_neg (by omega), if_neg (by omega), if_neg (by omega), if_neg (by omega), if_neg (by omega), if_pos h]
theorem bBf {v : List Body} {o : OpI} (h : o.kind = 6) : zF v o = (v, iO v o.key) := by unfold zF; rw [if_neg (by omega), if_neg (by omega), if_neg (by omega), if_neg (by omega), if_neg (by omega), if_neg (by omega), if_pos h]
theorem aZf {v : List Body} {o : OpI} (h0 : ¬ o.kind = 0) (h1 : ¬ o.kind = 1) (h2 : ¬ o.kind = 2) (h3 : ¬ o.kind = 3) (h4 : ¬ o.kind = 4) (h5 : ¬ o.kind = 5) (h6 : ¬ o.kind = 6) : zF v o = (v, oD) := by
 unfold zF; rw [if_neg h0, if_neg h1, if_neg h2, if_neg h3, if_neg h4, if_neg h5, if_neg h6]
theorem aLm {v : List Body} {k : Int} {i : Nat} {b : Body} (hf : bZ k v = (i : Int)) (hb : v[i]? = some b) : iO v k = { oD with body := b } := by unfold iO; rw [if_neg (by omega), rB hf hb]
def vP (o : OpI) (A : Option Addr) (n c : Nat) : List Value := [.int .i64 o.kind] ++ aF o.body ++ [.int .u32 o.key, .int .i32 o.push.1, .int .i32 o.push.2, .slice A n c]
def aRy (A : Option Addr) (n c : Nat) (B : Option Addr) (m d : Nat) (z : ResI) : List Value := [.slice A n c, .int .i64 z.err] ++ aF z.body ++ [.slice B m d, .int .i64 z.cont, .bool z.cl]
structure OpOk (w : World) (o : OpI) (A : Option Addr) (n c : Nat) : Prop where
 rd : Rd w 1 A n (o.bytes.map cK)
 cap : n ≤ c
 byt : kN o.bytes
 body : InB o.body
 p1 : -2147483648 ≤ o.push.1 ∧ o.push.1 ≤ 2147483647
 p2 : -2147483648 ≤ o.push.2 ∧ o.push.2 ≤ 2147483647
theorem OpOk.len {w : World} {o : OpI} {A : Option Addr} {n c : Nat} (h : OpOk w o A n c) : o.bytes.length = n := by simpa using h.rd.len
theorem OpOk.mem {w0 w : World} {S : List dL} {o : OpI} {A : Option Addr} {n c : Nat} (h : OpOk w0 o A n c) (M : Mem w0 [] S w) : OpOk w o A n c := ⟨h.rd.mem M, h.cap, h.byt, h.body, h.p1, h.p2⟩
theorem OpOk.memY {w0 w : World} {X : List Nat} {S : List dL} {o : OpI} {A : Option Addr} {n c : Nat} (h : OpOk w0 o A n c) (M : Mem w0 X S w) (hX : 0 < n → ∀ q off, A = Option.some ⟨q, off, none⟩ → q ∉ X) : OpOk w o A n c := ⟨h.rd.memY M hX, h.cap, h.byt, h.body, h.p1, h.p2⟩
structure OpRow where
 o : OpI
 A : Option Addr
 n : Nat
 c : Nat
def OpRow.cells (x : OpRow) : List Value := vP x.o x.A x.n x.c
structure OpsRd (w : World) (A : Option Addr) (n : Nat) (l : List OpRow) : Prop where
 rd : Rd w 15 A n (l.map OpRow.cells)
 each : ∀ x ∈ l, OpOk w x.o x.A x.n x.c
theorem OpsRd.mem {w0 w : World} {S : List dL} {A : Option Addr} {n : Nat} {l : List OpRow} (h : OpsRd w0 A n l) (M : Mem w0 [] S w) : OpsRd w A n l := ⟨h.rd.mem M, fun x hx => (h.each x hx).mem M⟩
end Go.Bil
namespace Go.Bil
theorem aEo (v : List Body) (k : Int) : iO v k = ⟨(iO v k).err, (iO v k).body, [], 0, false⟩ := by unfold iO; split <;> rfl
end Go.Bil
namespace Go.Bil
end Go.Bil
namespace Go.Bil
theorem aRr {v : List Body} (h : gG v) {i : Nat} {b : Body} (hb : v[i]? = some b) : bZ b.key v = (i : Int) := by
 rcases cW b.key v with ⟨_, h2⟩ | ⟨j, c, h1, h2, h3⟩
 ·exact absurd rfl (h2 b (List.mem_of_getElem? hb))
 ·have := h.inj h1 hb h2
  omega
theorem aQq (v : List Body) (k : Int) : ((iO v k).err = 0 ↔ 0 ≤ bZ k v) ∧ ((iO v k).err = 0 ∨ (iO v k).err = 11) ∧ ((iO v k).err ≠ 0 → (iO v k).body = aJg) := by
 unfold iO
 by_cases h : bZ k v < 0
 ·rw [if_pos h]
  exact ⟨⟨fun e => (by cases e), fun e => (by omega)⟩, .inr rfl, fun _ => rfl⟩
 ·rw [if_neg h]
  exact ⟨⟨fun _ => (by omega), fun _ => rfl⟩, .inl rfl, fun e => absurd rfl e⟩
end Go.Bil
namespace Go.Bil
end Go.Bil

namespace Go.Bil
open Go Go.RowKit Go.Deep
theorem aFt {α : Type} {f : α → List Value} {Q : α → Prop} : ∀ ls : List (List Value), (∀ y ∈ ls, ∃ x, y = f x ∧ Q x) → ∃ l : List α, ls = l.map f ∧ ∀ x ∈ l, Q x
 | [], _ => ⟨[], rfl, by simp⟩
 | y :: ls, h => by
  obtain ⟨x, rfl, hx⟩ := h y (by simp)
  obtain ⟨l, rfl, hl⟩ := aFt ls (fun z hz => h z (by simp [hz]))
  refine ⟨x :: l, rfl, fun z hz => ?_⟩
  rcases List.mem_cons.1 hz with rfl | hz
  ·exact hx
  ·exact hl z hz
theorem bAr (l : List Value) (h : jW [.u8] l) : ∃ x : Int, l = cK x ∧ (0 ≤ x ∧ x ≤ 255) := by
 obtain ⟨z, l', rfl, hz, hl'⟩ := eC h
 obtain rfl := oI hl'
 exact ⟨z, rfl, hz⟩
section
variable {H : Type} {enc : TypeId × Value → H} {P : Program} {w : World} {base : Nat} {spare : Nat → Bool} {held : Bool}
theorem aHv {t e fuel : Nat} {cs : List Value} {x : DataW H × List MemPlace} (hu : P.underlying t = some (.slice e)) (h : DataW.trod enc P w base spare held fuel t cs = some x) : ∃ (A : Option Addr) (n c : Nat), cs = [.slice A n c] ∧ n ≤ c := by
 rcases open_slice hu h with ⟨rfl, _⟩ | ⟨a, l, c, m', n, D, Pl, rfl, hb, hlc, _⟩
 ·exact ⟨none, 0, 0, rfl, Nat.le_refl _⟩
 ·exact ⟨_, _, _, rfl, hlc⟩
structure OpT (P : Program) (m T T0 T1 T2 T3 T4 e8 b8 : Nat) (fs : Array Field) : Prop where
 u : P.underlying T = some (.struct fs)
 f : fs.toList.map (fun f => (f.type, f.offset)) = [(T0, 0), (T1, 1), (T2, 11), (T3, 12), (T4, 14)]
 sz : P.cellsOf T = 15
 l0 : kA P m T0 = some [.i64]
 l1 : kA P m T1 = some [.u32, .i32, .i32, .i32, .i32, .i32, .i32, .i32, .i32, .i32]
 l2 : kA P m T2 = some [.u32]
 l3 : kA P m T3 = some [.i32, .i32]
 l8 : kA P m e8 = some [.u8]
 c0 : P.cellsOf T0 = 1
 c1 : P.cellsOf T1 = 10
 c2 : P.cellsOf T2 = 1
 c3 : P.cellsOf T3 = 2
 c4 : P.cellsOf T4 = 1
 s : eF P T4 e8 1 b8 = true
theorem aIy {α : Type} {l : List α} (h : l.length = 15) : l = l.take 1 ++ (((l.drop 1).take 10) ++ (((l.drop 11).take 1) ++ (((l.drop 12).take 2) ++ ((l.drop 14).take 1)))) := by
 have e4 : (l.drop 14).take 1 = l.drop 14 := List.take_of_length_le (by rw [List.length_drop]; omega)
 have e3 : (l.drop 12).take 2 ++ l.drop 14 = l.drop 12 := by have g := List.take_append_drop 2 (l.drop 12); rwa [List.drop_drop] at g
 have e2 : (l.drop 11).take 1 ++ l.drop 12 = l.drop 11 := by have g := List.take_append_drop 1 (l.drop 11); rwa [List.drop_drop] at g
 have e1 : (l.drop 1).take 10 ++ l.drop 11 = l.drop 1 := by have g := List.take_append_drop 10 (l.drop 1); rwa [List.drop_drop] at g
 rw [e4, e3, e2, e1, List.take_append_drop]
theorem aJp {m T T0 T1 T2 T3 T4 e8 b8 : Nat} {fs : Array Field} (O : OpT P m T T0 T1 T2 T3 T4 e8 b8 fs) {fuel : Nat} {cs : List Value} {d : DataW H} {pl : List MemPlace} (hx : DataW.trod enc P w base spare held fuel T cs = some (d, pl)) (hw : ∀ n ∈ d.weights P T, n ≤ reachBytes) :
  ∃ x : OpRow, cs = x.cells ∧ OpOk w x.o x.A x.n x.c := by
 obtain ⟨xs, k, _, hd, hl, hxl, hfs⟩ := DataW.trod_struct O.u hx
 rw [O.sz] at hl
 have hlen : fs.toList.length = 5 := by have := congrArg List.length O.f; simpa using this
 have hf : ∀ (i : Nat) (t o : Nat), [(T0, 0), (T1, 1), (T2, 11), (T3, 12), (T4, 14)][i]? = some (t, o) → ∃ f, fs[i]? = some f ∧ f.type = t ∧ f.offset = o := by
  intro i t o hi
  rw [← O.f, List.getElem?_map] at hi
  cases hq : fs.toList[i]? with
  | none => rw [hq] at hi; cases hi
  | some f =>
   rw [hq] at hi
   simp only [Option.map_some, Option.some.injEq, Prod.mk.injEq] at hi
   exact ⟨f, by simpa using hq, hi⟩
 have part : ∀ (i : Nat) (t o z : Nat), [(T0, 0), (T1, 1), (T2, 11), (T3, 12), (T4, 14)][i]? = some (t, o) → P.cellsOf t = z → ∃ y, xs[i]? = some y ∧ DataW.trod enc P w base spare held k t ((cs.drop o).take z) = some y := by
  intro i t o z hi hz
  obtain ⟨f, h1, rfl, rfl⟩ := hf i t o hi
  have h2 := hfs i f h1
  have hlt : i < xs.length := by rw [hxl]; exact (Array.getElem?_eq_some_iff.1 h1).1
  rw [List.getElem?_eq_getElem hlt, hz] at h2
  exact ⟨_, List.getElem?_eq_getElem hlt, h2⟩
 obtain ⟨y0, _, p0⟩ := part 0 T0 0 1 rfl O.c0
 obtain ⟨y1, _, p1⟩ := part 1 T1 1 10 rfl O.c1
 obtain ⟨y2, _, p2⟩ := part 2 T2 11 1 rfl O.c2
 obtain ⟨y3, _, p3⟩ := part 3 T3 12 2 rfl O.c3
 obtain ⟨y4, q4, p4⟩ := part 4 T4 14 1 rfl O.c4
 obtain ⟨h1, h2, h3, h4, h5, h6, zv, hzv, hzs⟩ := eN O.s
 obtain ⟨A, n, c, hsl, hnc⟩ := aHv h1 p4
 rw [hsl] at p4
 have hT : DataW.Trod enc P w base spare held T4 (.slice A n c) y4.1 y4.2 := ⟨k, p4⟩
 have hw4 : ∀ n ∈ y4.1.weights P T4, n ≤ reachBytes := fun n hn => by
  refine hw n ?_
  obtain rfl : d = .agg (xs.map (·.1)) := (Prod.mk.inj hd).1
  simp only [DataW.weights, O.u]
  obtain ⟨f, g1, rfl, _⟩ := hf 4 T4 14 rfl
  have g1' : fs.toList[4]? = some f := by simpa using g1
  exact DataW.weights_mem_each (j := 4) (by rw [List.getElem?_map, g1']; rfl) (by rw [List.getElem?_map, q4]; rfl) n hn
 have hs := tT hw4 O.s hT
 obtain ⟨ls, R, hI⟩ := aMd O.s O.l8 rfl hs hT
 obtain ⟨bs, rfl, hbs⟩ := aKb bAr ls hI
 have i0 := gT m T0 _ k _ _ O.l0 p0
 have i1 := gT m T1 _ k _ _ O.l1 p1
 have i2 := gT m T2 _ k _ _ O.l2 p2
 have i3 := gT m T3 _ k _ _ O.l3 p3
 obtain ⟨kind, l', e0, _, hl'⟩ := eC i0
 obtain rfl := oI hl'
 obtain ⟨body, e1, hbody⟩ := aZz _ i1
 obtain ⟨key, l', e2, hkey, hl'⟩ := eC i2
 obtain rfl := oI hl'
 obtain ⟨dx, l', e3, hdx, hl'⟩ := eC i3
 obtain ⟨dy, l'', rfl, hdy, hl''⟩ := eC hl'
 obtain rfl := oI hl''
 refine ⟨⟨⟨kind, body, key, (dx, dy), bs⟩, A, n, c⟩, ?_, R, hnc, hbs, hbody, hdx, hdy⟩
 have e := aIy hl
 rw [List.drop_zero] at e0
 rw [e0, e1, e2, e3, hsl] at e
 rw [e]
 rfl
theorem aRs {m t T T0 T1 T2 T3 T4 e8 b8 bytes : Nat} {A : Option Addr} {len cap : Nat} {d : DataW H} {ps : List MemPlace} (ht : eF P t T 15 bytes = true) (O : ∃ fs, OpT P m T T0 T1 T2 T3 T4 e8 b8 fs) (hw : ∀ n ∈ d.weights P t, n ≤ reachBytes)
  (h : DataW.Trod enc P w base spare held t (.slice A len cap) d ps) : ∃ l : List OpRow, OpsRd w A len l := by
 obtain ⟨fs, O⟩ := O
 have hbig := tT hw ht h
 obtain ⟨h1, h2, h3, h4, h5, h6, zv, hzv, hzs⟩ := eN ht
 obtain ⟨fuel, hf⟩ := h
 have hle : len ≤ 140737488351232 := Nat.le_trans (Nat.le_mul_of_pos_right _ (Nat.pos_of_ne_zero h6)) hbig
 rcases open_slice h1 hf with ⟨hcs, _⟩ | ⟨a, l, c, m', n, D, Pl, hcs, hb, hlc, _, hm, hx0, hx⟩
 ·simp only [Value.cells, List.cons.injEq, Value.slice.injEq, and_true] at hcs
  obtain ⟨rfl, rfl, rfl⟩ := hcs
  exact ⟨[], Rd.nil w 15 none, by simp⟩
 ·simp only [Value.cells, List.cons.injEq, Value.slice.injEq, and_true] at hcs
  obtain ⟨rfl, rfl, rfl⟩ := hcs
  obtain ⟨rfl, _⟩ := Prod.mk.inj hx0
  have hlm : len ≤ m' := by rw [hm]; split <;> omega
  have hww := (qF h1 hw).2
  have hall : ∀ i, i < len → ∃ cs' : List Value, cs'.length = 15 ∧ (∀ j, j < 15 → w.cell? (a.add (i * 15 + j)) = cs'[j]?) ∧ (∃ x : OpRow, cs' = x.cells ∧ OpOk w x.o x.A x.n x.c) := fun i hi => by
   obtain ⟨cs', hc, ht'⟩ := hx i (by omega)
   rw [h3] at hc
   obtain ⟨q1, q2⟩ := oQ hc
   refine ⟨cs', q1, fun j hj => ?_, aJp O ht' (hww (D i) (List.mem_map.2 ⟨i, List.mem_range.2 hi, rfl⟩))⟩
   rw [← q2 j hj, Addr.add_add]
  obtain ⟨ls, R, hQ⟩ := aGf (by omega) (by omega) hall
  obtain ⟨l, rfl, hl⟩ := aFt ls hQ
  exact ⟨l, R, hl⟩
end
end Go.Bil
