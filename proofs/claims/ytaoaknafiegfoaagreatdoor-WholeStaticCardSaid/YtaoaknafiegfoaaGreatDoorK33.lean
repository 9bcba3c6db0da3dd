/- Part of the proof of the laws of this seat: Mf2, Mf3, Mf4, Mf5, Mf6, Mf7, Fx3, Fx5, Mf8, Mf9. No conditions. -/
import Derived.Test.YtaoaknafiegfoaaGreatDoorK6
import Derived.Test.YtaoaknafiegfoaaGreatDoorK18
import Derived.Test.YtaoaknafiegfoaaGreatDoorK32
set_option linter.unusedVariables false
set_option linter.unusedSimpArgs false
set_option linter.unnecessarySimpa false
namespace Go.Bil
def oB (b : Body) (j : Int × Int) : Body := { b with vx := iJ (b.vx + j.1 * b.mass / 65536) 16777216, vy := iJ (b.vy + j.2 * b.mass / 65536) 16777216 }
theorem bAg {b : Body} (h : Okb b) (j : Int × Int) : Okb (oB b j) := ⟨h.r, h.a, h.m, h.c, h.p, ⟨(eI _ (by decide)).1, (eI _ (by decide)).2, (eI _ (by decide)).1, (eI _ (by decide)).2⟩⟩
theorem aJh {b : Body} (h : Okb b) : check b = 0 := by
 have h1 := h.r
 have h2 := h.a
 have h3 := h.m
 have h4 := h.c
 have h5 := h.p
 have h6 := h.v
 unfold check rW
 rw [if_neg (by omega), if_neg (by omega), if_neg (by omega), if_neg (by omega), if_neg (by omega), if_neg (by omega)]
def sB (v : List Body) (k : Int) (j : Int × Int) : List Body × Int := if cI k v < 0 then (v, 11) else (uB v (oB (v.getD (cI k v).toNat default) j) false, 0)
structure OpI where
 kind : Int
 body : Body
 key : Int
 push : Int × Int
 bytes : List Int
structure ResI where
 err : Int
 body : Body
 bytes : List Int
 cont : Int
 cl : Bool
def kV : ResI := ⟨0, aXy, [], 0, false⟩
def sH (v : List Body) (k : Int) : ResI := if cI k v < 0 then { kV with err := 11 } else { kV with body := v.getD (cI k v).toNat default }
def zK (v : List Body) (l : List Int) : List Body := if (kS l).2 = 0 then (kS l).1 else v
def doR (v : List Body) (o : OpI) : List Body × ResI :=
 if o.kind = 0 then ((iX v o.body).1, { kV with err := (iX v o.body).2 })
 else if o.kind = 1 then ((iR v o.key).1, { kV with err := (iR v o.key).2 })
 else if o.kind = 2 then ((sB v o.key o.push).1, { kV with err := (sB v o.key o.push).2 })
 else if o.kind = 3 then (lM v, { kV with cont := ((kJ v).length : Int), cl := pG v })
 else if o.kind = 4 then (v, { kV with bytes := mS v })
 else if o.kind = 5 then (zK v o.bytes, { kV with err := (kS o.bytes).2 })
 else if o.kind = 6 then (v, sH v o.key)
 else (v, kV)
structure GoodV (v : List Body) : Prop where
 s : bV v
 len : v.length ≤ 4096
 ok : ∀ b ∈ v, check b = 0
 inb : ∀ b ∈ v, InB b
theorem GoodV.okb {v : List Body} (h : GoodV v) : ∀ b ∈ v, Okb b := fun b hb => aGf (h.ok b hb)
theorem GoodV.chk {v : List Body} (h : GoodV v) : gX v = 0 := aQd (aJc h.len h.ok) h.s
theorem GoodV.nil : GoodV [] := ⟨by simp [bV], by simp, by simp, by simp⟩
def cF (T : Nat) (r : StV) (v : List Body) : Prop := GoodV v ∧ ∃ m, StoreIs T r.A r.n r.c r.p r.er r.em m ∧ Rel m v
theorem xO {T : Nat} {r : StV} {m v : List Body} (h : StoreIs T r.A r.n r.c r.p r.er r.em m) (R : Rel m v) (hi : ∀ b ∈ m, InB b) : cF T r v :=
 ⟨⟨R.sorted, by rw [R.perm.length_eq]; exact h.cap, fun b hb => h.ok b (R.perm.mem_iff.1 hb), fun b hb => hi b (R.perm.mem_iff.1 hb)⟩, m, h, R⟩
theorem cF.new (T : Nat) (o o' : Obj) : cF T ⟨none, 0, 0, none, (none, o), (none, o')⟩ [] := xO (StoreIs.nil T o o') Rel.nil (by simp)
theorem bBw {m : List Body} {x : Body} (h : ∀ b ∈ m, InB b) (hx : InB x) : ∀ b ∈ (jL m x).1, InB b := by
 intro b hb
 unfold jL at hb
 split at hb
 ·exact h b hb
 ·split at hb
  ·exact h b hb
  ·split at hb
   ·exact h b hb
   ·rcases List.mem_append.1 hb with h1 | h1
    ·exact h b h1
    ·rw [List.mem_singleton] at h1; subst h1; exact hx
theorem aMb {m : List Body} (hk : fQ m) {k : Int} (h : ∀ b ∈ m, InB b) : ∀ b ∈ (jF m k).1, InB b := fun b hb => h b (zN.1 ((aHk hk k).mem_iff.1 hb)).1
theorem bAz {m : List Body} {x : Body} (h : ∀ b ∈ m, InB b) (hx : InB x) : ∀ b ∈ (sN m x).1, InB b := by
 intro b hb
 unfold sN at hb
 split at hb
 ·exact h b hb
 ·split at hb
  ·exact h b hb
  ·rcases List.mem_or_eq_of_mem_set hb with h1 | h1
   ·exact h b h1
   ·subst h1; exact hx
theorem GoodV.inm {v m : List Body} (h : GoodV v) (R : Rel m v) : ∀ b ∈ m, InB b := fun b hb => h.inb b (R.perm.mem_iff.2 hb)
theorem bBd {b : Body} (h : InB b) (j : Int × Int) : InB (oB b j) := by
 obtain ⟨h0, h1, h2, h3, h4, h5, h6, h7, h8, h9⟩ := h
 have a := eI (b.vx + j.1 * b.mass / 65536) (l := 16777216) (by decide)
 have c := eI (b.vy + j.2 * b.mass / 65536) (l := 16777216) (by decide)
 exact ⟨h0, h1, h2, h3, h4, h5, h6, h7, ⟨by show -2147483648 ≤ iJ _ _; omega, by show iJ _ _ ≤ 2147483647; omega⟩, ⟨by show -2147483648 ≤ iJ _ _; omega, by show iJ _ _ ≤ 2147483647; omega⟩⟩
theorem aZl {xs ys : List Body} (l : Like xs ys) (hx : ∀ b ∈ xs, InB b) (hy : ∀ b ∈ ys, Okb b) : ∀ b ∈ ys, InB b := by
 intro b hb
 obtain ⟨i, hi⟩ := List.getElem?_of_mem hb
 have hlt : i < xs.length := by rw [← l.len]; exact (List.getElem?_eq_some_iff.1 hi).1
 have hxi := List.getElem?_eq_getElem hlt
 have hs := l.at_ i _ b hxi hi
 obtain ⟨h0, _⟩ := hx _ (List.getElem_mem hlt)
 have o := hy b hb
 have o1 := o.r
 have o2 := o.a
 have o3 := o.m
 have o4 := o.c
 have o5 := o.p
 have o6 := o.v
 have := hs.key
 exact ⟨by omega, by omega, by omega, by omega, by omega, by omega, by omega, by omega, by omega, by omega⟩
theorem GoodV.step {v : List Body} (h : GoodV v) : GoodV (lM v) :=
 ⟨(qT v).sorted h.s, by rw [(qT v).len]; exact h.len, fun b hb => aJh (aGa h.okb b hb), aZl (qT v) h.inb (aGa h.okb)⟩
theorem GoodV.dec {l : List Int} (hl : iW l) (hn : l.length ≤ 1000000) (h : (kS l).2 = 0) : GoodV (kS l).1 := by
 have d := aZz hl h
 have hc := d.c
 have h1 : gU (kS l).1 = 0 := by
  unfold gX at hc
  split at hc
  ·rename_i hne; exact absurd hc hne
  ·rename_i hne; exact Decidable.not_not.1 hne
 obtain ⟨h2, h3⟩ := uA h1
 refine ⟨?_, h2, h3, d.inb⟩
 unfold gX at hc
 rw [if_neg (by omega)] at hc
 by_cases ha : aBy (kS l).1 = true
 ·exact qC ha
 ·rw [if_neg ha] at hc; omega
theorem aJe {v : List Body} (h : GoodV v) : ∀ k, k ≤ v.length → rN (v.take k) = v.take k := by
 intro k hk
 rw [sC h.s.keys h.len k hk]
 exact List.filter_eq_self.2 fun b hb => by simpa using h.ok b (List.mem_of_mem_take hb)
theorem aXv {v : List Body} (h : bV v) : Rel v v := ⟨List.Perm.refl _, h⟩
theorem yS {v : List Body} {k : Int} {i : Nat} {b : Body} (hf : cI k v = (i : Int)) (hb : v[i]? = some b) : v.getD (cI k v).toNat default = b := by
 rw [hf, Int.toNat_natCast, List.getD_eq_getElem?_getD, hb]
 rfl
theorem aOy {v : List Body} (h : GoodV v) : kS (mS v) = (v, 0) := aWi h.inb h.len h.chk
theorem bAm {m v : List Body} (R : Rel m v) (h : GoodV v) {k : Int} {i : Nat} {b : Body} (j : Int × Int) (hf : cI k v = (i : Int)) (hb : v[i]? = some b) : Rel (sN m (oB b j)).1 (sB v k j).1 ∧ (sN m (oB b j)).2 = 0 ∧ (sB v k j).2 = 0 ∧ (sB v k j).1 = uB v (oB b j) false := by
 have hbm : b ∈ v := List.mem_of_getElem? hb
 have hi : (sB v k j) = (uB v (oB b j) false, 0) := by unfold sB; rw [if_neg (by omega), yS hf hb]
 have hk : b.key = k := by
  rcases dM k v with ⟨h1, _⟩ | ⟨q, c, h1, h2, h3⟩
  ·omega
  ·have : q = i := by omega
   subst this
   rw [h1] at hb; injection hb with hb; rw [← hb]; exact h2
 have hp : check (oB b j) = 0 := aJh (bAg (h.okb b hbm) j)
 obtain ⟨h1, h2⟩ := R.set (oB b j)
 have hs : aUu v (oB b j) = (uB v (oB b j) false, 0) := by
  unfold aUu
  rw [if_neg (by omega), if_neg (by show ¬ cI b.key v < 0; rw [hk]; omega)]
 rw [hs] at h1 h2
 exact ⟨by rw [hi]; exact h1, h2.symm, by rw [hi], by rw [hi]⟩
theorem aGk {v : List Body} {k : Int} (j : Int × Int) (h : cI k v < 0) : sB v k j = (v, 11) := by unfold sB; rw [if_pos h]
end Go.Bil
namespace Go.Bil
theorem bIj {j m : Int} (hj : -2147483648 ≤ j ∧ j ≤ 2147483647) (hm : 0 ≤ m ∧ m ≤ 1048576) : -2251799813685248 ≤ j * m ∧ j * m ≤ 2251799813685248 := by
 have h1 : j * m ≤ 2147483647 * m := Int.mul_le_mul_of_nonneg_right hj.2 hm.1
 have h2 : -2147483648 * m ≤ j * m := Int.mul_le_mul_of_nonneg_right hj.1 hm.1
 omega
theorem aYs {m v : List Body} (R : Rel m v) (k : Int) : zD m k = ((sH v k).body, (sH v k).err) := by
 rcases R.get k with ⟨h1, h2⟩ | ⟨i, b, h1, h2, h3⟩
 ·rw [h2]; unfold sH; rw [if_pos h1]; rfl
 ·rw [h3]; unfold sH; rw [if_neg (by omega), yS h1 h2]; rfl
end Go.Bil
namespace Go.Bil
theorem bLg {v : List Body} {o : OpI} (h0 : o.kind = 0) : doR v o = ((iX v o.body).1, { kV with err := (iX v o.body).2 }) := by unfold doR; rw [if_pos h0]
theorem bLc {v : List Body} {o : OpI} (h : o.kind = 1) : doR v o = ((iR v o.key).1, { kV with err := (iR v o.key).2 }) := by unfold doR; rw [if_neg (by omega), if_pos h]
theorem bLd {v : List Body} {o : OpI} (h : o.kind = 2) : doR v o = ((sB v o.key o.push).1, { kV with err := (sB v o.key o.push).2 }) := by unfold doR; rw [if_neg (by omega), if_neg (by omega), if_pos h]
theorem bLe {v : List Body} {o : OpI} (h : o.kind = 3) : doR v o = (lM v, { kV with cont := ((kJ v).length : Int), cl := pG v }) := by unfold doR; rw [if_neg (by omega), if_neg (by omega), if_neg (by omega), if_pos h]
theorem bLf {v : List Body} {o : OpI} (h : o.kind = 4) : doR v o = (v, { kV with bytes := mS v }) := by unfold doR; rw [if_neg (by omega), if_neg (by omega), if_neg (by omega), if_neg (by omega), if_pos h]
theorem bKw {v : List Body} {o : OpI} (h : o.kind = 5) : doR v o = (zK v o.bytes, { kV with err := (kS o.bytes).2 }) := by unfold doR; rw [if_neg (by omega), if_neg (by omega), if_neg (by omega), if_neg (by omega), if_neg (by omega), if_pos h]
def fH (o : OpI) (A : Option Addr) (n c : Nat) : List Value := [.int .i64 o.kind] ++ aF o.body ++ [.int .u32 o.key, .int .i32 o.push.1, .int .i32 o.push.2, .slice A n c]
structure OpOk (w : World) (o : OpI) (A : Option Addr) (n c : Nat) : Prop where
 rd : Rd w 1 A n (o.bytes.map bX)
 cap : n ≤ c
 byt : iW o.bytes
 body : InB o.body
 p1 : -2147483648 ≤ o.push.1 ∧ o.push.1 ≤ 2147483647
 p2 : -2147483648 ≤ o.push.2 ∧ o.push.2 ≤ 2147483647
theorem OpOk.len {w : World} {o : OpI} {A : Option Addr} {n c : Nat} (h : OpOk w o A n c) : o.bytes.length = n := by simpa using h.rd.len
theorem OpOk.mem {w0 w : World} {S : List dK} {o : OpI} {A : Option Addr} {n c : Nat} (h : OpOk w0 o A n c) (M : Mem w0 [] S w) : OpOk w o A n c := ⟨h.rd.mem M, h.cap, h.byt, h.body, h.p1, h.p2⟩
theorem OpOk.memY {w0 w : World} {X : List Nat} {S : List dK} {o : OpI} {A : Option Addr} {n c : Nat} (h : OpOk w0 o A n c) (M : Mem w0 X S w) (hX : 0 < n → ∀ q off, A = Option.some ⟨q, off, none⟩ → q ∉ X) : OpOk w o A n c := ⟨h.rd.memY M hX, h.cap, h.byt, h.body, h.p1, h.p2⟩
structure OpRow where
 o : OpI
 A : Option Addr
 n : Nat
 c : Nat
def OpRow.cells (x : OpRow) : List Value := fH x.o x.A x.n x.c
structure OpsRd (w : World) (A : Option Addr) (n : Nat) (l : List OpRow) : Prop where
 rd : Rd w 15 A n (l.map OpRow.cells)
 each : ∀ x ∈ l, OpOk w x.o x.A x.n x.c
theorem OpsRd.mem {w0 w : World} {S : List dK} {A : Option Addr} {n : Nat} {l : List OpRow} (h : OpsRd w0 A n l) (M : Mem w0 [] S w) : OpsRd w A n l := ⟨h.rd.mem M, fun x hx => (h.each x hx).mem M⟩
end Go.Bil
namespace Go.Bil
end Go.Bil
namespace Go.Bil
end Go.Bil
namespace Go.Bil
end Go.Bil
namespace Go.Bil
end Go.Bil

namespace Go.Bil
def jG (v : List Body) (o : OpI) : List Body × ResI := if o.kind < 1 ∨ 6 < o.kind then (v, { kV with err := 1 }) else doR v { o with kind := o.kind - 1 }
def tW (v : List Body) : List OpI → List Body
 | [] => v
 | o :: l => tW (jG v o).1 l
def tZ (v : List Body) : List OpI → List ResI
 | [] => []
 | o :: l => (jG v o).2 :: tZ (jG v o).1 l
theorem wE (v : List Body) : ∀ (a b : List OpI), tW v (a ++ b) = tW (tW v a) b
 | [], b => rfl
 | o :: a, b => wE (jG v o).1 a b
theorem aHg (v : List Body) : ∀ (a b : List OpI), tZ v (a ++ b) = tZ v a ++ tZ (tW v a) b := by
 intro a
 induction a generalizing v with
 | nil => intro b; rfl
 | cons o a ih => intro b; show _ :: tZ (jG v o).1 (a ++ b) = _; rw [ih]; rfl
theorem aQo {v : List Body} {l : List OpI} {i : Nat} {o : OpI} (h : l[i]? = some o) : tW v (l.take (i + 1)) = (jG (tW v (l.take i)) o).1 := by rw [cV h, wE]; rfl
theorem aDe {v : List Body} {l : List OpI} {i : Nat} {o : OpI} (h : l[i]? = some o) : tZ v (l.take (i + 1)) = tZ v (l.take i) ++ [(jG (tW v (l.take i)) o).2] := by rw [cV h, aHg]; rfl
theorem aGl (v : List Body) : ∀ l : List OpI, (tZ v l).length = l.length
 | [] => rfl
 | o :: l => by show (tZ (jG v o).1 l).length + 1 = l.length + 1; rw [aGl (jG v o).1 l]
theorem sF {v : List Body} {o : OpI} (h : ¬ (1 ≤ o.kind ∧ o.kind ≤ 6)) : jG v o = (v, { kV with err := 1 }) := by unfold jG; rw [if_pos (by omega)]
theorem aVi (j n : Int) : oP j 0 n = 0 := by unfold oP; simp
theorem aXs (c : Con) (a b : Body) : oC c a b 0 = 0 := by unfold oC; simp
theorem vY {xs : List Body} {cs : List Con} {g : Con → Int} {b : Body} (h : b.mass = 0) : fU xs cs g b = 0 := by
 unfold fU
 have : ∀ c ∈ cs, ctr xs g c b = 0 := fun c _ => by unfold ctr; rw [h, aVi]; simp
 rw [List.map_congr_left this]
 induction cs with
 | nil => rfl
 | cons c cs ih => simpa using ih (fun c hc => this c (by simp [hc]))
theorem vU {xs : List Body} {cs : List Con} {g : Con → Int} {b : Body} (h : b.mass = 0) : rI xs cs g b = 0 := by
 unfold rI
 have : ∀ c ∈ cs, uV xs g c b = 0 := fun c _ => by unfold uV; rw [h, aXs]; simp
 rw [List.map_congr_left this]
 induction cs with
 | nil => rfl
 | cons c cs ih => simpa using ih (fun c hc => this c (by simp [hc]))
theorem aMy {xs : List Body} {cs : List Con} {b : Body} (hb : Okb b) (h : b.mass = 0) : aBe xs cs b = b := by
 have hv := hb.v
 unfold aBe
 rw [vY h, vY h, Int.add_zero, Int.add_zero, aNc ⟨hv.1, hv.2.1⟩, aNc ⟨hv.2.2.1, hv.2.2.2⟩]
theorem tG {cs : List Con} {b : Body} (hb : Okb b) (h : b.mass = 0) {xs : List Body} {i : Nat} (hx : xs[i]? = some b) : ∀ n, (gM xs cs n).1[i]? = some b
 | 0 => hx
 | n + 1 => by
  show (uQ (gM xs cs n).1 cs)[i]? = some b
  unfold uQ
  rw [List.getElem?_map, tG hb h hx n]
  exact congrArg some (aMy hb h)
theorem aJj {xs : List Body} {i : Nat} {b : Body} (hb : Okb b) (h : b.mass = 0) (hx : xs[i]? = some b) : (lM xs)[i]? = some (nA b) := by
 have hg : (pK xs)[i]? = some b := by
  unfold pK
  rw [List.getElem?_map, hx]
  show some (jC b) = some b
  unfold jC
  rw [if_pos h]
 have hs : (lO xs)[i]? = some b := tG hb h hg 4
 unfold lM aHc
 rw [List.getElem?_map, hs]
 show some (sO b _ _) = some (nA b)
 rw [vU h, vU h]
 unfold nA jC
 rw [if_pos h]
def pH (b : Body) : Nat → Body
 | 0 => b
 | k + 1 => nA (pH b k)
theorem aGt {b : Body} (h : b.mass = 0) : (nA b).mass = 0 ∧ (nA b).vx = b.vx ∧ (nA b).vy = b.vy := by
 have e : nA b = sO b 0 0 := by unfold nA jC; rw [if_pos h]
 rw [e]
 exact ⟨h, rfl, rfl⟩
theorem pC {b : Body} (hb : Okb b) (h : b.mass = 0) : ∀ k, (pH b k).mass = 0 ∧ (pH b k).vx = b.vx ∧ (pH b k).vy = b.vy ∧ Okb (pH b k)
 | 0 => ⟨h, rfl, rfl, hb⟩
 | k + 1 => by
  obtain ⟨h1, h2, h3, h4⟩ := pC hb h k
  obtain ⟨q1, q2, q3⟩ := aGt h1
  exact ⟨q1, q2.trans h2, q3.trans h3, aZd h4⟩
theorem sW {xs : List Body} {i : Nat} {b : Body} (hb : Okb b) (h : b.mass = 0) (hx : xs[i]? = some b) : ∀ k, (jM xs k)[i]? = some (pH b k)
 | 0 => hx
 | k + 1 => by
  obtain ⟨h1, _, _, h4⟩ := pC hb h k
  exact aJj h4 h1 (sW hb h hx k)
end Go.Bil

namespace Go.Bil
structure OkO (o : OpI) : Prop where
 body : InB o.body
 byt : iW o.bytes
 len : o.bytes.length ≤ 1000000
end Go.Bil

namespace Go.Bil
def fE (z : ResI) (r : Row) : List Value := [.int .i64 z.err, .slice r.A r.n r.c, .int .i64 z.cont, .bool z.cl]
structure OutR (T : Nat) (rs : List Row) (zs : List ResI) : Prop where
 len : rs.length = zs.length
 row : ∀ (j : Nat) (r : Row) (z : ResI), rs[j]? = some r → zs[j]? = some z → aU T 1 r.A r.n r.c (z.bytes.map bX) r.e
def wJ (zs : List ResI) (rs : List Row) : List (List Value) := List.zipWith fE zs rs
theorem OutR.nil (T : Nat) : OutR T [] [] := ⟨rfl, by simp⟩
theorem OutR.add {T : Nat} {rs : List Row} {zs : List ResI} {r : Row} {z : ResI} (h : OutR T rs zs) (hr : aU T 1 r.A r.n r.c (z.bytes.map bX) r.e) : OutR T (rs ++ [r]) (zs ++ [z]) := by
 refine ⟨by simp [h.len], fun j q k hq hk => ?_⟩
 by_cases hj : j < rs.length
 ·rw [List.getElem?_append_left hj] at hq
  rw [List.getElem?_append_left (by rw [← h.len]; exact hj)] at hk
  exact h.row j q k hq hk
 ·have hj2 : j = rs.length := by
   have := (List.getElem?_eq_some_iff.1 hq).1
   simp at this
   omega
  rw [hj2, List.getElem?_append_right (Nat.le_refl _), Nat.sub_self] at hq
  rw [hj2, h.len, List.getElem?_append_right (Nat.le_refl _), Nat.sub_self] at hk
  simp only [List.getElem?_cons_zero, Option.some.injEq] at hq hk
  subst hq hk
  exact hr
theorem aTx {zs : List ResI} {rs : List Row} (h : rs.length = zs.length) : (wJ zs rs).length = zs.length := by unfold wJ; rw [List.length_zipWith, h, Nat.min_self]
theorem aSr {zs : List ResI} {rs : List Row} (h : rs.length = zs.length) (z : ResI) (r : Row) : wJ (zs ++ [z]) (rs ++ [r]) = wJ zs rs ++ [fE z r] := by
 unfold wJ
 rw [List.zipWith_append h.symm]
 rfl
theorem OutR.rd {w0 w : World} {X : List Nat} {S : List dK} {T : Nat} {rs : List Row} {zs : List ResI} (h : OutR T rs zs) (M : Mem w0 X S w) (ht : ∀ r ∈ rs, r.e ∈ S) {j : Nat} {r : Row} {z : ResI} (hr : rs[j]? = some r) (hz : zs[j]? = some z) : Rd w 1 r.A r.n (z.bytes.map bX) :=
 (h.row j r z hr hz).rd M (ht r (List.mem_of_getElem? hr))
theorem bBk (l : List OpRow) : ∀ y ∈ l.map OpRow.cells, y.length = 15 := by
 intro y hy
 obtain ⟨x, _, rfl⟩ := List.mem_map.1 hy
 rfl
end Go.Bil

namespace Go.Bil
theorem aSl {v : List Body} {o : OpI} (h : o.kind = 1) : jG v o = ((iX v o.body).1, { kV with err := (iX v o.body).2 }) := by unfold jG; rw [if_neg (by omega)]; exact bLg (by simp; omega)
theorem bEb {v : List Body} {o : OpI} (h : o.kind = 2) : jG v o = ((iR v o.key).1, { kV with err := (iR v o.key).2 }) := by unfold jG; rw [if_neg (by omega)]; exact bLc (by simp; omega)
theorem bGp {v : List Body} {o : OpI} (h : o.kind = 3) : jG v o = ((sB v o.key o.push).1, { kV with err := (sB v o.key o.push).2 }) := by unfold jG; rw [if_neg (by omega)]; exact bLd (by simp; omega)
theorem bEg {v : List Body} {o : OpI} (h : o.kind = 4) : jG v o = (lM v, { kV with cont := ((kJ v).length : Int), cl := pG v }) := by unfold jG; rw [if_neg (by omega)]; exact bLe (by simp; omega)
theorem bEf {v : List Body} {o : OpI} (h : o.kind = 5) : jG v o = (v, { kV with bytes := mS v }) := by unfold jG; rw [if_neg (by omega)]; exact bLf (by simp; omega)
theorem bDv {v : List Body} {o : OpI} (h : o.kind = 6) : jG v o = (zK v o.bytes, { kV with err := (kS o.bytes).2 }) := by unfold jG; rw [if_neg (by omega)]; exact bKw (by simp; omega)
theorem lY {f : Int → Option Value} {k : Int} {v : Value} (h : f k = some v) : Value.tuple [((f k).getD .nilFunc), .bool (f k).isSome].toArray = Value.tuple [v, .bool true].toArray := by rw [h]; rfl
theorem aQb {f : Int → Option Value} {k : Int} (h : f k = none) : Value.tuple [((f k).getD .nilFunc), .bool (f k).isSome].toArray = Value.tuple [.nilFunc, .bool false].toArray := by rw [h]; rfl
def aNr (l : List OpRow) (X : List Nat) : Prop := ∀ x ∈ l, 0 < x.n → ∀ q off, x.A = some ⟨q, off, none⟩ → q ∉ X
def tP (l : List OpRow) : List OpI := l.map OpRow.o
theorem bBj {l : List OpRow} {i : Nat} {x : OpRow} (h : l[i]? = some x) : (tP l)[i]? = some x.o := by unfold tP; rw [List.getElem?_map, h]; rfl
theorem aGh (l : List OpRow) : (tP l).length = l.length := List.length_map ..
end Go.Bil

namespace Go.Bil
theorem OpsRd.none (w : World) : OpsRd w none 0 [] := ⟨Rd.nil w 15 Option.none, by simp⟩
theorem OpsRd.memY {w0 w : World} {X : List Nat} {S : List dK} {A : Option Addr} {n : Nat} {l : List OpRow} (h : OpsRd w0 A n l) (M : Mem w0 X S w) (hA : 0 < n → ∀ q off, A = some ⟨q, off, Option.none⟩ → q ∉ X) (hX : aNr l X) : OpsRd w A n l := ⟨h.rd.memY M hA, fun x hx => (h.each x hx).memY M (hX x hx)⟩
theorem OpsRd.sub {w : World} {A : Option Addr} {n c : Nat} {l : List OpRow} (h : OpsRd w A n l) (i j : Nat) (h1 : i ≤ j) (h2 : j ≤ n) (hc : n ≤ c) : OpsRd w (rL A c i 15) (j - i) ((l.drop i).take (j - i)) :=
 ⟨by rw [List.map_take, List.map_drop]; exact h.rd.sub i j h1 h2 hc, fun x hx => h.each x (List.mem_of_mem_drop (List.mem_of_mem_take hx))⟩
theorem Own.dummy (w : World) (o : Obj) : Own [(none, o)] w := ⟨by simp, by simp [bH]⟩
end Go.Bil

namespace Go.Bil
open Go Go.RowKit Go.Deep
section
variable {H : Type} {enc : TypeId × Value → H} {P : Program} {w : World} {base : Nat} {spare : Nat → Bool} {held : Bool}
end
end Go.Bil

namespace Go.Bil
open Go Go.RowKit
structure BytR (T : Nat) (rs : List Row) (bs : List (List Int)) : Prop where
 len : rs.length = bs.length
 row : ∀ (j : Nat) (r : Row) (b : List Int), rs[j]? = some r → bs[j]? = some b → aU T 1 r.A r.n r.c (b.map bX) r.e
theorem BytR.nil (T : Nat) : BytR T [] [] := ⟨rfl, by simp⟩
theorem BytR.add {T : Nat} {rs : List Row} {bs : List (List Int)} {r : Row} {b : List Int} (h : BytR T rs bs) (hr : aU T 1 r.A r.n r.c (b.map bX) r.e) : BytR T (rs ++ [r]) (bs ++ [b]) := by
 refine ⟨by simp [h.len], fun j q k hq hk => ?_⟩
 by_cases hj : j < rs.length
 ·rw [List.getElem?_append_left hj] at hq
  rw [List.getElem?_append_left (by rw [← h.len]; exact hj)] at hk
  exact h.row j q k hq hk
 ·have hj2 : j = rs.length := by
   have := (List.getElem?_eq_some_iff.1 hq).1
   simp at this
   omega
  rw [hj2, List.getElem?_append_right (Nat.le_refl _), Nat.sub_self] at hq
  rw [hj2, h.len, List.getElem?_append_right (Nat.le_refl _), Nat.sub_self] at hk
  simp only [List.getElem?_cons_zero, Option.some.injEq] at hq hk
  subst hq hk
  exact hr
theorem BytR.at {T : Nat} {rs : List Row} {bs : List (List Int)} (h : BytR T rs bs) {j : Nat} {b : List Int} (hb : bs[j]? = some b) : ∃ r, rs[j]? = some r ∧ aU T 1 r.A r.n r.c (b.map bX) r.e := by
 have hj : j < rs.length := by rw [h.len]; exact (List.getElem?_eq_some_iff.1 hb).1
 have hr := List.getElem?_eq_getElem hj
 exact ⟨_, hr, h.row j _ b hr hb⟩
structure BytRd (w : World) (A : Option Addr) (n : Nat) (rs : List Row) (bs : List (List Int)) : Prop where
 rd : Rd w 1 A n (rs.map hdr)
 len : rs.length = bs.length
 row : ∀ (j : Nat) (r : Row) (b : List Int), rs[j]? = some r → bs[j]? = some b → Rd w 1 r.A r.n (b.map bX) ∧ iW b ∧ r.n ≤ r.c
theorem BytRd.n_eq {w : World} {A : Option Addr} {n : Nat} {rs : List Row} {bs : List (List Int)} (h : BytRd w A n rs bs) : bs.length = n ∧ rs.length = n := by
 have := h.rd.len
 rw [List.length_map] at this
 exact ⟨by rw [← h.len]; exact this, this⟩
theorem BytRd.mem {w0 w : World} {S : List dK} {A : Option Addr} {n : Nat} {rs : List Row} {bs : List (List Int)} (h : BytRd w0 A n rs bs) (M : Mem w0 [] S w) : BytRd w A n rs bs :=
 ⟨h.rd.mem M, h.len, fun j r b hr hb => by obtain ⟨h1, h2, h3⟩ := h.row j r b hr hb; exact ⟨h1.mem M, h2, h3⟩⟩
def aUd (rs : List Row) (X : List Nat) : Prop := ∀ r ∈ rs, 0 < r.n → ∀ q off, r.A = some ⟨q, off, none⟩ → q ∉ X
theorem BytRd.memY {w0 w : World} {X : List Nat} {S : List dK} {A : Option Addr} {n : Nat} {rs : List Row} {bs : List (List Int)} (h : BytRd w0 A n rs bs) (M : Mem w0 X S w) (hA : 0 < n → ∀ q off, A = some ⟨q, off, none⟩ → q ∉ X) (hX : aUd rs X) : BytRd w A n rs bs :=
 ⟨h.rd.memY M hA, h.len, fun j r b hr hb => by obtain ⟨h1, h2, h3⟩ := h.row j r b hr hb; exact ⟨h1.memY M (hX r (List.mem_of_getElem? hr)), h2, h3⟩⟩
theorem BytRd.at {w : World} {A : Option Addr} {n : Nat} {rs : List Row} {bs : List (List Int)} (h : BytRd w A n rs bs) {j : Nat} (hj : j < n) : ∃ r b, rs[j]? = some r ∧ bs[j]? = some b ∧ (rs.map hdr)[j]? = some [.slice r.A r.n r.c] ∧ Rd w 1 r.A r.n (b.map bX) ∧ iW b ∧ r.n ≤ r.c := by
 obtain ⟨h1, h2⟩ := h.n_eq
 have hr := List.getElem?_eq_getElem (l := rs) (i := j) (by omega)
 have hb := List.getElem?_eq_getElem (l := bs) (i := j) (by omega)
 exact ⟨_, _, hr, hb, by rw [List.getElem?_map, hr]; rfl, h.row j _ _ hr hb⟩
theorem BytRd.none (w : World) : BytRd w none 0 [] [] := ⟨Rd.nil w 1 Option.none, rfl, by simp⟩
structure GoodO (o : OpI) : Prop where
 byt : iW o.bytes
 body : InB o.body
 p1 : -2147483648 ≤ o.push.1 ∧ o.push.1 ≤ 2147483647
 p2 : -2147483648 ≤ o.push.2 ∧ o.push.2 ≤ 2147483647
 len : o.bytes.length ≤ 1000000
theorem GoodO.ok {o : OpI} (h : GoodO o) : OkO o := ⟨h.body, h.byt, h.len⟩
end Go.Bil

namespace Go.Bil
def mT : Body := ⟨1, 65536, 0, 0, 0, 0, 100000, 0, 0, 0⟩
def vX : Body := ⟨2, 65536, 0, 0, 65536, 0, 0, 0, 0, 0⟩
def tB3 : Body := ⟨1, 65536, 0, 0, 0, 0, 0, 0, 0, 0⟩
def xQ : Body := ⟨2, 65536, 0, 0, 65536, 0, -12019, -16, 0, -1024⟩
def opA (b : Body) : OpRow := ⟨⟨1, b, 0, (0, 0), []⟩, none, 0, 0⟩
def aBi : List OpRow := [opA vX, opA mT, opA tB3]
theorem aZx : ∀ x ∈ aBi, InB x.o.body := by
 intro x hx
 simp only [aBi, List.mem_cons, List.not_mem_nil, or_false] at hx
 rcases hx with rfl | rfl | rfl <;> exact ⟨by decide, by decide, by decide, by decide, by decide, by decide, by decide, by decide, by decide, by decide⟩
theorem bHy (w : World) (b : Body) (h : InB b) : OpOk w (opA b).o (opA b).A (opA b).n (opA b).c :=
 ⟨Rd.nil w 1 none, Nat.le_refl _, by simp [opA, iW], h, (by decide : (-2147483648 : Int) ≤ 0 ∧ (0 : Int) ≤ 2147483647), (by decide : (-2147483648 : Int) ≤ 0 ∧ (0 : Int) ≤ 2147483647)⟩
theorem aSa (w : World) : ∀ x ∈ aBi, OpOk w x.o x.A x.n x.c := by
 intro x hx
 have hi := aZx x hx
 simp only [aBi, List.mem_cons, List.not_mem_nil, or_false] at hx
 rcases hx with rfl | rfl | rfl <;> exact bHy w _ hi
theorem bFt : ∀ x ∈ aBi, x.n = 0 := by
 intro x hx
 simp only [aBi, List.mem_cons, List.not_mem_nil, or_false] at hx
 rcases hx with rfl | rfl | rfl <;> rfl
theorem bIz : jG [] (opA vX).o = ([vX], kV) := by rw [aSl rfl, show iX [] (opA vX).o.body = ([vX], 0) by decide]; rfl
theorem bJk : jG [vX] (opA mT).o = ([mT, vX], kV) := by rw [aSl rfl, show iX [vX] (opA mT).o.body = ([mT, vX], 0) by decide]; rfl
theorem bJf : jG [mT, vX] (opA tB3).o = ([mT, vX], { kV with err := 10 }) := by rw [aSl rfl, show iX [mT, vX] (opA tB3).o.body = ([mT, vX], 10) by decide]
theorem bKf : tW [] (tP aBi) = [mT, vX] := by
 show (jG (jG (jG [] (opA vX).o).1 (opA mT).o).1 (opA tB3).o).1 = _
 rw [bIz, bJk, bJf]
theorem bJx : vD 10000000000 = 100000 := (aVh (by decide) (by decide)).symm
theorem bCg : len (-100000) 0 = 100000 := by
 unfold len
 rw [show lsq (-100000) 0 = 10000000000 by decide, bJx]
 rfl
theorem bKe : nI mT vX = some ⟨1, 2, -65536, 0, 31072⟩ := by
 have e : wF mT vX = ((100000, 0), (0, 0), 10000000000) := by decide
 have hu : mD (-100000) 0 = (-65536, 0) := by unfold mD; rw [bCg]; decide
 unfold nI
 rw [if_neg (by decide)]
 unfold nN
 rw [e]
 show (if ((65536 : Int) + 65536).natAbs * ((65536 : Int) + 65536).natAbs ≤ lsq (-100000) 0 then none else some (⟨1, 2, (mD (-100000) 0).1, (mD (-100000) 0).2, IntKind.wrap .i32 (65536 + 65536 - len (-100000) 0)⟩ : Con)) = _
 rw [if_neg (by decide), hu, bCg]
 decide
theorem bJy : lJ [mT, vX] = [(1, 2)] := by decide
theorem aDx : kJ [mT, vX] = [⟨1, 2, -65536, 0, 31072⟩] := by
 have h : aDy (boM [mT, vX]) (1, 2) = some ⟨1, 2, -65536, 0, 31072⟩ := (rE (show boM [mT, vX] 1 = some mT from by decide) (show boM [mT, vX] 2 = some vX from by decide)).trans bKe
 unfold kJ
 rw [bJy]
 simp only [List.filterMap_cons, List.filterMap_nil, h]
theorem bJp : lM [mT, vX] = [mT, xQ] := by
 unfold lM lO
 rw [aDx]
 decide +kernel
theorem bJn : pG [mT, vX] = false := by
 unfold pG lO
 rw [aDx]
 decide +kernel
end Go.Bil
