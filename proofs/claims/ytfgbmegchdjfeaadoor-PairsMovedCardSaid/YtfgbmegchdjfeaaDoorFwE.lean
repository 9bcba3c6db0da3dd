/- Slices: reading them, owning them, append; literals of structs and slices. -/
import Derived.Test.YtfgbmegchdjfeaaDoorFwD
set_option linter.unusedVariables false
set_option linter.unusedSimpArgs false
namespace Go.Bil
open Go.RowKit (Below)

/-- Slice type t has elements of type e, of sz cells and `bytes` bytes. -/
def sliceB (P : Program) (t e sz bytes : Nat) : Bool :=
  match P.underlying t with
  | some (.slice e') => e' == e && (P.info? e).isSome && P.cellsOf e == sz && P.bytesOf e == bytes && sz != 0 && bytes != 0 && (match zeroV P e with | some v => v.cells.size == sz | none => false)
  | _ => false
theorem sliceB_spec {P : Program} {t e sz bytes : Nat} (h : sliceB P t e sz bytes = true) :
    P.underlying t = some (.slice e) ∧ (P.info? e).isSome = true ∧ P.cellsOf e = sz ∧ P.bytesOf e = bytes ∧ sz ≠ 0 ∧ bytes ≠ 0 ∧ ∃ v, zeroV P e = some v ∧ v.cells.size = sz := by
  unfold sliceB at h
  cases hu : P.underlying t with
  | none => simp [hu] at h
  | some d =>
    cases d <;> simp [hu] at h
    obtain ⟨⟨⟨⟨⟨⟨rfl, h2⟩, h3⟩, h4⟩, h5⟩, h6⟩, h7⟩ := h
    refine ⟨rfl, h2, h3, h4, h5, h6, ?_⟩
    split at h7
    · rename_i v hv; exact ⟨v, hv, by simpa using h7⟩
    · cases h7

/-- A slice that reads as ls, sz cells an element. -/
structure Rd (w : World) (sz : Nat) (A : Option Addr) (n : Nat) (ls : List (List Value)) : Prop where
  len : ls.length = n
  each : ∀ l ∈ ls, l.length = sz
  bound : n ≤ 281474976710656
  at_ : 0 < n → ∃ b off, A = some ⟨b, off, none⟩ ∧ b < w.heap.size ∧ ∀ (i : Nat) l, ls[i]? = some l → Cells w b (off + i * sz) l
theorem Rd.nil (w : World) (sz : Nat) (A : Option Addr) : Rd w sz A 0 [] := ⟨rfl, by simp, by omega, by omega⟩
theorem Rd.keep {w w' : World} {sz n : Nat} {A : Option Addr} {ls : List (List Value)} (h : Rd w sz A n ls) (hs : w.heap.size ≤ w'.heap.size) (hb : ∀ b off, A = some ⟨b, off, none⟩ → b < w.heap.size → w'.heap[b]? = w.heap[b]?) : Rd w' sz A n ls := by
  refine ⟨h.len, h.each, h.bound, fun hn => ?_⟩
  obtain ⟨b, off, hA, hlt, hc⟩ := h.at_ hn
  refine ⟨b, off, hA, Nat.lt_of_lt_of_le hlt hs, fun i l hl j v hj => ?_⟩
  rw [← hc i l hl j v hj]
  simp [World.cell?, hb b off hA hlt]
theorem Rd.mem {w0 w : World} {S : List Ent} {sz n : Nat} {A : Option Addr} {ls : List (List Value)} (h : Rd w0 sz A n ls) (M : Mem w0 [] S w) : Rd w sz A n ls :=
  h.keep M.size fun b off _ hlt => M.old b hlt (by simp)
theorem Rd.memX {w0 w : World} {X : List Nat} {S : List Ent} {sz n : Nat} {A : Option Addr} {ls : List (List Value)} (h : Rd w0 sz A n ls) (M : Mem w0 X S w) (hX : ∀ b off, A = some ⟨b, off, none⟩ → b ∉ X) : Rd w sz A n ls :=
  h.keep M.size fun b off hA hlt => M.old b hlt (hX b off hA)
theorem Rd.below {w w' : World} {sz n : Nat} {A : Option Addr} {ls : List (List Value)} (h : Rd w sz A n ls) (hb : Below w.heap.size w w') : Rd w' sz A n ls :=
  h.keep hb.size fun b off _ hlt => hb.block b hlt
/-- A part of it. -/
theorem Rd.part {w : World} {sz n b off : Nat} {ls : List (List Value)} (h : Rd w sz (some ⟨b, off, none⟩) n ls) (i k : Nat) (hik : i + k ≤ n) : Rd w sz (some ⟨b, off + i * sz, none⟩) k ((ls.drop i).take k) := by
  refine ⟨by simp [h.len]; omega, fun l hl => h.each l (List.mem_of_mem_drop (List.mem_of_mem_take hl)), by have := h.bound; omega, fun hk => ?_⟩
  obtain ⟨b', off', hA, hlt, hc⟩ := h.at_ (by omega)
  injection hA with hA
  injection hA with h1 h2
  subst h1 h2
  refine ⟨b, off + i * sz, rfl, hlt, fun j l hl => ?_⟩
  simp only [List.getElem?_take, List.getElem?_drop] at hl
  split at hl
  · have := hc (i + j) l hl
    rwa [Nat.add_mul, ← Nat.add_assoc] at this
  · cases hl

section
variable {P : Program} {n : Nat} {Q : Exit → Rho → World → Prop} {ρ : Rho} {w : World} {l0 rest : List Oper}
variable {d : Nat} {ty : TypeId} {pos : String} {af : Array Edge} {gd : Option (Nat × Bool)}
variable {w0 : World} {X : List Nat} {S : List Ent}

/-- &x[i] of a slice that can be read. -/
theorem wl_idx {t e sz bytes : Nat} {x y : Operand} {A : Option Addr} {m c : Nat} {k : IntKind} {i : Int} {ls : List (List Value)} (l : List Value) (ht : sliceB P t e sz bytes = true) (R : Rd w sz A m ls) (hg : gok l0 ρ gd = true) (hd : Nat.blt d n = true)
    (hx : ev ρ x = .slice A m c) (hy : ev ρ y = .int k i) (h0 : 0 ≤ i) (hl : ls[i.toNat]? = some l)
    (h : ∀ b off, A = some ⟨b, off, none⟩ → Cells w b (off + i.toNat * sz) l → wl P n l0 rest Q (upd ρ d (.pointer (some ⟨b, off + i.toNat * sz, none⟩))) w) : wl P n l0 (⟨some d, .indexAddr t x y, ty, pos, af, gd⟩ :: rest) Q ρ w := by
  obtain ⟨h1, h2, h3, h4, h5, h6, zv, hzv, hzs⟩ := sliceB_spec ht
  have hi : i.toNat < m := by rw [← R.len]; exact (List.getElem?_eq_some_iff.1 hl).1
  obtain ⟨b, off, rfl, hlt, hc⟩ := R.at_ (by omega)
  refine wl_val hg hd ?_ (h b off rfl (hc _ l hl))
  have : 0 ≤ i ∧ i < (m : Int) := ⟨h0, by omega⟩
  simp [execOp, hx, hy, Instr.indexAt, asIntOf, run_underlying' h1, this, run_sizeOf' h2, h3, add_none]
/-- The same of a slice that is owned: the address alone. -/
theorem r_idxO {t e sz bytes : Nat} {x y : Operand} {b off m c : Nat} {k : IntKind} {i : Int} (ht : sliceB P t e sz bytes = true) 
    (hx : ev ρ x = .slice (some ⟨b, off, none⟩) m c) (hy : ev ρ y = .int k i) (h0 : 0 ≤ i) (hi : i < m) : Ans P ρ w (.indexAddr t x y) (.pointer (some ⟨b, off + i.toNat * sz, none⟩)) := by
  intro dst ty pos af gd
  obtain ⟨h1, h2, h3, h4, h5, h6, zv, hzv, hzs⟩ := sliceB_spec ht
  have : 0 ≤ i ∧ i < (m : Int) := ⟨h0, hi⟩
  simp [execOp, hx, hy, Instr.indexAt, asIntOf, run_underlying' h1, this, run_sizeOf' h2, h3, add_none]
/-- One cell of what has been pointed at. -/
theorem r_ldC {T : TypeId} {x : Operand} {b off k : Nat} {l : List Value} (v : Value) (hT : oneB P T = true) (C : Cells w b off l) (hx : ev ρ x = .pointer (some ⟨b, off + k, none⟩)) (hv : nth l k = some v) : Ans P ρ w (.load T x) v := r_load1 v hT  hx (C k v (by rw [← nth_eq]; exact hv))
/-- The element itself, of one cell. -/
theorem r_ldC0 {T : TypeId} {x : Operand} {b off : Nat} (v : Value) (hT : oneB P T = true) (C : Cells w b off [v]) (hx : ev ρ x = .pointer (some ⟨b, off, none⟩)) : Ans P ρ w (.load T x) v := r_load1 v hT  hx (C 0 v (by simp))

/-! ### Owned slices that may grow -/
/-- The slice A, n, c with elements ls lies in entry e: nil, or at the head of a block of its own. -/
def RowIs (T sz : Nat) (A : Option Addr) (n c : Nat) (ls : List (List Value)) (e : Ent) : Prop :=
  ls.length = n ∧ (∀ l ∈ ls, l.length = sz) ∧ n ≤ 281474976710656 ∧
    ((A = none ∧ n = 0 ∧ c = 0 ∧ e.1 = none) ∨ ∃ b L, A = some ⟨b, 0, none⟩ ∧ e = (some b, bc L T) ∧ n ≤ c ∧ L.length = c * sz ∧ L.take (n * sz) = ls.flatten)
theorem RowIs.nil (T sz : Nat) (o : Obj) : RowIs T sz none 0 0 [] (none, o) := ⟨rfl, by simp, by omega, .inl ⟨rfl, rfl, rfl, rfl⟩⟩
theorem flat_at : ∀ (ls : List (List Value)) (sz : Nat), (∀ l ∈ ls, l.length = sz) → ∀ (i : Nat) l, ls[i]? = some l → (ls.flatten.drop (i * sz)).take sz = l
  | [], _, _, i, l, h => by simp at h
  | x :: ls, sz, he, 0, l, h => by
    simp only [List.getElem?_cons_zero, Option.some.injEq] at h
    subst h
    have := he x (by simp)
    simp [this]
  | x :: ls, sz, he, i + 1, l, h => by
    simp only [List.getElem?_cons_succ] at h
    have hx := he x (by simp)
    have ih := flat_at ls sz (fun l hl => he l (by simp [hl])) i l h
    simp only [List.flatten_cons]
    rw [show (i + 1) * sz = x.length + i * sz by rw [hx, Nat.add_mul, Nat.one_mul, Nat.add_comm], ← List.drop_drop, List.drop_left]
    exact ih
theorem flat_len : ∀ (ls : List (List Value)) (sz : Nat), (∀ l ∈ ls, l.length = sz) → ls.flatten.length = ls.length * sz
  | [], _, _ => by simp
  | x :: ls, sz, he => by
    simp only [List.flatten_cons, List.length_append, List.length_cons, he x (by simp), flat_len ls sz (fun l hl => he l (by simp [hl])), Nat.add_mul, Nat.one_mul]
    omega
theorem RowIs.rd {T sz : Nat} {A : Option Addr} {m c : Nat} {ls : List (List Value)} {e : Ent} (h : RowIs T sz A m c ls e) (M : Mem w0 X S w) (he : e ∈ S) : Rd w sz A m ls := by
  obtain ⟨h1, h2, h3, h4⟩ := h
  refine ⟨h1, h2, h3, fun hm => ?_⟩
  rcases h4 with ⟨_, h5, _⟩ | ⟨b, L, rfl, rfl, hn, hL, ht⟩
  · omega
  · have hh := (M.own b _ he).1
    refine ⟨b, 0, rfl, M.lt he, fun i l hl => ?_⟩
    rw [Nat.zero_add]
    have hlen := h2 l (List.mem_of_getElem? hl)
    have hi : i < m := by rw [← h1]; exact (List.getElem?_eq_some_iff.1 hl).1
    refine Cells.of_heap (l := L) (T := T) (fr := (0, 0)) hh ?_
    rw [hlen]
    have e1 := flat_at ls sz h2 i l hl
    rw [← ht] at e1
    rw [← e1, List.drop_take, List.take_take]
    congr 1
    have : i * sz + sz ≤ m * sz := by
      have := Nat.mul_le_mul_right sz (show i + 1 ≤ m by omega)
      rwa [Nat.add_mul, Nat.one_mul] at this
    omega

theorem RowIs.slice {T sz : Nat} {A : Option Addr} {m c : Nat} {ls : List (List Value)} {e : Ent} (h : RowIs T sz A m c ls e) : m ≤ c := by
  rcases h.2.2.2 with ⟨_, h1, h2, _⟩ | ⟨_, _, _, _, h1, _⟩ <;> omega

/-! ### append -/
theorem Mem.replace {i : Nat} {e' : Ent} (M : Mem w0 X (S ++ [e']) w) (hi : i < S.length) : Mem w0 X (S.set i e') w := by
  have h1 : (S.set i e').Perm (e' :: S.eraseIdx i) := by
    rw [List.set_eq_take_append_cons_drop, if_pos hi, List.eraseIdx_eq_take_drop_succ]
    exact List.perm_middle
  have h2 : (S ++ [e']).Perm (e' :: S) := List.perm_append_singleton e' S
  exact ((M.perm h2).sub ((List.eraseIdx_sublist S i).cons_cons e')).perm h1.symm

theorem run_firstCells {sz m b off : Nat} {c : Nat} {l : List Value} (hl : l.length = m * sz) (C : Cells w b off l) : (Builtin.firstCells sz m (.slice (some ⟨b, off, none⟩) m c)).run P w = .ok l.toArray w := by
  simp only [Builtin.firstCells]
  rw [← hl]
  exact run_loadCells_list w _ l (fun j v hj => by rw [add_none]; exact C j v hj)

theorem run_append {t e sz bytes i : Nat} {A : Option Addr} {m c : Nat} {ls ys : List (List Value)} {en : Ent} {b2 off2 k c2 : Nat}
    (ht : sliceB P t e sz bytes = true) (hR : RowIs e sz A m c ls en) (M : Mem w0 X S w) (hi : S[i]? = some en)
    (hk : ys.length = k) (hys : ∀ y ∈ ys, y.length = sz ∧ ∀ u ∈ y, one u = true) (C : Cells w b2 off2 ys.flatten) (hb : (m + k) * bytes ≤ 140737488355328) (ty' : TypeId) :
    ∃ A' c' en' w', (Builtin.append_ #[t, t] ty' #[.slice A m c, .slice (some ⟨b2, off2, none⟩) k c2]).run P w = .ok (.slice A' (m + k) c') w' ∧ Mem w0 X (S.set i en') w' ∧ RowIs e sz A' (m + k) c' (ls ++ ys) en' := by
  obtain ⟨h1, h2, h3, h4, h5, h6, zv, hzv, hzs⟩ := sliceB_spec ht
  obtain ⟨r1, r2, r3, r4⟩ := hR
  have hflat : ys.flatten.length = k * sz := by rw [flat_len ys sz (fun y hy => (hys y hy).1), hk]
  have hx := run_firstCells (P := P) (c := c2) hflat C
  have hmb : m + k ≤ 140737488355328 := Nat.le_trans (Nat.le_mul_of_pos_right _ (Nat.pos_of_ne_zero h6)) hb
  have hsl : i < S.length := (List.getElem?_eq_some_iff.1 hi).1
  have hlsys : (ls ++ ys).length = m + k := by simp [r1, hk]
  have hall : ∀ l ∈ ls ++ ys, l.length = sz := fun l hl => by
    rcases List.mem_append.1 hl with h | h
    · exact r2 l h
    · exact (hys l h).1
  have e0 : (#[t, t] : Array TypeId)[0]? = some t := rfl
  by_cases hroom : m + k ≤ c
  · -- within the capacity
    rcases r4 with ⟨rfl, rfl, rfl, _⟩ | ⟨b, L, rfl, rfl, hmc, hL, hT⟩
    · have hk0 : k = 0 := by omega
      subst hk0
      have hy0 : ys = [] := List.eq_nil_of_length_eq_zero hk
      subst hy0
      refine ⟨none, 0, en, w, ?_, ?_, ?_⟩
      · have hx' : (Builtin.firstCells sz 0 (.slice (some ⟨b2, off2, none⟩) 0 c2)).run P w = .ok #[] w := by simpa using hx
        simp [Builtin.append_, run_underlying' h1, run_sizeOf' h2, h3, Builtin.lenOf, hx']
      · have e : S.set i en = S := by
          refine List.ext_getElem? fun q => ?_
          by_cases hq : i = q
          · subst hq; rw [List.getElem?_set_self hsl, hi]
          · rw [List.getElem?_set_ne hq]
        rw [e]; exact M
      · refine ⟨by simpa using r1, by simpa using r2, by omega, .inl ⟨rfl, rfl, rfl, ?_⟩⟩
        assumption
    · have hLle : m * sz + k * sz ≤ L.length := by
        rw [hL, ← Nat.add_mul]
        exact Nat.mul_le_mul_right sz hroom
      have hi' : nthE S i = some (some b, bc L e) := by rw [nthE_eq]; exact hi
      obtain ⟨w', hw', M'⟩ := run_storeCells (P := P) ys.flatten (m * sz) 0 L S w M hi' (fun v hv => by
        obtain ⟨y, hy, hv'⟩ := List.mem_flatten.1 hv
        exact (hys y hy).2 v hv') (by rw [hflat]; omega)
      rw [Nat.add_zero] at M'
      refine ⟨some ⟨b, 0, none⟩, c, _, w', ?_, M', ?_⟩
      · have ha : (⟨b, 0, none⟩ : Addr).add (m * sz) = ⟨b, m * sz, none⟩ := by rw [add_none, Nat.zero_add]
        simp [Builtin.append_, run_underlying' h1, run_sizeOf' h2, h3, Builtin.lenOf, hx, hroom, ha, hw']
      · have hset : ∀ (vs l : List Value) (o : Nat), o + vs.length ≤ l.length → setL l o vs = l.take o ++ vs ++ l.drop (o + vs.length) := by
          intro vs
          induction vs with
          | nil => intro l o h; simp [setL]
          | cons v vs ih =>
            intro l o h
            simp only [List.length_cons] at h
            simp only [setL]
            rw [ih _ _ (by simp; omega)]
            apply List.ext_getElem?
            intro q
            simp only [List.getElem?_append, List.length_append, List.length_take, List.length_set, List.getElem?_take, List.getElem?_set, List.getElem?_drop, List.length_cons]
            grind
        have hs := hset ys.flatten L (m * sz) (by rw [hflat]; omega)
        refine ⟨hlsys, hall, by omega, .inr ⟨b, _, rfl, rfl, hroom, ?_, ?_⟩⟩
        · rw [hs]
          simp only [List.length_append, List.length_take, List.length_drop, hflat, hL]
          rw [hL] at hLle
          omega
        · rw [hs, List.flatten_append, ← hT, Nat.add_mul]
          rw [List.take_append_of_le_length (by simp [hflat]; omega)]
          rw [List.take_of_length_le (by simp [hflat]; omega)]
  · -- a new array
    obtain ⟨zi, hzi⟩ : ∃ zi, P.info? e = some zi := Option.isSome_iff_exists.1 h2
    have hz' : zi.zero = some zv := by simpa [zeroV, hzi] using hzv
    have hsize : zi.size = sz := by simpa [Program.cellsOf, hzi] using h3
    have hbytes : zi.bytes = bytes := by simpa [Program.bytesOf, hzi] using h4
    have hcap : m + k ≤ grownCap w (m + k) c e := Nat.le_add_right _ _
    have M1 : Mem w0 X S w.drew := ⟨M.os, M.tape, M.output, M.size, M.old, M.own, M.apart⟩
    have fin : ∀ (L : Array Value), L = (ls.flatten ++ ys.flatten).toArray ++ Builtin.zeroCells zv.cells (grownCap w (m + k) c e - (m + k)) →
        ∃ en', Mem w0 X (S.set i en') (w.drew.alloc (.cells L e)) ∧ RowIs e sz (some ⟨w.heap.size, 0, none⟩) (m + k) (grownCap w (m + k) c e) (ls ++ ys) en' := by
      intro L hL
      refine ⟨(some w.heap.size, bc L.toList e), ?_, hlsys, hall, by omega, .inr ⟨_, _, rfl, rfl, hcap, ?_, ?_⟩⟩
      · have := M1.alloc (bc L.toList e)
        have e1 : bc L.toList e = .cells L e (0, 0) := by simp [bc]
        rw [e1] at this ⊢
        exact this.replace hsl
      · rw [hL]
        simp only [Array.toList_append, List.length_append, flat_len ls sz r2, flat_len ys sz (fun y hy => (hys y hy).1), r1, hk, Array.length_toList, size_zeroCells, hzs, ← Nat.add_mul]
        congr 1
        omega
      · rw [hL]
        simp only [Array.toList_append]
        rw [List.take_append_of_le_length (by simp [flat_len ls sz r2, flat_len ys sz (fun y hy => (hys y hy).1), r1, hk, Nat.add_mul]),
          List.take_of_length_le (by simp [flat_len ls sz r2, flat_len ys sz (fun y hy => (hys y hy).1), r1, hk, Nat.add_mul])]
        simp
    have h48 : Builtin.nextslicecap (m + k) c * zi.bytes ≤ 281474976710656 := by rw [hbytes]; exact growslice_fits (by omega) hb
    have hnews : ∀ j v, ys.flatten[j]? = some v → w.cell? ((⟨b2, off2, none⟩ : Addr).add j) = some v := fun j v hj => by rw [add_none]; exact C j v hj
    rcases r4 with ⟨rfl, rfl, rfl, _⟩ | ⟨b, L, rfl, rfl, hmc, hL, hT⟩
    · have h0 : ls = [] := List.eq_nil_of_length_eq_zero r1
      subst h0
      have hr := run_append_nil (P := P) w t ty' e zi zv h1 hzi hz' ⟨b2, off2, none⟩ k c2 ys.flatten (by rw [hsize]; exact hflat) hnews (by omega) (by omega) (by
        rw [Nat.zero_add] at h48
        rw [nextslicecap_zero (by omega)] at h48
        exact h48)
      obtain ⟨en', q1, q2⟩ := fin (ys.flatten.toArray ++ Builtin.zeroCells zv.cells (grownCap w k 0 e - k)) (by simp [Nat.zero_add])
      have e3 : 0 + k = k := Nat.zero_add k
      rw [e3] at q2 ⊢
      exact ⟨_, _, en', _, hr, q1, q2⟩
    · have hh := (M.own b _ (List.mem_of_getElem? hi)).1
      have holds : ∀ j v, ls.flatten[j]? = some v → w.cell? ((⟨b, 0, none⟩ : Addr).add j) = some v := fun j v hj => by
        rw [add_none]
        exact Cells.of_heap (l := L) (T := e) (fr := (0, 0)) hh (by rw [flat_len ls sz r2, r1, List.drop_zero, hT]) j v hj
      have hr := run_append_grow (P := P) w t ty' e zi zv h1 hzi hz' ⟨b, 0, none⟩ m c ls.flatten (by rw [hsize, flat_len ls sz r2, r1]) holds ⟨b2, off2, none⟩ k c2 ys.flatten (by rw [hsize]; exact hflat) hnews (by omega) (by omega) h48
      obtain ⟨en', q1, q2⟩ := fin (ls.flatten.toArray ++ ys.flatten.toArray ++ Builtin.zeroCells zv.cells (grownCap w (m + k) c e - (m + k))) (by simp)
      exact ⟨_, _, en', _, hr, q1, q2⟩

/-- append(x, ys...), x a row of the call's own, in entry i. -/
theorem wl_append (i : Nat) {t e sz bytes : Nat} {x y : Operand} {A : Option Addr} {m c : Nat} {ls : List (List Value)} {en : Ent} {b2 off2 k c2 : Nat} (ys : List (List Value))
    (ht : sliceB P t e sz bytes = true) (M : Mem w0 X S w) (hg : gok l0 ρ gd = true) (hd : Nat.blt d n = true) (hx : ev ρ x = .slice A m c) (hy : ev ρ y = .slice (some ⟨b2, off2, none⟩) k c2) (hi : nthE S i = some en) (hR : RowIs e sz A m c ls en)
    (hk : ys.length = k) (hys : ∀ y ∈ ys, y.length = sz ∧ ∀ u ∈ y, one u = true) (C : Cells w b2 off2 ys.flatten) (hb : (m + k) * bytes ≤ 140737488355328)
    (h : ∀ A' c' en' w', Mem w0 X (S.set i en') w' → RowIs e sz A' (m + k) c' (ls ++ ys) en' → wl P n l0 rest Q (upd ρ d (.slice A' (m + k) c')) w') :
    wl P n l0 (⟨some d, .call ⟨.builtin .append, [x, y].toArray, [t, t].toArray⟩, ty, pos, af, gd⟩ :: rest) Q ρ w := by
  rw [nthE_eq] at hi
  obtain ⟨A', c', en', w', h1, h2, h3⟩ := run_append (P := P) (c2 := c2) ht hR M hi hk hys C hb ty
  exact wl_val hg hd (by simp [execOp, hx, hy, resolve, invoke, builtin, h1]) (h A' c' en' w' h2 h3)
end
end Go.Bil
