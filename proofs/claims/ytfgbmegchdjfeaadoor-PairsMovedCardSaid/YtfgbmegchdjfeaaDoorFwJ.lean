/- Stores into rows; prefixes of rows; append of whatever can be read; results in cells. -/
import Derived.Test.YtfgbmegchdjfeaaDoorFwI
set_option linter.unusedVariables false
set_option linter.unusedSimpArgs false
namespace Go.Bil
open Go.RowKit (Below)

/-! ### Lists of cells -/
theorem setL_at : ∀ (vs l : List Value) (o : Nat), o + vs.length ≤ l.length → setL l o vs = l.take o ++ vs ++ l.drop (o + vs.length) := by
  intro vs
  induction vs with
  | nil => intro l o h; simp [setL]
  | cons v vs ih =>
    intro l o h
    simp only [List.length_cons] at h
    simp only [setL]
    rw [ih _ _ (by simp; omega)]
    apply List.ext_getElem?
    intro q
    simp only [List.getElem?_append, List.length_append, List.length_take, List.length_set, List.getElem?_take, List.getElem?_set, List.getElem?_drop, List.length_cons]
    grind
theorem flat_set {sz : Nat} : ∀ (ls : List (List Value)) (k o : Nat) (l v : List Value), (∀ l ∈ ls, l.length = sz) → ls[k]? = some l → o + v.length ≤ sz → setL ls.flatten (k * sz + o) v = (ls.set k (setL l o v)).flatten
  | [], k, o, l, v, _, h, _ => by simp at h
  | x :: ls, 0, o, l, v, he, h, hv => by
    simp only [List.getElem?_cons_zero, Option.some.injEq] at h
    subst h
    have hx := he x (by simp)
    simp only [Nat.zero_mul, Nat.zero_add, List.flatten_cons, List.set_cons_zero]
    rw [setL_at _ _ _ (by simp; omega), setL_at _ _ _ (by omega)]
    rw [List.take_append_of_le_length (by omega), List.drop_append_of_le_length (by omega)]
    simp
  | x :: ls, k + 1, o, l, v, he, h, hv => by
    simp only [List.getElem?_cons_succ] at h
    have hx := he x (by simp)
    have ih := flat_set ls k o l v (fun l hl => he l (by simp [hl])) h hv
    simp only [List.flatten_cons, List.set_cons_succ]
    rw [← ih]
    have hl : l.length = sz := he l (by simp [List.mem_of_getElem? h])
    have hk : k < ls.length := (List.getElem?_eq_some_iff.1 h).1
    have hfl := flat_len ls sz (fun l hl => he l (by simp [hl]))
    have hle : k * sz + sz ≤ ls.length * sz := by
      have := Nat.mul_le_mul_right sz (show k + 1 ≤ ls.length by omega)
      rwa [Nat.add_mul, Nat.one_mul] at this
    rw [setL_at _ _ _ (by rw [List.length_append, hfl, Nat.add_mul, Nat.one_mul, hx]; omega), setL_at _ _ _ (by omega)]
    rw [show (k + 1) * sz + o = x.length + (k * sz + o) by rw [Nat.add_mul, Nat.one_mul, hx]; omega]
    rw [List.take_length_add_append, show x.length + (k * sz + o) + v.length = x.length + (k * sz + o + v.length) by omega, List.drop_length_add_append]
    simp

section
variable {P : Program} {n : Nat} {Q : Exit → Rho → World → Prop} {ρ : Rho} {w : World} {l0 rest : List Oper}
variable {d : Nat} {ty : TypeId} {pos : String} {af : Array Edge} {gd : Option (Nat × Bool)}
variable {w0 : World} {X : List Nat} {S : List Ent}

theorem RowIs.put {T sz : Nat} {A : Option Addr} {m c : Nat} {ls : List (List Value)} {b : Nat} {L : List Value} {k o : Nat} {l v : List Value} (hR : RowIs T sz A m c ls (some b, bc L T)) (hl : ls[k]? = some l) (hv : o + v.length ≤ sz) :
    RowIs T sz A m c (ls.set k (setL l o v)) (some b, bc (setL L (k * sz + o) v) T) := by
  obtain ⟨r1, r2, r3, r4⟩ := hR
  have hlen := r2 l (List.mem_of_getElem? hl)
  have hk : k < m := by rw [← r1]; exact (List.getElem?_eq_some_iff.1 hl).1
  refine ⟨by simpa using r1, fun x hx => ?_, r3, ?_⟩
  · rcases List.mem_or_eq_of_mem_set hx with h | h
    · exact r2 x h
    · rw [h, setL_length]; exact hlen
  · rcases r4 with ⟨_, h, _⟩ | ⟨b', L', rfl, hb, hmc, hL, hT⟩
    · omega
    · injection hb with hb1 hb2
      injection hb1 with hb1
      subst hb1
      have hLL : L = L' := by
        simp only [bc, Obj.cells.injEq] at hb2
        simpa using hb2.1
      subst hLL
      refine .inr ⟨b, _, rfl, rfl, hmc, by rw [setL_length, hL], ?_⟩
      have hle : k * sz + sz ≤ m * sz := by
        have := Nat.mul_le_mul_right sz (show k + 1 ≤ m by omega)
        rwa [Nat.add_mul, Nat.one_mul] at this
      have hmL : m * sz ≤ L.length := by rw [hL]; exact Nat.mul_le_mul_right sz hmc
      rw [← flat_set ls k o l v r2 hl hv, ← hT]
      rw [setL_at _ _ _ (by omega), setL_at _ _ _ (by simp; omega)]
      apply List.ext_getElem?
      intro q
      simp only [List.getElem?_append, List.length_append, List.length_take, List.getElem?_take, List.getElem?_drop, List.length_drop]
      grind
theorem RowIs.block {T sz : Nat} {A : Option Addr} {m c : Nat} {ls : List (List Value)} {e : Ent} (hR : RowIs T sz A m c ls e) (hm : 0 < m) : ∃ b L, A = some ⟨b, 0, none⟩ ∧ e = (some b, bc L T) ∧ L.length = c * sz ∧ m ≤ c := by
  rcases hR.2.2.2 with ⟨_, h, _⟩ | ⟨b, L, h1, h2, h3, h4, _⟩
  · omega
  · exact ⟨b, L, h1, h2, h4, h3⟩
/-- x[k].f = v, v of several cells. -/
theorem wl_stRA (i : Nat) {T T' N : TypeId} {x y : Operand} {A : Option Addr} {k o sz m c : Nat} {ls : List (List Value)} {l : List Value} {e : Ent} (v : List Value) (hT : aggN P T = some N) (M : Mem w0 X S w) (hi : nthE S i = some e) (hR : RowIs T' sz A m c ls e) (hl : ls[k]? = some l) (hg : gok l0 ρ gd = true)
    (hx : ev ρ x = elt A (k * sz + o)) (hy : ev ρ y = .agg v.toArray) (hN : v.length = N) (h1 : ∀ u ∈ v, one u = true) (hv : Nat.ble (o + N) sz = true)
    (h : ∀ e' w', RowIs T' sz A m c (ls.set k (setL l o v)) e' → Mem w0 X (S.set i e') w' → wl P n l0 rest Q ρ w') : wl P n l0 (⟨none, .store T x y, ty, pos, af, gd⟩ :: rest) Q ρ w := by
  have hk : k < m := by rw [← hR.1]; exact (List.getElem?_eq_some_iff.1 hl).1
  obtain ⟨b, L, rfl, rfl, hL, hmc⟩ := hR.block (by omega)
  have hv' : o + v.length ≤ sz := by rw [hN]; exact Nat.le_of_ble_eq_true hv
  have hle : k * sz + sz ≤ c * sz := by
    have := Nat.mul_le_mul_right sz (show k + 1 ≤ c by omega)
    rwa [Nat.add_mul, Nat.one_mul] at this
  refine wl_stA i v hT M hg (b := b) (off := k * sz + o) (by rw [hx]; simp [elt, add_none]) hy hi hN h1 (by rw [hL]; omega) (fun w' M' => h _ w' (hR.put hl hv') M')
/-- x[k] = v. -/
theorem wl_stRW (i : Nat) {T T' N : TypeId} {x y : Operand} {A : Option Addr} {k m c : Nat} {ls : List (List Value)} {l : List Value} {e : Ent} (v : List Value) (hT : aggN P T = some N) (M : Mem w0 X S w) (hi : nthE S i = some e) (hR : RowIs T' N A m c ls e) (hl : ls[k]? = some l) (hg : gok l0 ρ gd = true)
    (hx : ev ρ x = elt A (k * N)) (hy : ev ρ y = .agg v.toArray) (hN : v.length = N) (h1 : ∀ u ∈ v, one u = true)
    (h : ∀ e' w', RowIs T' N A m c (ls.set k v) e' → Mem w0 X (S.set i e') w' → wl P n l0 rest Q ρ w') : wl P n l0 (⟨none, .store T x y, ty, pos, af, gd⟩ :: rest) Q ρ w :=
  wl_stRA (o := 0) i v hT M hi hR hl hg (by simpa using hx) hy hN h1 (by simp) (fun e' w' hR' M' => h e' w' (by
    have hlen := hR.2.1 l (List.mem_of_getElem? hl)
    rwa [setL_all l v (by rw [hlen, hN])] at hR') M')
/-- x[k].f = v, v of one cell. -/
theorem wl_stR1 (i : Nat) {T T' : TypeId} {x y : Operand} {A : Option Addr} {k o sz m c : Nat} {ls : List (List Value)} {l : List Value} {e : Ent} (v : Value) (hT : oneB P T = true) (M : Mem w0 X S w) (hi : nthE S i = some e) (hR : RowIs T' sz A m c ls e) (hl : ls[k]? = some l) (hg : gok l0 ρ gd = true)
    (hx : ev ρ x = elt A (k * sz + o)) (hy : ev ρ y = v) (h1 : one v = true) (hv : Nat.ble (o + 1) sz = true)
    (h : ∀ e' w', RowIs T' sz A m c (ls.set k (l.set o v)) e' → Mem w0 X (S.set i e') w' → wl P n l0 rest Q ρ w') : wl P n l0 (⟨none, .store T x y, ty, pos, af, gd⟩ :: rest) Q ρ w := by
  have hk : k < m := by rw [← hR.1]; exact (List.getElem?_eq_some_iff.1 hl).1
  obtain ⟨b, L, rfl, rfl, hL, hmc⟩ := hR.block (by omega)
  have hv' : o + 1 ≤ sz := Nat.le_of_ble_eq_true hv
  have hle : k * sz + sz ≤ c * sz := by
    have := Nat.mul_le_mul_right sz (show k + 1 ≤ c by omega)
    rwa [Nat.add_mul, Nat.one_mul] at this
  obtain ⟨v0, hv0⟩ : ∃ v0, nth L (k * sz + o) = some v0 := by
    rw [nth_eq]
    exact ⟨L[k * sz + o]'(by rw [hL]; omega), List.getElem?_eq_getElem _⟩
  have hp := hR.put (v := [v]) (o := o) hl (by simpa using hv')
  refine wl_st i v hT M hg (b := b) (off := k * sz + o) (by rw [hx]; simp [elt, add_none]) hy h1 hi (by rw [hv0]; rfl) (fun w' M' => h _ w' hp M')
/-- x[k] = v, elements of one cell. -/
theorem wl_stR0 (i : Nat) {T T' : TypeId} {x y : Operand} {A : Option Addr} {k m c : Nat} {ls : List (List Value)} {l : List Value} {e : Ent} (v : Value) (hT : oneB P T = true) (M : Mem w0 X S w) (hi : nthE S i = some e) (hR : RowIs T' 1 A m c ls e) (hl : ls[k]? = some l) (hg : gok l0 ρ gd = true)
    (hx : ev ρ x = elt A (k * 1)) (hy : ev ρ y = v) (h1 : one v = true)
    (h : ∀ e' w', RowIs T' 1 A m c (ls.set k [v]) e' → Mem w0 X (S.set i e') w' → wl P n l0 rest Q ρ w') : wl P n l0 (⟨none, .store T x y, ty, pos, af, gd⟩ :: rest) Q ρ w :=
  wl_stR1 (o := 0) i v hT M hi hR hl hg (by simpa using hx) hy h1 rfl (fun e' w' hR' M' => h e' w' (by
    have hlen := hR.2.1 l (List.mem_of_getElem? hl)
    obtain ⟨u, rfl⟩ : ∃ u, l = [u] := by
      match l, hlen with
      | [u], _ => exact ⟨u, rfl⟩
    simpa using hR') M')

theorem RowIs.mapSet {α : Type} {f : α → List Value} {T sz : Nat} {A : Option Addr} {m c i : Nat} {ls : List α} {l : List Value} {x : α} {e : Ent} (hR : RowIs T sz A m c ((ls.map f).set i l) e) (hl : l = f x) : RowIs T sz A m c ((ls.set i x).map f) e := by
  subst hl
  rwa [List.map_set]
/-- The first h elements of a row. -/
theorem RowIs.pre {T sz : Nat} {A : Option Addr} {m c : Nat} {ls : List (List Value)} {e : Ent} (hR : RowIs T sz A m c ls e) (h : Nat) (hh : h ≤ m) : RowIs T sz (subA A c 0 sz) (h - 0) (c - 0) (ls.take h) e := by
  obtain ⟨r1, r2, r3, r4⟩ := hR
  refine ⟨by simp [r1, hh], fun l hl => r2 l (List.mem_of_mem_take hl), by omega, ?_⟩
  rcases r4 with ⟨rfl, h1, h2, h3⟩ | ⟨b, L, rfl, rfl, hmc, hL, hT⟩
  · exact .inl ⟨by simp [subA], by omega, by omega, h3⟩
  · refine .inr ⟨b, L, ?_, rfl, by omega, by simpa using hL, ?_⟩
    · unfold subA; split <;> simp [add_none]
    · have hle : h * sz ≤ m * sz := Nat.mul_le_mul_right sz hh
      have hf : (ls.take h).flatten = ls.flatten.take (h * sz) := by
        have e1 : ls.flatten = (ls.take h).flatten ++ (ls.drop h).flatten := by rw [← List.flatten_append, List.take_append_drop]
        have e2 : (ls.take h).flatten.length = h * sz := by
          rw [flat_len _ sz (fun l hl => r2 l (List.mem_of_mem_take hl)), List.length_take, r1, Nat.min_eq_left hh]
        rw [e1, ← e2, List.take_left]
      rw [hf, ← hT, List.take_take, Nat.sub_zero, Nat.min_eq_left hle]

/-! ### append of whatever can be read -/
theorem cells_flat {b sz : Nat} : ∀ (ls : List (List Value)) (off : Nat), (∀ l ∈ ls, l.length = sz) → (∀ (i : Nat) l, ls[i]? = some l → Cells w b (off + i * sz) l) → Cells w b off ls.flatten
  | [], off, _, _ => fun j v hj => by simp at hj
  | x :: ls, off, he, h => by
    have hx := he x (by simp)
    have h0 := h 0 x (by simp)
    have ih := cells_flat ls (off + sz) (fun l hl => he l (by simp [hl])) (fun i l hl => by
      have := h (i + 1) l (by simpa using hl)
      rwa [Nat.add_mul, Nat.one_mul, Nat.add_comm (i * sz), ← Nat.add_assoc] at this)
    intro j v hj
    simp only [List.flatten_cons, List.getElem?_append] at hj
    split at hj
    · simpa using h0 j v hj
    · rename_i hlt
      have := ih (j - x.length) v hj
      rwa [show off + sz + (j - x.length) = off + j by omega] at this
theorem loadCells_0 (a : Addr) (w : World) : (loadCells a 0).run P w = .ok #[] w := by simp [loadCells, loadCellsFrom]
theorem wl_appendR (i : Nat) {t e sz bytes : Nat} {x y : Operand} {A A2 : Option Addr} {m c : Nat} {ls : List (List Value)} {en : Ent} {k c2 : Nat} (ys : List (List Value))
    (ht : sliceB P t e sz bytes = true) (M : Mem w0 X S w) (hg : gok l0 ρ gd = true) (hd : Nat.blt d n = true) (hx : ev ρ x = .slice A m c) (hy : ev ρ y = .slice A2 k c2) (hi : nthE S i = some en) (hR : RowIs e sz A m c ls en)
    (R2 : Rd w sz A2 k ys) (hys : ∀ y ∈ ys, ∀ u ∈ y, one u = true) (hb : (m + k) * bytes ≤ 140737488355328)
    (h : ∀ A' c' en' w', Mem w0 X (S.set i en') w' → RowIs e sz A' (m + k) c' (ls ++ ys) en' → (A.isSome = true → A'.isSome = true) → wl P n l0 rest Q (upd ρ d (.slice A' (m + k) c')) w') :
    wl P n l0 (⟨some d, .call ⟨.builtin .append, [x, y].toArray, [t, t].toArray⟩, ty, pos, af, gd⟩ :: rest) Q ρ w := by
  by_cases hk : k = 0
  · subst hk
    have hy0 : ys = [] := List.eq_nil_of_length_eq_zero R2.len
    subst hy0
    obtain ⟨h1, h2, h3, h4, h5, h6, zv, hzv, hzs⟩ := sliceB_spec ht
    have hmc := hR.slice
    have hf : (Builtin.firstCells sz 0 (.slice A2 0 c2)).run P w = .ok #[] w := by
      cases A2 with
      | none => simp [Builtin.firstCells]
      | some a => simp [Builtin.firstCells, loadCells_0]
    have hrun : (Builtin.append_ #[t, t] ty #[.slice A m c, .slice A2 0 c2]).run P w = .ok (.slice A m c) w := by
      cases A with
      | none => simp [Builtin.append_, run_underlying' h1, run_sizeOf' h2, h3, Builtin.lenOf, hf, hmc]
      | some a => simp [Builtin.append_, run_underlying' h1, run_sizeOf' h2, h3, Builtin.lenOf, hf, hmc, storeCells]
    refine wl_val hg hd (v := .slice A (m + 0) c) (by simp [execOp, hx, hy, resolve, invoke, builtin, hrun]) (h A c en w ?_ (by simpa using hR) id)
    have hi' := hi
    rw [nthE_eq] at hi'
    have e : S.set i en = S := by
      refine List.ext_getElem? fun q => ?_
      by_cases hq : i = q
      · subst hq; rw [List.getElem?_set_self (List.getElem?_eq_some_iff.1 hi').1, hi']
      · rw [List.getElem?_set_ne hq]
    rw [e]; exact M
  · obtain ⟨b2, off2, rfl, _, hc⟩ := R2.at_ (by omega)
    exact wl_append i ys ht M hg hd hx hy hi hR R2.len (fun y hy => ⟨R2.each y hy, hys y hy⟩) (cells_flat ys off2 R2.each hc) hb (fun A' c' en' w' M' hR' => h A' c' en' w' M' hR' (fun _ => by
      obtain ⟨b, L, hA, _⟩ := hR'.block (by omega)
      rw [hA]; rfl))
/-- An empty block that a literal has made, as a row. -/
theorem RowIs.empty {T sz : Nat} (b : Nat) : RowIs T sz (some ⟨b, 0, none⟩) 0 0 [] (some b, bc [] T) := ⟨rfl, by simp, by omega, .inr ⟨b, [], rfl, rfl, by omega, by simp, by simp⟩⟩

/-! ### Results in cells -/
theorem finC1 {R : Value → World → Prop} {a : Nat} {T m : Nat} {l : List Value} {b : Nat} {T' : TypeId} (i : Nat) (hT : aggN P T = some m) (M : Mem w0 X S w) (hx : ρ a = .pointer (some ⟨b, 0, none⟩)) (hi : nthE S i = some (some b, bc l T')) (hl : l.length = m) (h : R (.agg l.toArray) w) :
    finQ P #[.cell a T] R .ret ρ w := by
  have hv := run_loadVarA (P := P) (w := w) hT hl (Cells.ofMem i M hi)
  exact ⟨_, by simp [resM, hx, asAddr, hv], h⟩
theorem finC2 {R : Value → World → Prop} {a t : Nat} {T m : Nat} {l : List Value} {b : Nat} {T' : TypeId} {v2 : Value} (i : Nat) (hT : aggN P T = some m) (M : Mem w0 X S w) (hx : ρ a = .pointer (some ⟨b, 0, none⟩)) (hi : nthE S i = some (some b, bc l T')) (hl : l.length = m) (h2 : ρ t = v2) (h : R (.tuple #[.agg l.toArray, v2]) w) :
    finQ P #[.cell a T, .tmp t] R .ret ρ w := by
  have hv := run_loadVarA (P := P) (w := w) hT hl (Cells.ofMem i M hi)
  exact ⟨_, by simp [resM, hx, asAddr, hv, h2], h⟩

theorem Mem.ownAt {i : Nat} {e : Ent} (M : Mem w0 X S w) (hi : nthE S i = some e) : Own [e] w := by
  refine ⟨fun b o hb => ?_, ?_⟩
  · simp only [List.mem_singleton] at hb
    subst hb
    exact M.at_ hi
  · obtain ⟨b, o⟩ := e
    cases b <;> simp [blks]
theorem Rd.memY {sz nn : Nat} {A : Option Addr} {ls : List (List Value)} (h : Rd w0 sz A nn ls) (M : Mem w0 X S w) (hX : 0 < nn → ∀ q off, A = Option.some ⟨q, off, none⟩ → q ∉ X) : Rd w sz A nn ls := by
  by_cases hn : 0 < nn
  · exact h.memX M (hX hn)
  · exact ⟨h.len, h.each, h.bound, fun h' => absurd h' hn⟩
/-- What was there ahead, and was not handed over, is none of the blocks that are owned now. -/
theorem Mem.away {sz nn : Nat} {A : Option Addr} {ls : List (List Value)} (i k : Nat) (M : Mem w0 X S w) (R : Rd w0 sz A nn ls) (hd : 0 < nn → ∀ q off, A = some ⟨q, off, none⟩ → q ∉ X) : 0 < nn → ∀ q off, A = some ⟨q, off, none⟩ → q ∉ blks ((S.drop i).take k) := by
  intro hn q off hA hq
  obtain ⟨o, ho⟩ := mem_blks.1 hq
  have ho' : (some q, o) ∈ S := (List.drop_sublist i S).subset ((List.take_sublist k _).subset ho)
  obtain ⟨b, off', hA', hlt, _⟩ := R.at_ hn
  rw [hA] at hA'
  injection hA' with hA'
  injection hA' with hA'
  subst hA'
  rcases (M.own q o ho').2 with h | h
  · omega
  · exact hd hn q off hA h
theorem Mem.ownSeg (i k : Nat) (M : Mem w0 X S w) : Own ((S.drop i).take k) w :=
  (M.sub ((List.take_sublist k _).trans (List.drop_sublist i S))).toOwn
theorem rowLit {T sz : Nat} {b nn : Nat} (ls : List (List Value)) (h : ∀ l ∈ ls, l.length = sz) (hn : ls.length = nn) (hb : nn ≤ 281474976710656) : RowIs T sz (some ⟨b, 0, none⟩) nn nn ls (some b, bc ls.flatten T) :=
  ⟨hn, h, hb, .inr ⟨b, _, rfl, rfl, Nat.le_refl _, by rw [flat_len ls sz h, hn], List.take_of_length_le (by rw [flat_len ls sz h, hn]; exact Nat.le_refl _)⟩⟩
/-! ### A variable, the world told outright -/
theorem wl_boxE {T : TypeId} {x : Operand} (v : Value) (M : Mem w0 X S w) (hg : gok l0 ρ gd = true) (hd : Nat.blt d n = true) (hx : ev ρ x = v)
    (h : Mem w0 X (S ++ [(some w.heap.size, bc (vcells v) T)]) { w with heap := w.heap.push (bc (vcells v) T) } → wl P n l0 rest Q (upd ρ d (.pointer (some ⟨w.heap.size, 0, none⟩))) { w with heap := w.heap.push (bc (vcells v) T) }) : wl P n l0 (⟨some d, .box T x, ty, pos, af, gd⟩ :: rest) Q ρ w := by
  refine wl_val hg hd ?_ (h (M.alloc _))
  simp [execOp, hx, Instr.box, newVar, newRow, bc, vcells_eq]

/-! ### maps.Clone's inner function, which the model answers itself -/
def clonesB (P : Program) (f : FuncId) : Prop := ∃ fn, P.funcs[f]? = some fn ∧ (fn.name == "runtime.NumGoroutine") = false ∧ fn.body.isNone = true ∧ Extern.findNext fn = none ∧ Extern.find fn = some Extern.MapsClone.clone
theorem wl_mapsClone (i : Nat) {β : Type} {kk : IntKind} {enc : β → Value} {f : Int → Option β} {p : Option Nat} {e : Ent} {F : FuncId} {x : Operand} {t : TypeId} {ts : Array TypeId} (hF : clonesB P F) (M : Mem w0 X S w) (hi : nthE S i = some e) (hm : MapE kk enc f p e) (hp : p.isSome = true) (hg : gok l0 ρ gd = true) (hd : Nat.blt d n = true)
    (hx : ev ρ x = .iface t (.map p))
    (h : ∀ b e' w', MapE kk enc f (some b) e' → Mem w0 X (S ++ [e']) w' → wl P n l0 rest Q (upd ρ d (.iface t (.map (some b)))) w') :
    wl P n l0 (⟨some d, .call ⟨.value (.func F), [x].toArray, ts⟩, ty, pos, af, gd⟩ :: rest) Q ρ w := by
  obtain ⟨fn, hf, hnm, hb, hn, he⟩ := hF
  rcases hm with ⟨rfl, _⟩ | ⟨b, o, rfl, rfl, l, clock, rfl, hnd, hfk⟩
  · simp at hp
  · have hh := M.at_ hi
    refine wl_val hg hd ?_ (h w.heap.size (some w.heap.size, .map (l.map (mEnt kk enc)).toArray clock) _ (.inr ⟨_, _, rfl, rfl, l, clock, rfl, hnd, hfk⟩) (M.alloc _))
    have hc : (Extern.MapsClone.clone #[.iface t (.map (some b))]).run P w = .ok (.iface t (.map (some w.heap.size))) { w with heap := w.heap.push (.map (l.map (mEnt kk enc)).toArray clock) } := by
      have e : Extern.MapsClone.clone #[.iface t (.map (some b))] = (getObj b >>= fun o => match o with
        | .map entries clock => (newObj (.map entries clock) >>= fun n => pure (.iface t (.map (some n))))
        | _ => stuck "maps.clone: a map expected") := rfl
      rw [e]
      simp [MapKept.run_getObj_map hh]
    have := run_callFunc_extern hf hnm hb hn he #[.iface t (.map (some b))] w
    rw [hc] at this
    have hev : ev ρ (.func F) = .func (.func F) #[] #[] := rfl
    simp [execOp, hx, hev, resolve, Deferred.ofValue, invoke, this]
end
end Go.Bil
