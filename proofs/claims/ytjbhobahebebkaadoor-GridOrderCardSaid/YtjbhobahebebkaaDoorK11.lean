/- Part of the proof of the laws of this seat: FwN, FwP, FwQ. No conditions. -/
import Derived.Test.YtjbhobahebebkaaDoorK10
import Derived.Test.YtjbhobahebebkaaDoorK4
/- Arithmetic that does not wrap, elements of arrays through pointers, clear, and memory with a long tail of entries. -/
set_option linter.unusedVariables false
set_option linter.unusedSimpArgs false
namespace Go.Bil
section
variable {P : Program} {n : Nat} {l0 rest : List Oper} {Q : Exit → Rho → World → Prop} {ρ : Rho} {w w0 : World} {X : List Nat} {S : List Ent} {d : Nat} {ty : TypeId} {pos : String} {af : Array Edge} {gd : Option (Nat × Bool)}
theorem r_addK {t t' : TypeId} {x y : Operand} {k : IntKind} {a b : Int} (hx : ev ρ x = .int k a) (hy : ev ρ y = .int k b) (h : k.wrap (a + b) = a + b) : Ans P ρ w (.binOp .add t x y t') (.int k (a + b)) :=
  r_bin _ hx hy (by simp only [ibin, h])
/-- &a[j] of an array. -/
theorem r_idxP (j : Nat) {t len e sz b off : Nat} {x y : Operand} {k : IntKind} {z : Int} (ht : arrB P t len e sz = true) (hx : ev ρ x = .pointer (some ⟨b, off, none⟩)) (hy : ev ρ y = .int k z) (hz : z = (j : Int)) (hlt : j < len) :
    Ans P ρ w (.indexAddr t x y) (.pointer (some ⟨b, off + j * sz, none⟩)) := fun dst ty pos af gd => by
  obtain ⟨h1, h2, h3⟩ := arrB_spec ht
  subst hz
  have hc : (0 : Int) ≤ (j : Int) ∧ (j : Int) < (len : Int) := ⟨by omega, by omega⟩
  simp only [execOp, hx, hy, Instr.indexAt, asIntOf, Instr.sureAddr, Sem.run_bind, Sem.run_pure, run_underlying' h1, run_sizeOf' h2, h3, Result.andThen_ok, add_none]
  split
  · rename_i h4
    simp [run_sizeOf' h2, h3]
  · rename_i h4
    exact absurd (by omega) h4
theorem Mem.front {L B C : List Ent} (M : Mem w0 X ((L ++ B) ++ C) w) : Mem w0 X ((L ++ C) ++ B) w :=
  M.perm (by rw [List.append_assoc, List.append_assoc]; exact List.Perm.append_left _ List.perm_append_comm)
theorem Mem.tail {L A A' : List Ent} {w' : World} (M : Mem w0 X (L ++ A) w) (C : Mem w (blks A) A' w') : Mem w0 X (L ++ A') w' :=
  ((M.perm List.perm_append_comm).call C).perm List.perm_append_comm
theorem Mem.ownTail {L A : List Ent} (M : Mem w0 X (L ++ A) w) : Own A w := (M.sub (List.sublist_append_right L A)).toOwn
/-- clear(x[l:]). What is left of it is told of the first l elements alone. -/
theorem wl_clear (i : Nat) {t e T sz bytes m c : Nat} {x : Operand} {A : Option Addr} {ls : List (List Value)} {en : Ent} (l : Nat) (ht : sliceB P t e sz bytes = true) (hz1 : ∀ zv, zeroV P e = some zv → ∀ v ∈ zv.cells.toList, one v = true) (M : Mem w0 X S w) (hg : gok l0 ρ gd = true)
    (hi : nthE S i = some en) (hR : RowIs T sz A m c ls en) (hl : l ≤ m) (hx : ev ρ x = .slice (subA A c l sz) (m - l) (c - l))
    (h : ∀ e' w', RowIs T sz (subA A c 0 sz) (l - 0) (c - 0) (ls.take l) e' → Mem w0 X (S.set i e') w' → wl P n l0 rest Q ρ w') : wl P n l0 (⟨none, .call ⟨.builtin .clear, [x].toArray, [t].toArray⟩, ty, pos, af, gd⟩ :: rest) Q ρ w := by
  obtain ⟨h1, h2, h3, h4, h5, h6, zv, hzv, hzs⟩ := sliceB_spec ht
  by_cases h0 : m - l = 0
  · have hs : S.set i en = S := by
      have hi' : S[i]? = some en := by rw [← nthE_eq]; exact hi
      apply List.ext_getElem?
      intro q
      rw [List.getElem?_set]
      by_cases hq : i = q
      · subst hq
        rw [if_pos rfl, if_pos (List.getElem?_eq_some_iff.1 hi').1, hi']
      · rw [if_neg hq]
    refine wl_val0 (v := .tuple #[]) (w' := w) hg ?_ (h en w (hR.pre l hl) (by rw [hs]; exact M))
    rw [h0] at hx
    cases hA : subA A c l sz with
    | none => rw [hA] at hx; simp [execOp, hx, resolve, invoke, builtin, Builtin.clear_, run_underlying' h1]
    | some a => rw [hA] at hx; simp [execOp, hx, resolve, invoke, builtin, Builtin.clear_, run_underlying' h1]
  · obtain ⟨b, L, rfl, rfl, hL, hmc⟩ := hR.block (by omega)
    have hA : subA (some ⟨b, 0, none⟩) c l sz = some ⟨b, l * sz, none⟩ := by
      unfold subA
      rw [if_neg (by omega)]
      simp [add_none]
    rw [hA] at hx
    have hlen : (Builtin.zeroCells zv.cells (m - l)).toList.length = (m - l) * sz := by simp [Builtin.zeroCells, hzs]
    have hone : ∀ v ∈ (Builtin.zeroCells zv.cells (m - l)).toList, one v = true := by
      intro v hv
      simp only [Builtin.zeroCells, Array.toList_map, List.mem_map] at hv
      obtain ⟨q, hq, rfl⟩ := hv
      have hlt : q % zv.cells.size < zv.cells.size := Nat.mod_lt _ (by omega)
      have he : zv.cells[q % zv.cells.size]! = zv.cells[q % zv.cells.size] := getElem!_pos zv.cells _ hlt
      rw [he]
      exact hz1 zv hzv _ (by simp)
    have hle : l * sz + (m - l) * sz ≤ L.length := by
      rw [hL, ← Nat.add_mul, show l + (m - l) = m by omega]
      exact Nat.mul_le_mul_right sz hmc
    obtain ⟨w', hw', M'⟩ := run_storeCells (P := P) _ (l * sz) 0 L S w M hi hone (by rw [hlen]; omega)
    have hzero : ∀ w, (zeroValue e).run P w = .ok zv w := by
      intro w
      obtain ⟨zi, hzi⟩ : ∃ zi, P.info? e = some zi := Option.isSome_iff_exists.1 h2
      have hz' : zi.zero = some zv := by simpa [zeroV, hzi] using hzv
      simp [zeroValue, typeInfo, hzi, hz']
    refine wl_val0 (v := .tuple #[]) (w' := w') hg ?_ (h _ w' ?_ M')
    · obtain ⟨k, hk⟩ : ∃ k, m - l = k + 1 := ⟨m - l - 1, by omega⟩
      rw [hk] at hx hw'
      simp [execOp, hx, resolve, invoke, builtin, Builtin.clear_, run_underlying' h1, hzero, hw']
    · have hp := hR.pre l hl
      obtain ⟨r1, r2, r3, r4⟩ := hp
      refine ⟨r1, r2, r3, ?_⟩
      rcases r4 with ⟨q1, q2, q3, q4⟩ | ⟨b', L', q1, q2, q3, q4, q5⟩
      · cases q4
      · injection q2 with q6 q7
        injection q6 with q6
        subst q6
        have hLL : L = L' := by simp only [bc, Obj.cells.injEq] at q7; simpa using q7.1
        subst hLL
        refine .inr ⟨b, _, q1, rfl, q3, by rw [setL_length, q4], ?_⟩
        rw [← q5, Nat.add_zero, setL_at _ _ _ (by rw [hlen]; omega), Nat.sub_zero, List.append_assoc, List.take_append_of_le_length (by simp; omega), List.take_take, Nat.min_self]
end
end Go.Bil
namespace Go.Bil
section
variable {P : Program} {n : Nat} {Q : Exit → Rho → World → Prop} {ρ : Rho} {w w0 : World} {X : List Nat} {S : List Ent}
theorem finC3 {R : Value → World → Prop} {a b t : Nat} {T m : Nat} {l l' : List Value} {p q : Nat} {T' : TypeId} {v3 : Value} (i j : Nat) (hT : aggN P T = some m) (M : Mem w0 X S w) (hx : ρ a = .pointer (some ⟨p, 0, none⟩)) (hy : ρ b = .pointer (some ⟨q, 0, none⟩)) (hi : nthE S i = some (some p, bc l T')) (hj : nthE S j = some (some q, bc l' T')) (hl : l.length = m) (hl' : l'.length = m) (h3 : ρ t = v3)
    (h : R (.tuple #[.agg l.toArray, .agg l'.toArray, v3]) w) : finQ P #[.cell a T, .cell b T, .tmp t] R .ret ρ w := by
  have hv := run_loadVarA (P := P) (w := w) hT hl (Cells.ofMem i M hi)
  have hv' := run_loadVarA (P := P) (w := w) hT hl' (Cells.ofMem j M hj)
  exact ⟨_, by simp [resM, hx, hy, asAddr, hv, hv', h3], h⟩
/-- What yield does, where the loop's body appends to a slice: entries of the record, of the slice's variable, of the row. -/
def YieldApp (P : Program) (lp ob : Nat) (rec : Loop) (Tsl Te sz N : Nat) (ok : List Value → Prop) : Prop :=
  ∀ (w : World) (r : Row) (ls : List (List Value)) (x : List Value), ok x → r.n < N → RowIs Te sz r.A r.n r.c ls r.e → Own [(some lp, .loop rec), (some ob, bc [.slice r.A r.n r.c] Tsl), r.e] w →
    ∃ fn tmps as bo, (Instr.yield lp #[.agg x.toArray]).run P w = .ok (.round lp fn tmps as bo) w ∧
      RoundIn (FR none) 0 P lp fn tmps as bo w (fun e w' => e = .returned (.bool true) ∧ ∃ r' : Row, r'.n = r.n + 1 ∧ RowIs Te sz r'.A r'.n r'.c (ls ++ [x]) r'.e ∧
        Mem w (blks [(some lp, .loop rec), (some ob, bc [.slice r.A r.n r.c] Tsl), r.e]) [(some lp, .loop rec), (some ob, bc [.slice r'.A r'.n r'.c] Tsl), r'.e] w')
theorem with_yield {lp ob : Nat} {rec : Loop} {Tsl Te sz N : Nat} {ok : List Value → Prop} {G : Prop} (M : Mem w0 X ((some lp, .loop rec) :: S) w) (hy : YieldApp P lp ob rec Tsl Te sz N ok) (h : YieldApp P lp ob rec Tsl Te sz N ok → G) : G := h hy
end
end Go.Bil
namespace Go.Bil
theorem blks_take_not {S : List Ent} {k i b : Nat} {o : Obj} (h : (blks S).Nodup) (hi : nthE S i = some (some b, o)) (hk : k ≤ i) : b ∉ blks (S.take k) := by
  intro hm
  obtain ⟨o', ho'⟩ := mem_blks.1 hm
  have hd : (some b, o) ∈ S.drop k := by
    rw [nthE_eq] at hi
    refine List.mem_of_getElem? (i := i - k) ?_
    rw [List.getElem?_drop, show k + (i - k) = i by omega]
    exact hi
  have hb2 : b ∈ blks (S.drop k) := mem_blks.2 ⟨o, hd⟩
  rw [← List.take_append_drop k S, blks_append, List.nodup_append] at h
  exact h.2.2 b hm b hb2 rfl
theorem Mem.apartTake {w0 w : World} {X : List Nat} {S : List Ent} {b : Nat} {o : Obj} (k i : Nat) (M : Mem w0 X S w) (hi : nthE S i = some (some b, o)) (hk : Nat.ble k i = true) {nn : Nat} : 0 < nn → ∀ q off, (some ⟨b, 0, none⟩ : Option Addr) = some ⟨q, off, none⟩ → q ∉ blks (S.take k) := by
  intro _ q off e
  injection e with e
  injection e with e
  subst e
  exact blks_take_not M.apart hi (Nat.le_of_ble_eq_true hk)
end Go.Bil

/- More forms of results. -/
set_option linter.unusedVariables false
set_option linter.unusedSimpArgs false
namespace Go.Bil
section
variable {P : Program} {n : Nat} {Q : Exit → Rho → World → Prop} {ρ : Rho} {w w0 : World} {X : List Nat} {S : List Ent}
end
end Go.Bil

/- A region whose order is open, where two operations that act are ready at once: both ways are walked. -/
set_option linter.unusedVariables false
set_option linter.unusedSimpArgs false
namespace Go.Bil
open Go.RowKit (Below)
section
variable {P : Program} {n : Nat} {Q : Exit → Rho → World → Prop} {ρ : Rho} {w : World} {l0 rest : List Oper} {K : Pend → Rho → World → Prop}
variable {d : Nat} {op : Op} {ty : TypeId} {pos : String} {af : Array Edge} {gd : Option (Nat × Bool)}
/-- The two ways. -/
def fork (P : Program) (n : Nat) (l0 : List Oper) (Q : Exit → Rho → World → Prop) (i j : Nat) (pi pj : List (Nat × Nat)) : Pend → Rho → World → Prop :=
  fun pend ρ w => D P n l0 Q ((i, 2) :: pi) pend ρ w ∧ D P n l0 Q ((j, 2) :: pj) pend ρ w
end
end Go.Bil
