/- Part of the proof of the laws of this seat: FwI, FwJ. No conditions. -/
import Derived.Test.YtjbhobahebebkaaDoorK1
import Derived.MapKept
import Derived.Laws.Externs
/- Arrays, captured variables, min and max, maps with whole numbers as keys, results that lie in cells. -/
set_option linter.unusedVariables false
set_option linter.unusedSimpArgs false
namespace Go.Bil
open Go.RowKit (Below)

def arrB (P : Program) (t len e n : Nat) : Bool :=
  match P.underlying t with
  | some (.array l' e') => l' == len && e' == e && (P.info? e).isSome && P.cellsOf e == n
  | _ => false
theorem arrB_spec {P : Program} {t len e n : Nat} (h : arrB P t len e n = true) : P.underlying t = some (.array len e) ∧ (P.info? e).isSome = true ∧ P.cellsOf e = n := by
  unfold arrB at h
  cases hu : P.underlying t with
  | none => simp [hu] at h
  | some d =>
    cases d <;> simp [hu] at h
    obtain ⟨⟨⟨rfl, rfl⟩, h3⟩, h4⟩ := h
    exact ⟨rfl, h3, h4⟩
def mapB (P : Program) (t kt et : Nat) (kk : IntKind) : Bool :=
  match P.underlying t with
  | some (.map k e) => k == kt && e == et && (match P.underlying k with | some (.int q) => q == kk | _ => false)
  | _ => false
theorem mapB_spec {P : Program} {t kt et : Nat} {kk : IntKind} (h : mapB P t kt et kk = true) : P.underlying t = some (.map kt et) ∧ P.underlying kt = some (.int kk) := by
  unfold mapB at h
  cases hu : P.underlying t with
  | none => simp [hu] at h
  | some d =>
    cases d <;> simp [hu] at h
    obtain ⟨⟨rfl, rfl⟩, h3⟩ := h
    refine ⟨rfl, ?_⟩
    split at h3
    · rename_i q hq; rw [hq, eq_of_beq h3]
    · cases h3

section
variable {P : Program} {n : Nat} {Q : Exit → Rho → World → Prop} {ρ : Rho} {w : World} {l0 rest : List Oper}
variable {d : Nat} {ty : TypeId} {pos : String} {af : Array Edge} {gd : Option (Nat × Bool)}
variable {w0 : World} {X : List Nat} {S : List Ent}

def allOne : List Value → Bool
  | [] => true
  | v :: l => one v && allOne l
theorem ones_of : ∀ {l : List Value}, allOne l = true → ∀ u ∈ l, one u = true
  | [], _, u, h => by simp at h
  | v :: l, h, u, hu => by
    simp only [allOne, Bool.and_eq_true] at h
    rcases List.mem_cons.1 hu with rfl | hu
    · exact h.1
    · exact ones_of h.2 u hu
def allLen (m : Nat) : List Value → Bool
  | [] => true
  | v :: l => Nat.beq (len' (vcells v)) m && allLen m l
theorem lens_of {m : Nat} : ∀ {l : List Value}, allLen m l = true → ∀ u ∈ l, (vcells u).length = m
  | [], _, u, h => by simp at h
  | v :: l, h, u, hu => by
    simp only [allLen, Bool.and_eq_true] at h
    rcases List.mem_cons.1 hu with rfl | hu
    · rw [← len'_eq]; exact Nat.eq_of_beq_eq_true h.1
    · exact lens_of h.2 u hu

/-! ### Arrays -/
theorem r_idx1 (j : Nat) {t len e : Nat} {x y : Operand} {l : List Value} {k : IntKind} {z : Int} (v : Value) (ht : arrB P t len e 1 = true) (hT : oneB P e = true) (hx : ev ρ x = .agg l.toArray) (hy : ev ρ y = .int k z) (h0 : 0 ≤ z) (hlt : z < len) (hz : z = (j : Int)) (hv : nth l j = some v) :
    Ans P ρ w (.index t x y) v := fun dst ty pos af gd => by
  obtain ⟨h1, h2, h3⟩ := arrB_spec ht
  subst hz
  have hp := part1 (w := w) hT hv
  have hc : 0 ≤ (j : Int) ∧ (j : Int) < (len : Int) := ⟨h0, hlt⟩
  simp only [execOp, hx, hy, Instr.index, asIntOf, Sem.run_bind, Sem.run_pure, Result.andThen_ok, run_underlying' h1, if_pos hc, run_sizeOf' h2, h3, Int.toNat_natCast, Nat.mul_one, hp]
/-! ### A variable that is captured -/
theorem rdOf (i : Nat) {b : Nat} {l : List Value} {T sz : Nat} (M : Mem w0 X S w) (hi : nthE S i = some (some b, bc l T)) (hl : l.length = sz) : Rd w sz (some ⟨b, 0, none⟩) 1 [l] := by
  have hlt : b < w.heap.size := (Array.getElem?_eq_some_iff.1 (M.at_ hi)).1
  refine ⟨rfl, by simpa using hl, by omega, fun _ => ⟨b, 0, rfl, hlt, fun j v hj => ?_⟩⟩
  cases j with
  | zero =>
    simp only [List.getElem?_cons_zero, Option.some.injEq] at hj
    subst hj
    simpa using Cells.ofMem i M hi
  | succ j => simp at hj
theorem r_makeFuncV {fn : Fn} {first cap : List Operand} (fs cs : List Value) (h1 : first.map (ev ρ) = fs) (h2 : cap.map (ev ρ) = cs) : Ans P ρ w (.makeFunc fn first.toArray cap.toArray) (.func fn fs.toArray cs.toArray) := by
  subst h1
  subst h2
  exact r_makeFunc
theorem elt_zero (b : Nat) : elt (some ⟨b, 0, none⟩) 0 = .pointer (some ⟨b, 0, none⟩) := by simp [elt, add_none]

/-! ### min and max -/
theorem r_min2 {x y : Operand} {ts : Array TypeId} {k k' : IntKind} {a b : Int} (hx : ev ρ x = .int k a) (hy : ev ρ y = .int k' b) : Ans P ρ w (.call ⟨.builtin .min, [x, y].toArray, ts⟩) (.int k (min a b)) := fun dst ty pos af gd => by
  have : (if b < a then b else a) = min a b := by simp only [Int.min_def]; split <;> split <;> omega
  simp [execOp, hx, hy, resolve, invoke, builtin, Builtin.min_, Builtin.min2, this]
theorem r_max2 {x y : Operand} {ts : Array TypeId} {k k' : IntKind} {a b : Int} (hx : ev ρ x = .int k a) (hy : ev ρ y = .int k' b) : Ans P ρ w (.call ⟨.builtin .max, [x, y].toArray, ts⟩) (.int k (max a b)) := fun dst ty pos af gd => by
  have : (if b > a then b else a) = max a b := by simp only [Int.max_def]; split <;> split <;> omega
  simp [execOp, hx, hy, resolve, invoke, builtin, Builtin.max_, Builtin.max2, this]
/-! ### Maps with whole numbers as keys -/
section
variable {β : Type}
/-- One entry as the model keeps it. -/
def mEnt (kk : IntKind) (enc : β → Value) (p : Int × β × Nat) : MapEntry := ⟨.int kk p.1, enc p.2.1, p.2.2⟩
def lk (k : Int) : List (Int × β × Nat) → Option β
  | [] => none
  | p :: l => if p.1 = k then some p.2.1 else lk k l
def lki (k : Int) : List (Int × β × Nat) → Nat → Option (Nat × β)
  | [], _ => none
  | p :: l, i => if p.1 = k then some (i, p.2.1) else lki k l (i + 1)
theorem lki_lk (k : Int) : ∀ (l : List (Int × β × Nat)) (i : Nat), (lki k l i).map (·.2) = lk k l
  | [], _ => rfl
  | p :: l, i => by
    unfold lki lk
    split
    · rfl
    · exact lki_lk k l (i + 1)
theorem findNow_lki (kk : IntKind) (enc : β → Value) (k : Int) : ∀ (l : List (Int × β × Nat)) (i : Nat), Instr.findNow (.int kk) (.int kk k) (l.map (mEnt kk enc)) i = some ((lki k l i).map fun p => (p.1, enc p.2))
  | [], _ => rfl
  | p :: l, i => by
    simp only [List.map_cons, Instr.findNow, mEnt, Instr.sameNow, if_true]
    unfold lki
    by_cases h : p.1 = k
    · have : (k == p.1) = true := by simp [h]
      simp [this, h]
    · have : (k == p.1) = false := by simp; exact fun e => h e.symm
      simp only [this, h, if_false]
      exact findNow_lki kk enc k l (i + 1)
/-- The map object o holds f. -/
def MapO (kk : IntKind) (enc : β → Value) (f : Int → Option β) (o : Obj) : Prop :=
  ∃ (l : List (Int × β × Nat)) (clock : Nat), o = .map (l.map (mEnt kk enc)).toArray clock ∧ (l.map (·.1)).Nodup ∧ ∀ k, f k = lk k l
/-- The map value p (nil or not) lies in entry e and holds f. -/
def MapE (kk : IntKind) (enc : β → Value) (f : Int → Option β) (p : Option Nat) (e : Ent) : Prop :=
  (p = none ∧ e.1 = none ∧ ∀ k, f k = none) ∨ ∃ b o, p = some b ∧ e = (some b, o) ∧ MapO kk enc f o
theorem MapE.nil (kk : IntKind) (enc : β → Value) (o : Obj) : MapE kk enc (fun _ => none) none (none, o) := .inl ⟨rfl, rfl, fun _ => rfl⟩
theorem MapO.empty (kk : IntKind) (enc : β → Value) : MapO kk enc (fun _ => none) (.map #[] 0) := ⟨[], 0, rfl, by simp, fun _ => rfl⟩
theorem MapE.empty (kk : IntKind) (enc : β → Value) (b : Nat) : MapE kk enc (fun _ => none) (some b) (some b, .map #[] 0) := .inr ⟨b, _, rfl, rfl, MapO.empty kk enc⟩
theorem MapE.congr {kk : IntKind} {enc : β → Value} {f g : Int → Option β} {p : Option Nat} {e : Ent} (h : MapE kk enc f p e) (hfg : ∀ k, g k = f k) : MapE kk enc g p e := by
  have : g = f := funext hfg
  rw [this]; exact h

theorem lki_some {k : Int} : ∀ {l : List (Int × β × Nat)} {i j : Nat} {v : β}, lki k l i = some (j, v) → i ≤ j ∧ ∃ p, l[j - i]? = some p ∧ p.1 = k ∧ p.2.1 = v
  | [], _, _, _, h => by simp [lki] at h
  | p :: l, i, j, v, h => by
    unfold lki at h
    split at h
    · rename_i hp
      simp only [Option.some.injEq, Prod.mk.injEq] at h
      obtain ⟨rfl, rfl⟩ := h
      exact ⟨Nat.le_refl _, p, by simp, hp, rfl⟩
    · obtain ⟨h1, q, h2, h3⟩ := lki_some h
      refine ⟨by omega, q, ?_, h3⟩
      have : j - i = (j - (i + 1)) + 1 := by omega
      rw [this]
      simpa using h2
theorem lki_none {k : Int} : ∀ {l : List (Int × β × Nat)} {i : Nat}, lki k l i = none → ∀ p ∈ l, p.1 ≠ k
  | [], _, _, p, hp => by simp at hp
  | q :: l, i, h, p, hp => by
    unfold lki at h
    split at h
    · cases h
    · rename_i hq
      rcases List.mem_cons.1 hp with rfl | hp
      · exact hq
      · exact lki_none h p hp
theorem lk_append (k : Int) : ∀ (l m : List (Int × β × Nat)), lk k (l ++ m) = (lk k l).or (lk k m)
  | [], m => by simp [lk]
  | p :: l, m => by
    simp only [List.cons_append]
    have e : ∀ (q : Int × β × Nat) l, lk k (q :: l) = if q.1 = k then some q.2.1 else lk k l := fun _ _ => rfl
    rw [e, e]
    split
    · simp
    · exact lk_append k l m
theorem lk_not {k : Int} : ∀ {l : List (Int × β × Nat)}, (∀ p ∈ l, p.1 ≠ k) → lk k l = none
  | [], _ => rfl
  | p :: l, h => by
    unfold lk
    rw [if_neg (h p (by simp))]
    exact lk_not fun q hq => h q (by simp [hq])
theorem lk_set {k : Int} {v : β} : ∀ {l : List (Int × β × Nat)} {j : Nat} {p : Int × β × Nat}, l[j]? = some p → p.1 = k → (l.map (·.1)).Nodup → ∀ x, lk x (l.set j (k, v, p.2.2)) = if x = k then some v else lk x l
  | [], j, p, h, _, _, x => by simp at h
  | q :: l, 0, p, h, hp, _, x => by
    simp only [List.getElem?_cons_zero, Option.some.injEq] at h
    subst h
    simp only [List.set_cons_zero]
    unfold lk
    simp only [hp]
    by_cases hx : x = k
    · simp [hx]
    · rw [if_neg (fun e => hx (Eq.symm e)), if_neg (fun e => hx (Eq.symm e)), if_neg hx]
  | q :: l, j + 1, p, h, hp, hn, x => by
    simp only [List.getElem?_cons_succ] at h
    simp only [List.map_cons, List.nodup_cons] at hn
    have hq : q.1 ≠ k := fun e => hn.1 (by rw [e, ← hp]; exact List.mem_map.2 ⟨p, List.mem_of_getElem? h, rfl⟩)
    simp only [List.set_cons_succ]
    unfold lk
    have ih := lk_set (v := v) h hp hn.2 x
    by_cases hx : q.1 = x
    · have hxk : x ≠ k := hx ▸ hq
      simp [hx, hxk]
    · simp only [if_neg hx]; exact ih
/-- x[k], with comma-ok. -/
theorem run_look {t kt et : Nat} {kk : IntKind} {enc : β → Value} {z : β} {f : Int → Option β} {p : Option Nat} {e : Ent} {k : Int} (ht : mapB P t kt et kk = true) (hz : zeroV P et = some (enc z)) (M : Mem w0 X S w) (he : e ∈ S) (hm : MapE kk enc f p e) (c : Bool) :
    (Instr.lookup t (.map p) (.int kk k) c).run P w = .ok (if c then .tuple #[enc ((f k).getD z), .bool (f k).isSome] else enc ((f k).getD z)) w := by
  obtain ⟨h1, h2⟩ := mapB_spec ht
  have hzero : (zeroValue et).run P w = .ok (enc z) w := by
    obtain ⟨zi, hzi, hz'⟩ : ∃ zi, P.info? et = some zi ∧ zi.zero = some (enc z) := by
      unfold zeroV at hz
      cases hi : P.info? et with
      | none => simp [hi] at hz
      | some zi => exact ⟨zi, rfl, by simpa [hi] using hz⟩
    simp [zeroValue, typeInfo, hzi, hz']
  have hck : ∀ (em : Bool), (Instr.checkKey em 10000 kt (.int kk k)).run P w = .ok () w := fun em => MapKept.run_checkKey (d := .int kk) h2 (by simp [MapKept.IsKey]) em 9999
  rcases hm with ⟨rfl, _, hf⟩ | ⟨b, o, rfl, rfl, l, clock, rfl, hn, hf⟩
  · have hfk := MapKept.run_findKey (P := P) (w := w) (k := .int kk k) (l := []) (a := none) h2 rfl
    simp [Instr.lookup, run_underlying' h1, hck, hfk, hf k, hzero]
  · have hb := (M.own b _ he).1
    have hfk := MapKept.run_findKey (P := P) (w := w) h2 (findNow_lki kk enc k l 0)
    have hlk := lki_lk k l 0
    simp only [Instr.lookup, Sem.run_bind, run_underlying' h1, Result.andThen_ok, MapKept.run_getObj_map hb, Sem.run_pure, hck, List.toList_toArray, hfk]
    rw [hf k, ← hlk]
    cases hq : lki k l 0 with
    | none => cases c <;> simp [hzero]
    | some q => cases c <;> simp
theorem r_lookup1 {t kt et : Nat} {kk : IntKind} {enc : β → Value} (z : β) {x y : Operand} {f : Int → Option β} {p : Option Nat} {e : Ent} {k : Int} (i : Nat) (ht : mapB P t kt et kk = true) (hz : zeroV P et = some (enc z)) (M : Mem w0 X S w) (hi : nthE S i = some e) (hm : MapE kk enc f p e)
    (hx : ev ρ x = .map p) (hy : ev ρ y = .int kk k) : Ans P ρ w (.lookup t x y false) (enc ((f k).getD z)) := fun dst ty pos af gd => by
  simp [execOp, hx, hy, run_look (k := k) ht hz M (nthMem hi) hm false]

theorem run_setMap {i b : Nat} {o o' : Obj} (M : Mem w0 X S w) (hi : nthE S i = some (some b, o)) (hm : ∃ es c, o = .map es c) : ∃ w', (setObj b o').run P w = .ok () w' ∧ Mem w0 X (S.set i (some b, o')) w' := by
  obtain ⟨es, c, rfl⟩ := hm
  have hb := M.at_ hi
  refine ⟨_, MapKept.run_setObj_map o' hb, M.write (by rw [← nthE_eq]; exact hi) o' ⟨rfl, rfl, rfl, by simp⟩ (MapKept.heap_set hb).1 (fun c hc => (MapKept.heap_set hb).2 c hc)⟩
theorem born_modify {kk : IntKind} {enc : β → Value} {l : List (Int × β × Nat)} {j : Nat} {p : Int × β × Nat} {k : Int} {v : β} (h : l[j]? = some p) :
    (l.map (mEnt kk enc)).toArray.modify j (fun e => { e with key := .int kk k, val := enc v }) = ((l.set j (k, v, p.2.2)).map (mEnt kk enc)).toArray := by
  apply Array.ext_getElem?
  intro q
  simp only [Array.getElem?_modify, List.getElem?_toArray, List.getElem?_map, List.getElem?_set]
  by_cases hq : j = q
  · subst hq
    have hlt : j < l.length := (List.getElem?_eq_some_iff.1 h).1
    rw [h]
    simp [hlt, mEnt]
  · simp [hq]
theorem keys_set {l : List (Int × β × Nat)} {j : Nat} {p : Int × β × Nat} {k : Int} {v : β} (h : l[j]? = some p) (hp : p.1 = k) : (l.set j (k, v, p.2.2)).map (·.1) = l.map (·.1) := by
  apply List.ext_getElem?
  intro q
  simp only [List.getElem?_map, List.getElem?_set]
  by_cases hq : j = q
  · subst hq
    have hlt : j < l.length := (List.getElem?_eq_some_iff.1 h).1
    rw [h]
    simp [hlt, hp]
  · simp [hq]
/-- m[k] = v. -/
theorem wl_mapUpdate (i : Nat) {t kt et : Nat} {kk : IntKind} {enc : β → Value} {x y u : Operand} {f : Int → Option β} {p : Option Nat} {e : Ent} {k : Int} {v : β} (ht : mapB P t kt et kk = true) (M : Mem w0 X S w) (hg : gok l0 ρ gd = true) (hi : nthE S i = some e) (hm : MapE kk enc f p e) (hp : p.isSome = true)
    (hx : ev ρ x = .map p) (hy : ev ρ y = .int kk k) (hu : ev ρ u = enc v)
    (h : ∀ e' w', MapE kk enc (fun a => if a = k then some v else f a) p e' → Mem w0 X (S.set i e') w' → wl P n l0 rest Q ρ w') : wl P n l0 (⟨none, .mapUpdate t x y u, ty, pos, af, gd⟩ :: rest) Q ρ w := by
  obtain ⟨h1, h2⟩ := mapB_spec ht
  rcases hm with ⟨rfl, _⟩ | ⟨b, o, rfl, rfl, l, clock, rfl, hn, hf⟩
  · simp at hp
  · have hck : (Instr.checkKey false 10000 kt (.int kk k)).run P w = .ok () w := MapKept.run_checkKey (d := .int kk) h2 (by simp [MapKept.IsKey]) false 9999
    have hfk := MapKept.run_findKey (P := P) (w := w) h2 (findNow_lki kk enc k l 0)
    have hb := M.at_ hi
    cases hq : lki k l 0 with
    | none =>
      have hnot := lki_none hq
      obtain ⟨w', hw', M'⟩ := run_setMap (P := P) (o' := .map ((l ++ [(k, v, clock)]).map (mEnt kk enc)).toArray (clock + 1)) M hi ⟨_, _, rfl⟩
      refine wl_unit hg ?_ (h _ w' (.inr ⟨b, _, rfl, rfl, l ++ [(k, v, clock)], clock + 1, rfl, ?_, ?_⟩) M')
      · have e1 : (l.map (mEnt kk enc)).toArray.push { key := .int kk k, val := enc v, born := clock } = ((l ++ [(k, v, clock)]).map (mEnt kk enc)).toArray := by simp [mEnt]
        simp only [execOp, hx, hy, hu, Instr.mapUpdate, Sem.run_bind, run_underlying' h1, Result.andThen_ok, MapKept.run_getObj_map hb, hck, List.toList_toArray, hfk, hq, Option.map_none, e1, hw', Sem.run_pure]
      · rw [List.map_append, List.nodup_append]
        refine ⟨hn, by simp, ?_⟩
        intro a ha c hc hac
        simp only [List.map_cons, List.map_nil, List.mem_singleton] at hc
        obtain ⟨q, hq1, hq2⟩ := List.mem_map.1 ha
        exact hnot q hq1 (by rw [hq2, hac, hc])
      · intro a
        show (if a = k then some v else f a) = _
        rw [lk_append, ← hf a]
        by_cases ha : a = k
        · rw [if_pos ha, ha, hf k, lk_not hnot]
          simp [lk]
        · rw [if_neg ha]
          have : lk a [(k, v, clock)] = none := lk_not (by simpa using fun e => ha e.symm)
          rw [this]; simp
    | some q =>
      obtain ⟨j, v0⟩ := q
      obtain ⟨_, p0, hj, hp0, _⟩ := lki_some hq
      rw [Nat.sub_zero] at hj
      obtain ⟨w', hw', M'⟩ := run_setMap (P := P) (o' := .map ((l.set j (k, v, p0.2.2)).map (mEnt kk enc)).toArray clock) M hi ⟨_, _, rfl⟩
      refine wl_unit hg ?_ (h _ w' (.inr ⟨b, _, rfl, rfl, l.set j (k, v, p0.2.2), clock, rfl, by rw [keys_set hj hp0]; exact hn, fun a => by rw [lk_set hj hp0 hn a, ← hf a]⟩) M')
      have hold : ((((l.map (mEnt kk enc)).toArray[j]?).map (·.key)).getD (.int kk k)) = .int kk k := by simp [hj, mEnt, hp0]
      have hkey : (Instr.keyThatStays (.int kk k) (.int kk k)).run P w = .ok (.int kk k) w := MapKept.run_keyThatStays (d := .int kk) (by simp [MapKept.IsKey])
      simp only [execOp, hx, hy, hu, Instr.mapUpdate, Sem.run_bind, run_underlying' h1, Result.andThen_ok, MapKept.run_getObj_map hb, hck, List.toList_toArray, hfk, hq, Option.map_some, hold, hkey, born_modify hj, hw', Sem.run_pure]
end
theorem wl_makeMap {t : Nat} (M : Mem w0 X S w) (hg : gok l0 ρ gd = true) (hd : Nat.blt d n = true)
    (h : ∀ b w', Mem w0 X (S ++ [(some b, .map #[] 0)]) w' → wl P n l0 rest Q (upd ρ d (.map (some b))) w') : wl P n l0 (⟨some d, .makeMap t none, ty, pos, af, gd⟩ :: rest) Q ρ w := by
  refine wl_val hg hd ?_ (h w.heap.size _ (M.alloc (.map #[] 0)))
  simp [execOp, Instr.makeMap]

/-! ### Interfaces -/
/-! ### Results that lie in cells -/
end
end Go.Bil

/- Stores into rows; prefixes of rows; append of whatever can be read; results in cells. -/
set_option linter.unusedVariables false
set_option linter.unusedSimpArgs false
namespace Go.Bil
open Go.RowKit (Below)

/-! ### Lists of cells -/
theorem setL_at : ∀ (vs l : List Value) (o : Nat), o + vs.length ≤ l.length → setL l o vs = l.take o ++ vs ++ l.drop (o + vs.length) := by
  intro vs
  induction vs with
  | nil => intro l o h; simp [setL]
  | cons v vs ih =>
    intro l o h
    simp only [List.length_cons] at h
    simp only [setL]
    rw [ih _ _ (by simp; omega)]
    apply List.ext_getElem?
    intro q
    simp only [List.getElem?_append, List.length_append, List.length_take, List.length_set, List.getElem?_take, List.getElem?_set, List.getElem?_drop, List.length_cons]
    grind
theorem flat_set {sz : Nat} : ∀ (ls : List (List Value)) (k o : Nat) (l v : List Value), (∀ l ∈ ls, l.length = sz) → ls[k]? = some l → o + v.length ≤ sz → setL ls.flatten (k * sz + o) v = (ls.set k (setL l o v)).flatten
  | [], k, o, l, v, _, h, _ => by simp at h
  | x :: ls, 0, o, l, v, he, h, hv => by
    simp only [List.getElem?_cons_zero, Option.some.injEq] at h
    subst h
    have hx := he x (by simp)
    simp only [Nat.zero_mul, Nat.zero_add, List.flatten_cons, List.set_cons_zero]
    rw [setL_at _ _ _ (by simp; omega), setL_at _ _ _ (by omega)]
    rw [List.take_append_of_le_length (by omega), List.drop_append_of_le_length (by omega)]
    simp
  | x :: ls, k + 1, o, l, v, he, h, hv => by
    simp only [List.getElem?_cons_succ] at h
    have hx := he x (by simp)
    have ih := flat_set ls k o l v (fun l hl => he l (by simp [hl])) h hv
    simp only [List.flatten_cons, List.set_cons_succ]
    rw [← ih]
    have hl : l.length = sz := he l (by simp [List.mem_of_getElem? h])
    have hk : k < ls.length := (List.getElem?_eq_some_iff.1 h).1
    have hfl := flat_len ls sz (fun l hl => he l (by simp [hl]))
    have hle : k * sz + sz ≤ ls.length * sz := by
      have := Nat.mul_le_mul_right sz (show k + 1 ≤ ls.length by omega)
      rwa [Nat.add_mul, Nat.one_mul] at this
    rw [setL_at _ _ _ (by rw [List.length_append, hfl, Nat.add_mul, Nat.one_mul, hx]; omega), setL_at _ _ _ (by omega)]
    rw [show (k + 1) * sz + o = x.length + (k * sz + o) by rw [Nat.add_mul, Nat.one_mul, hx]; omega]
    rw [List.take_length_add_append, show x.length + (k * sz + o) + v.length = x.length + (k * sz + o + v.length) by omega, List.drop_length_add_append]
    simp

section
variable {P : Program} {n : Nat} {Q : Exit → Rho → World → Prop} {ρ : Rho} {w : World} {l0 rest : List Oper}
variable {d : Nat} {ty : TypeId} {pos : String} {af : Array Edge} {gd : Option (Nat × Bool)}
variable {w0 : World} {X : List Nat} {S : List Ent}

theorem RowIs.put {T sz : Nat} {A : Option Addr} {m c : Nat} {ls : List (List Value)} {b : Nat} {L : List Value} {k o : Nat} {l v : List Value} (hR : RowIs T sz A m c ls (some b, bc L T)) (hl : ls[k]? = some l) (hv : o + v.length ≤ sz) :
    RowIs T sz A m c (ls.set k (setL l o v)) (some b, bc (setL L (k * sz + o) v) T) := by
  obtain ⟨r1, r2, r3, r4⟩ := hR
  have hlen := r2 l (List.mem_of_getElem? hl)
  have hk : k < m := by rw [← r1]; exact (List.getElem?_eq_some_iff.1 hl).1
  refine ⟨by simpa using r1, fun x hx => ?_, r3, ?_⟩
  · rcases List.mem_or_eq_of_mem_set hx with h | h
    · exact r2 x h
    · rw [h, setL_length]; exact hlen
  · rcases r4 with ⟨_, h, _⟩ | ⟨b', L', rfl, hb, hmc, hL, hT⟩
    · omega
    · injection hb with hb1 hb2
      injection hb1 with hb1
      subst hb1
      have hLL : L = L' := by
        simp only [bc, Obj.cells.injEq] at hb2
        simpa using hb2.1
      subst hLL
      refine .inr ⟨b, _, rfl, rfl, hmc, by rw [setL_length, hL], ?_⟩
      have hle : k * sz + sz ≤ m * sz := by
        have := Nat.mul_le_mul_right sz (show k + 1 ≤ m by omega)
        rwa [Nat.add_mul, Nat.one_mul] at this
      have hmL : m * sz ≤ L.length := by rw [hL]; exact Nat.mul_le_mul_right sz hmc
      rw [← flat_set ls k o l v r2 hl hv, ← hT]
      rw [setL_at _ _ _ (by omega), setL_at _ _ _ (by simp; omega)]
      apply List.ext_getElem?
      intro q
      simp only [List.getElem?_append, List.length_append, List.length_take, List.getElem?_take, List.getElem?_drop, List.length_drop]
      grind
theorem RowIs.block {T sz : Nat} {A : Option Addr} {m c : Nat} {ls : List (List Value)} {e : Ent} (hR : RowIs T sz A m c ls e) (hm : 0 < m) : ∃ b L, A = some ⟨b, 0, none⟩ ∧ e = (some b, bc L T) ∧ L.length = c * sz ∧ m ≤ c := by
  rcases hR.2.2.2 with ⟨_, h, _⟩ | ⟨b, L, h1, h2, h3, h4, _⟩
  · omega
  · exact ⟨b, L, h1, h2, h4, h3⟩
/-- x[k].f = v, v of one cell. -/
theorem wl_stR1 (i : Nat) {T T' : TypeId} {x y : Operand} {A : Option Addr} {k o sz m c : Nat} {ls : List (List Value)} {l : List Value} {e : Ent} (v : Value) (hT : oneB P T = true) (M : Mem w0 X S w) (hi : nthE S i = some e) (hR : RowIs T' sz A m c ls e) (hl : ls[k]? = some l) (hg : gok l0 ρ gd = true)
    (hx : ev ρ x = elt A (k * sz + o)) (hy : ev ρ y = v) (h1 : one v = true) (hv : Nat.ble (o + 1) sz = true)
    (h : ∀ e' w', RowIs T' sz A m c (ls.set k (l.set o v)) e' → Mem w0 X (S.set i e') w' → wl P n l0 rest Q ρ w') : wl P n l0 (⟨none, .store T x y, ty, pos, af, gd⟩ :: rest) Q ρ w := by
  have hk : k < m := by rw [← hR.1]; exact (List.getElem?_eq_some_iff.1 hl).1
  obtain ⟨b, L, rfl, rfl, hL, hmc⟩ := hR.block (by omega)
  have hv' : o + 1 ≤ sz := Nat.le_of_ble_eq_true hv
  have hle : k * sz + sz ≤ c * sz := by
    have := Nat.mul_le_mul_right sz (show k + 1 ≤ c by omega)
    rwa [Nat.add_mul, Nat.one_mul] at this
  obtain ⟨v0, hv0⟩ : ∃ v0, nth L (k * sz + o) = some v0 := by
    rw [nth_eq]
    exact ⟨L[k * sz + o]'(by rw [hL]; omega), List.getElem?_eq_getElem _⟩
  have hp := hR.put (v := [v]) (o := o) hl (by simpa using hv')
  refine wl_st i v hT M hg (b := b) (off := k * sz + o) (by rw [hx]; simp [elt, add_none]) hy h1 hi (by rw [hv0]; rfl) (fun w' M' => h _ w' hp M')
/-- x[k] = v, elements of one cell. -/
theorem wl_stR0 (i : Nat) {T T' : TypeId} {x y : Operand} {A : Option Addr} {k m c : Nat} {ls : List (List Value)} {l : List Value} {e : Ent} (v : Value) (hT : oneB P T = true) (M : Mem w0 X S w) (hi : nthE S i = some e) (hR : RowIs T' 1 A m c ls e) (hl : ls[k]? = some l) (hg : gok l0 ρ gd = true)
    (hx : ev ρ x = elt A (k * 1)) (hy : ev ρ y = v) (h1 : one v = true)
    (h : ∀ e' w', RowIs T' 1 A m c (ls.set k [v]) e' → Mem w0 X (S.set i e') w' → wl P n l0 rest Q ρ w') : wl P n l0 (⟨none, .store T x y, ty, pos, af, gd⟩ :: rest) Q ρ w :=
  wl_stR1 (o := 0) i v hT M hi hR hl hg (by simpa using hx) hy h1 rfl (fun e' w' hR' M' => h e' w' (by
    have hlen := hR.2.1 l (List.mem_of_getElem? hl)
    obtain ⟨u, rfl⟩ : ∃ u, l = [u] := by
      match l, hlen with
      | [u], _ => exact ⟨u, rfl⟩
    simpa using hR') M')

theorem RowIs.mapSet {α : Type} {f : α → List Value} {T sz : Nat} {A : Option Addr} {m c i : Nat} {ls : List α} {l : List Value} {x : α} {e : Ent} (hR : RowIs T sz A m c ((ls.map f).set i l) e) (hl : l = f x) : RowIs T sz A m c ((ls.set i x).map f) e := by
  subst hl
  rwa [List.map_set]
/-- The first h elements of a row. -/
theorem RowIs.pre {T sz : Nat} {A : Option Addr} {m c : Nat} {ls : List (List Value)} {e : Ent} (hR : RowIs T sz A m c ls e) (h : Nat) (hh : h ≤ m) : RowIs T sz (subA A c 0 sz) (h - 0) (c - 0) (ls.take h) e := by
  obtain ⟨r1, r2, r3, r4⟩ := hR
  refine ⟨by simp [r1, hh], fun l hl => r2 l (List.mem_of_mem_take hl), by omega, ?_⟩
  rcases r4 with ⟨rfl, h1, h2, h3⟩ | ⟨b, L, rfl, rfl, hmc, hL, hT⟩
  · exact .inl ⟨by simp [subA], by omega, by omega, h3⟩
  · refine .inr ⟨b, L, ?_, rfl, by omega, by simpa using hL, ?_⟩
    · unfold subA; split <;> simp [add_none]
    · have hle : h * sz ≤ m * sz := Nat.mul_le_mul_right sz hh
      have hf : (ls.take h).flatten = ls.flatten.take (h * sz) := by
        have e1 : ls.flatten = (ls.take h).flatten ++ (ls.drop h).flatten := by rw [← List.flatten_append, List.take_append_drop]
        have e2 : (ls.take h).flatten.length = h * sz := by
          rw [flat_len _ sz (fun l hl => r2 l (List.mem_of_mem_take hl)), List.length_take, r1, Nat.min_eq_left hh]
        rw [e1, ← e2, List.take_left]
      rw [hf, ← hT, List.take_take, Nat.sub_zero, Nat.min_eq_left hle]

/-! ### append of whatever can be read -/
theorem cells_flat {b sz : Nat} : ∀ (ls : List (List Value)) (off : Nat), (∀ l ∈ ls, l.length = sz) → (∀ (i : Nat) l, ls[i]? = some l → Cells w b (off + i * sz) l) → Cells w b off ls.flatten
  | [], off, _, _ => fun j v hj => by simp at hj
  | x :: ls, off, he, h => by
    have hx := he x (by simp)
    have h0 := h 0 x (by simp)
    have ih := cells_flat ls (off + sz) (fun l hl => he l (by simp [hl])) (fun i l hl => by
      have := h (i + 1) l (by simpa using hl)
      rwa [Nat.add_mul, Nat.one_mul, Nat.add_comm (i * sz), ← Nat.add_assoc] at this)
    intro j v hj
    simp only [List.flatten_cons, List.getElem?_append] at hj
    split at hj
    · simpa using h0 j v hj
    · rename_i hlt
      have := ih (j - x.length) v hj
      rwa [show off + sz + (j - x.length) = off + j by omega] at this
theorem loadCells_0 (a : Addr) (w : World) : (loadCells a 0).run P w = .ok #[] w := by simp [loadCells, loadCellsFrom]
theorem wl_appendR (i : Nat) {t e sz bytes : Nat} {x y : Operand} {A A2 : Option Addr} {m c : Nat} {ls : List (List Value)} {en : Ent} {k c2 : Nat} (ys : List (List Value))
    (ht : sliceB P t e sz bytes = true) (M : Mem w0 X S w) (hg : gok l0 ρ gd = true) (hd : Nat.blt d n = true) (hx : ev ρ x = .slice A m c) (hy : ev ρ y = .slice A2 k c2) (hi : nthE S i = some en) (hR : RowIs e sz A m c ls en)
    (R2 : Rd w sz A2 k ys) (hys : ∀ y ∈ ys, ∀ u ∈ y, one u = true) (hb : (m + k) * bytes ≤ 140737488355328)
    (h : ∀ A' c' en' w', Mem w0 X (S.set i en') w' → RowIs e sz A' (m + k) c' (ls ++ ys) en' → (A.isSome = true → A'.isSome = true) → wl P n l0 rest Q (upd ρ d (.slice A' (m + k) c')) w') :
    wl P n l0 (⟨some d, .call ⟨.builtin .append, [x, y].toArray, [t, t].toArray⟩, ty, pos, af, gd⟩ :: rest) Q ρ w := by
  by_cases hk : k = 0
  · subst hk
    have hy0 : ys = [] := List.eq_nil_of_length_eq_zero R2.len
    subst hy0
    obtain ⟨h1, h2, h3, h4, h5, h6, zv, hzv, hzs⟩ := sliceB_spec ht
    have hmc := hR.slice
    have hf : (Builtin.firstCells sz 0 (.slice A2 0 c2)).run P w = .ok #[] w := by
      cases A2 with
      | none => simp [Builtin.firstCells]
      | some a => simp [Builtin.firstCells, loadCells_0]
    have hrun : (Builtin.append_ #[t, t] ty #[.slice A m c, .slice A2 0 c2]).run P w = .ok (.slice A m c) w := by
      cases A with
      | none => simp [Builtin.append_, run_underlying' h1, run_sizeOf' h2, h3, Builtin.lenOf, hf, hmc]
      | some a => simp [Builtin.append_, run_underlying' h1, run_sizeOf' h2, h3, Builtin.lenOf, hf, hmc, storeCells]
    refine wl_val hg hd (v := .slice A (m + 0) c) (by simp [execOp, hx, hy, resolve, invoke, builtin, hrun]) (h A c en w ?_ (by simpa using hR) id)
    have hi' := hi
    rw [nthE_eq] at hi'
    have e : S.set i en = S := by
      refine List.ext_getElem? fun q => ?_
      by_cases hq : i = q
      · subst hq; rw [List.getElem?_set_self (List.getElem?_eq_some_iff.1 hi').1, hi']
      · rw [List.getElem?_set_ne hq]
    rw [e]; exact M
  · obtain ⟨b2, off2, rfl, _, hc⟩ := R2.at_ (by omega)
    exact wl_append i ys ht M hg hd hx hy hi hR R2.len (fun y hy => ⟨R2.each y hy, hys y hy⟩) (cells_flat ys off2 R2.each hc) hb (fun A' c' en' w' M' hR' => h A' c' en' w' M' hR' (fun _ => by
      obtain ⟨b, L, hA, _⟩ := hR'.block (by omega)
      rw [hA]; rfl))
/-- An empty block that a literal has made, as a row. -/
theorem RowIs.empty {T sz : Nat} (b : Nat) : RowIs T sz (some ⟨b, 0, none⟩) 0 0 [] (some b, bc [] T) := ⟨rfl, by simp, by omega, .inr ⟨b, [], rfl, rfl, by omega, by simp, by simp⟩⟩

/-! ### Results in cells -/
theorem finC1 {R : Value → World → Prop} {a : Nat} {T m : Nat} {l : List Value} {b : Nat} {T' : TypeId} (i : Nat) (hT : aggN P T = some m) (M : Mem w0 X S w) (hx : ρ a = .pointer (some ⟨b, 0, none⟩)) (hi : nthE S i = some (some b, bc l T')) (hl : l.length = m) (h : R (.agg l.toArray) w) :
    finQ P #[.cell a T] R .ret ρ w := by
  have hv := run_loadVarA (P := P) (w := w) hT hl (Cells.ofMem i M hi)
  exact ⟨_, by simp [resM, hx, asAddr, hv], h⟩
theorem Mem.ownAt {i : Nat} {e : Ent} (M : Mem w0 X S w) (hi : nthE S i = some e) : Own [e] w := by
  refine ⟨fun b o hb => ?_, ?_⟩
  · simp only [List.mem_singleton] at hb
    subst hb
    exact M.at_ hi
  · obtain ⟨b, o⟩ := e
    cases b <;> simp [blks]
theorem Rd.memY {sz nn : Nat} {A : Option Addr} {ls : List (List Value)} (h : Rd w0 sz A nn ls) (M : Mem w0 X S w) (hX : 0 < nn → ∀ q off, A = Option.some ⟨q, off, none⟩ → q ∉ X) : Rd w sz A nn ls := by
  by_cases hn : 0 < nn
  · exact h.memX M (hX hn)
  · exact ⟨h.len, h.each, h.bound, fun h' => absurd h' hn⟩
/-- What was there ahead, and was not handed over, is none of the blocks that are owned now. -/
theorem Mem.away {sz nn : Nat} {A : Option Addr} {ls : List (List Value)} (i k : Nat) (M : Mem w0 X S w) (R : Rd w0 sz A nn ls) (hd : 0 < nn → ∀ q off, A = some ⟨q, off, none⟩ → q ∉ X) : 0 < nn → ∀ q off, A = some ⟨q, off, none⟩ → q ∉ blks ((S.drop i).take k) := by
  intro hn q off hA hq
  obtain ⟨o, ho⟩ := mem_blks.1 hq
  have ho' : (some q, o) ∈ S := (List.drop_sublist i S).subset ((List.take_sublist k _).subset ho)
  obtain ⟨b, off', hA', hlt, _⟩ := R.at_ hn
  rw [hA] at hA'
  injection hA' with hA'
  injection hA' with hA'
  subst hA'
  rcases (M.own q o ho').2 with h | h
  · omega
  · exact hd hn q off hA h
theorem Mem.ownSeg (i k : Nat) (M : Mem w0 X S w) : Own ((S.drop i).take k) w :=
  (M.sub ((List.take_sublist k _).trans (List.drop_sublist i S))).toOwn
theorem rowLit {T sz : Nat} {b nn : Nat} (ls : List (List Value)) (h : ∀ l ∈ ls, l.length = sz) (hn : ls.length = nn) (hb : nn ≤ 281474976710656) : RowIs T sz (some ⟨b, 0, none⟩) nn nn ls (some b, bc ls.flatten T) :=
  ⟨hn, h, hb, .inr ⟨b, _, rfl, rfl, Nat.le_refl _, by rw [flat_len ls sz h, hn], List.take_of_length_le (by rw [flat_len ls sz h, hn]; exact Nat.le_refl _)⟩⟩
/-! ### A variable, the world told outright -/
theorem wl_boxE {T : TypeId} {x : Operand} (v : Value) (M : Mem w0 X S w) (hg : gok l0 ρ gd = true) (hd : Nat.blt d n = true) (hx : ev ρ x = v)
    (h : Mem w0 X (S ++ [(some w.heap.size, bc (vcells v) T)]) { w with heap := w.heap.push (bc (vcells v) T) } → wl P n l0 rest Q (upd ρ d (.pointer (some ⟨w.heap.size, 0, none⟩))) { w with heap := w.heap.push (bc (vcells v) T) }) : wl P n l0 (⟨some d, .box T x, ty, pos, af, gd⟩ :: rest) Q ρ w := by
  refine wl_val hg hd ?_ (h (M.alloc _))
  simp [execOp, hx, Instr.box, newVar, newRow, bc, vcells_eq]

/-! ### maps.Clone's inner function, which the model answers itself -/
end
end Go.Bil
