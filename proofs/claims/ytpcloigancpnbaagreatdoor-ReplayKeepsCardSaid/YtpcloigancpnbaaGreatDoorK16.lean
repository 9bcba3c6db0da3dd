/- Part of the proof of a law of this seat (1 texts). No conditions. -/
import Derived.Test.YtpcloigancpnbaaGreatDoorK2
import Derived.Shelf.SlSortCmp.NoneTotal
set_option linter.unusedVariables false
set_option linter.unusedSimpArgs false
set_option linter.unnecessarySimpa false
set_option maxHeartbeats 100000000
namespace Go.Bil
open Go.RowKit (Below)
open Go.Proofs Go.Sort Go.Shelf
section
variable {α : Type} [Inhabited α]
theorem aSu {k : Nat} (hk : 0 < k) (ls : List (List Value)) (he : ∀ l ∈ ls, l.length = k) (t : Nat) (ht : t < ls.length * k) : ∃ l v, ls[t / k]? = some l ∧ l[t % k]? = some v ∧ ls.flatten[t]? = some v := by
  have h1 : t / k < ls.length := (Nat.div_lt_iff_lt_mul hk).2 ht
  have hl : ls[t / k]? = some (ls[t / k]'h1) := List.getElem?_eq_getElem h1
  have hlen := he _ (List.mem_of_getElem? hl)
  have hm : t % k < k := Nat.mod_lt _ hk
  refine ⟨_, (ls[t / k]'h1)[t % k]'(by omega), hl, List.getElem?_eq_getElem _, ?_⟩
  have hf := aMh ls k he (t / k) _ hl
  have h2 : (ls[t / k]'h1)[t % k]? = some ((ls[t / k]'h1)[t % k]'(by omega)) := List.getElem?_eq_getElem _
  rw [← h2]
  conv => rhs; rw [← hf]
  rw [List.getElem?_take_of_lt hm, List.getElem?_drop, Nat.div_add_mod']
theorem aPg (enc : α → List Value) {k : Nat} (hk : ∀ x, (enc x).length = k) (d : Array α) : flatK enc k d = ((d.toList.map enc).flatten).toArray := by
  have he : ∀ l ∈ d.toList.map enc, l.length = k := by
    intro l hl
    obtain ⟨x, _, rfl⟩ := List.mem_map.1 hl
    exact hk x
  apply Array.ext_getElem?
  intro t
  by_cases ht : t < d.size * k
  · have k0 : 0 < k := by rcases Nat.eq_zero_or_pos k with h | h; · subst h; simp at ht
                          · exact h
    obtain ⟨l, v, h1, h2, h3⟩ := aSu k0 _ he t (by simpa using ht)
    simp only [List.getElem?_toArray, h3]
    have hs : t < (flatK enc k d).size := by simpa using ht
    have hg := get_flatK enc k d t ht
    rw [getElem!_pos _ t hs] at hg
    rw [Array.getElem?_eq_getElem hs, hg]
    simp only [List.getElem?_map, Option.map_eq_some_iff] at h1
    obtain ⟨x, hx, rfl⟩ := h1
    have hx' : d[t / k]? = some x := by simpa using hx
    have hd : d[t / k]! = x := by simp [Array.getElem!_eq_getD, Array.getD_eq_getD_getElem?, hx']
    rw [hd]
    simp [List.getElem!_eq_getElem?_getD, h2]
  · have h1 : (flatK enc k d).size ≤ t := by simpa using Nat.le_of_not_lt ht
    rw [Array.getElem?_eq_none h1, List.getElem?_toArray, List.getElem?_eq_none (by rw [iA _ k he]; simpa using Nat.le_of_not_lt ht)]
theorem bAk {enc : α → List Value} {k T n c b : Nat} (hk : ∀ x, (enc x).length = k) {w : World} {xs : List α} {e : eL} (hk1 : k ≠ 1) (hR : aZ T k (some ⟨b, 0, none⟩) n c (xs.map enc) e) (hO : Own [e] w) (hn : 0 < n) : HoldsK enc k w b 0 xs.toArray ∧ b < w.heap.size := by
  obtain ⟨b', L, hA, rfl, hL, hnc⟩ := hR.block1 hk1 hn
  injection hA with hA
  injection hA with hA
  subst hA
  have hb := hO.own b (bc L T) (by simp)
  refine ⟨?_, (Array.getElem?_eq_some_iff.1 hb).1⟩
  rcases hR.2.2.2 with ⟨h, _⟩ | ⟨b2, L2, fr2, h1, h2, _, _, _, hT⟩
  · cases h
  · injection h2 with _ h2
    have hLL : L = L2 := by simp only [bc, bm, Obj.cells.injEq] at h2; simpa using h2.1
    subst hLL
    intro j hj
    rw [aPg enc hk] at hj ⊢
    simp only [List.size_toArray] at hj
    have hj' : ((xs.map enc).flatten)[j]? = some ((xs.map enc).flatten)[j] := List.getElem?_eq_getElem hj
    have hlen : (xs.map enc).flatten.length = n * k := by rw [iA _ k hR.2.1, hR.1]
    refine ⟨?_, ?_⟩
    · rw [lD hb, Nat.zero_add]
      have : L[j]? = ((xs.map enc).flatten)[j]? := by rw [← hT, List.getElem?_take_of_lt (by omega)]
      rw [this, hj']
      have hq : ((xs.map enc).flatten.toArray)[j]! = (xs.map enc).flatten[j] := by
        rw [getElem!_pos _ j (by simpa using hj)]
        simp
      rw [hq]
      rfl
    · exact aFq hb
theorem aUb {enc : α → List Value} {k T n c b : Nat} (hk : ∀ x, (enc x).length = k) {w : World} {xs : List α} {e : eL} (hk1 : k ≠ 1) (hR : aZ T k (some ⟨b, 0, none⟩) n c (xs.map enc) e) (hO : Own [e] w) (hn : 0 < n) (m : Nat) (os : Array Obj) (d' : Array α) (hd : d'.size = n) :
    ∃ e', aZ T k (some ⟨b, 0, none⟩) n c (d'.toList.map enc) e' ∧ Mem w (bY [e]) [e'] (sortWorldK enc k w b 0 m d' os) := by
  obtain ⟨b', L, hA, rfl, hL, hnc⟩ := hR.block1 hk1 hn
  injection hA with hA
  injection hA with hA
  subst hA
  have hb := hO.own b (bc L T) (by simp)
  have hlt := (Array.getElem?_eq_some_iff.1 hb).1
  have he : ∀ l ∈ d'.toList.map enc, l.length = k := by
    intro l hl
    obtain ⟨x, _, rfl⟩ := List.mem_map.1 hl
    exact hk x
  have hF : (d'.toList.map enc).flatten.length = n * k := by rw [iA _ k he]; simp [hd]
  have hmc : n * k ≤ c * k := Nat.mul_le_mul_right k hnc
  have hnew : (sortWorldK enc k w b 0 m d' os).heap[b]? = some (bc ((d'.toList.map enc).flatten ++ L.drop (n * k)) T) := by
    have hs : b < (putRowK enc k (Go.Sort.ahead w m) b 0 d').heap.size := by
      simp only [putRowK, putRow, mapBlock, Array.size_modify]
      exact hlt
    rw [show sortWorldK enc k w b 0 m d' os = grow (putRowK enc k (Go.Sort.ahead w m) b 0 d') os from rfl, heap_grow_old _ _ hs]
    simp only [putRowK, putRow, mapBlock, Array.getElem?_modify, if_true]
    rw [show (Go.Sort.ahead w m).heap[b]? = w.heap[b]? from rfl, hb]
    simp only [bc, Option.map_some, onCells, aPg enc hk, putCells, Option.some.injEq, Obj.cells.injEq, and_true]
    apply Array.ext_getElem?
    intro q
    simp only [Array.getElem?_mapIdx, List.getElem?_toArray, List.getElem?_append, List.getElem?_drop, List.size_toArray, hF, Nat.zero_le, true_and, Nat.zero_add, Nat.sub_zero]
    by_cases hq : q < n * k
    · simp only [if_pos hq]
      have h1 : L[q]? = some L[q] := List.getElem?_eq_getElem (by omega)
      rw [h1, List.getElem?_eq_getElem (by omega)]
      simp [hF, hq]
    · simp only [if_neg hq, show n * k + (q - n * k) = q by omega]
      cases L[q]? <;> simp
  refine ⟨(some b, bc ((d'.toList.map enc).flatten ++ L.drop (n * k)) T), ⟨by simp [hd], he, hR.2.2.1, .inr ⟨b, _, (0, 0), rfl, rfl, .inl rfl, hnc, ?_, ?_⟩⟩, ?_⟩
  · rw [List.length_append, hF, List.length_drop, hL]; omega
  · rw [List.take_append_of_le_length (by omega), List.take_of_length_le (by omega)]
  · refine ⟨rfl, rfl, rfl, ?_, ?_, ?_, by simp [bY]⟩
    · simp only [sortWorldK, grow, putRowK, putRow, mapBlock, Array.size_append, Array.size_modify]
      exact Nat.le_add_right _ _
    · intro q hq hX
      have hne : b ≠ q := by intro e; subst e; simp [bY] at hX
      have hs : q < (putRowK enc k (Go.Sort.ahead w m) b 0 d').heap.size := by
        simp only [putRowK, putRow, mapBlock, Array.size_modify]
        exact hq
      rw [show sortWorldK enc k w b 0 m d' os = grow (putRowK enc k (Go.Sort.ahead w m) b 0 d') os from rfl, heap_grow_old _ _ hs]
      simp only [putRowK, putRow, mapBlock, Array.getElem?_modify, if_neg hne]
      rfl
    · intro q o hq
      simp only [List.mem_singleton, Prod.mk.injEq, Option.some.injEq] at hq
      obtain ⟨rfl, rfl⟩ := hq
      exact ⟨hnew, .inr (by simp [bY])⟩
def aVc (P : Program) (g : Nat) (enc : α → List Value) (cf : α → α → Int) : Prop :=
  ∀ (x y : α) (w : World), Calls P g #[.agg (enc x).toArray, .agg (enc y).toArray] w (fun e w' => ∃ v, e = .returned v ∧ v = .int .i64 (cf x y) ∧ ∃ q os, w' = grow (w.drewN q) os)
theorem xD {P : Program} {r : Ren} (L : SlLaysF0.n6 P r) {k T n c : Nat} (hT : jA P (r.t 24) = some k) (enc : α → List Value) (hk : ∀ x, (enc x).length = k) (h1 : ∀ x, ∀ v ∈ enc x, v.oneCell' = true) (cf : α → α → Int) (hO : SWO (ltOf cf)) (g : Nat)
    (eg : aW P g = true) (hc : aVc P g enc cf) (w : World) (A : Option Addr) (xs : List α) (e : eL) (hR : aZ T k A n c (xs.map enc) e) (hw : Own [e] w) (hn : n < 4611686018427387904) (hk1 : k ≠ 1 := by decide) :
    Calls P (r.f 6) #[.slice A n c, .func (.func g) #[] #[]] w (fun ex w' => ∃ v, ex = .returned v ∧ v = .tuple #[] ∧ ∃ (ys : List α) (e' : eL), ys.Perm xs ∧ (∀ (i j : Nat) (x y : α), i < j → ys[i]? = some x → ys[j]? = some y → ltOf cf y x = false) ∧ aZ T k A n c (ys.map enc) e' ∧ Mem w (bY [e]) [e'] w') := by
  by_cases h0 : n = 0
  · subst h0
    have hx : xs = [] := by have := hR.1; simpa using this
    subst hx
    refine (AnyF.slices_SortFunc_none L A c _ w).mono ?_
    rintro ex w' ⟨rfl, rfl⟩
    exact ⟨_, rfl, rfl, [], e, List.Perm.refl _, fun i j x y _ h => by simp at h, hR, hw.mem⟩
  · obtain ⟨b, L', rfl, rfl, hL, hnc⟩ := hR.block1 hk1 (by omega)
    obtain ⟨hh, hlt⟩ := bAk hk hk1 hR hw (by omega)
    have hlen : xs.toArray.size = n := by have := hR.1; simpa using this
    have eg' : ∀ args w, (callFunc g args).run P w = .ok (.enter g args) w := by
      unfold aW at eg
      cases hfn : P.funcs[g]? with
      | none => simp [hfn] at eg
      | some fn =>
        simp only [hfn, Bool.and_eq_true, Bool.not_eq_true'] at eg
        have hb' : ¬ fn.body = Option.none := by intro e; rw [e] at eg; simp at eg
        have hnm' : ¬ fn.name = "runtime.NumGoroutine" := by simpa using eg.2
        intro args w
        simp [callFunc, hfn, hnm', hb']
    have hcl : CmpLays P g #[] enc k cf b 0 xs.toArray.size w := fun m os dk _ x y => by
      have := hc x y (sortWorldK enc k w b 0 m dk os)
      refine Calls.mono (by simpa using this) ?_
      rintro ex w' ⟨v, rfl, rfl, q, os', rfl⟩
      exact ⟨Z, q, os', Z⟩
    have hs := AnyQ.slices_SortFunc L k (fun w => (pR hT w).1) (fun w => by rw [eI (pR hT w).2.2, (pR hT w).2.1]) enc hk h1 cf hO g #[] b 0 c xs.toArray w eg' hcl hh hlt (by omega)
    rw [hlen] at hs
    refine hs.mono ?_
    rintro ex w' ⟨rfl, d', m, os, hp, hsort, rfl⟩
    obtain ⟨hsz, _, hperm⟩ := hp
    have hsz' : d'.size = n := by rw [hsz, hlen]
    obtain ⟨e', hR', M'⟩ := aUb hk hk1 hR hw (by omega) m os d' hsz'
    refine ⟨_, Z, Z, d'.toList, e', ?_, ?_, hR', M'⟩
    · have e1 : (d'.extract 0 n).toList = d'.toList := by rw [← hsz', Array.extract_size]
      have e2 : (xs.toArray.extract 0 n).toList = xs := by rw [← hlen, Array.extract_size]
      rwa [e1, e2] at hperm
    · intro i j x y hij hx hy
      have hj : j < n := by rw [← hsz', ← Array.length_toList]; exact (List.getElem?_eq_some_iff.1 hy).1
      have := hsort i j (Nat.zero_le _) hij hj
      have gx : d'[i]! = x := by
        have : d'[i]? = some x := by simpa using hx
        simp [Array.getElem!_eq_getD, Array.getD_eq_getD_getElem?, this]
      have gy : d'[j]! = y := by
        have : d'[j]? = some y := by simpa using hy
        simp [Array.getElem!_eq_getD, Array.getD_eq_getD_getElem?, this]
      rwa [gx, gy] at this
end
end Go.Bil
