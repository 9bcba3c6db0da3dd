/- The plain side of layer 6's laws. -/
import Derived.Test.YtfgbmegchdjfeaaDoorMd4
set_option linter.unusedVariables false
namespace Go.Bil

structure StV where
  A : Option Addr
  n : Nat
  c : Nat
  p : Option Nat
  er : Ent
  em : Ent
def addsM (l : List Body) : List Body := l.foldl (fun m b => (addM m b).1) []
theorem addsM_snoc {l : List Body} {k : Nat} {x : Body} (h : l[k]? = some x) : addsM (l.take (k + 1)) = (addM (addsM (l.take k)) x).1 := by
  unfold addsM
  rw [take_snoc h, List.foldl_append]
  rfl
theorem addsM_rel : ∀ l : List Body, Rel (addsM l) (allR l) := by
  have key : ∀ (l m s : List Body), Rel m s → Rel (l.foldl (fun m b => (addM m b).1) m) (l.foldl (fun s b => (addR s b).1) s) := by
    intro l
    induction l with
    | nil => intro m s h; exact h
    | cons b l ih => intro m s h; exact ih _ _ (h.add b).1
  exact fun l => key l [] [] Rel.nil
def valid (l : List Body) : List Body := l.filter (fun b => decide (check b = 0))
theorem addM_new {m : List Body} {x : Body} (hf : ∀ b ∈ m, b.key ≠ x.key) (hl : m.length < 4096) : addM (valid m) x = (valid (m ++ [x]), check x) := by
  have hle : (valid m).length ≤ m.length := List.length_filter_le _ _
  unfold addM
  by_cases h : check x = 0
  · rw [if_neg (by omega), if_neg (by
      have : findI x.key (valid m) < 0 := findI_none.2 fun b hb => hf b (List.mem_filter.1 hb).1
      omega), if_neg (by omega), h]
    simp [valid, List.filter_append, h]
  · rw [if_pos h]
    simp [valid, List.filter_append, h]
theorem keys_prefix {l : List Body} (h : Keys l) {k : Nat} {x : Body} (hx : l[k]? = some x) : ∀ b ∈ l.take k, b.key ≠ x.key := by
  intro b hb e
  obtain ⟨j, hj⟩ := List.getElem?_of_mem hb
  rw [List.getElem?_take] at hj
  split at hj
  · rename_i hlt
    have := h.inj hj hx e
    omega
  · cases hj
theorem addsM_take {l : List Body} (h : Keys l) (hl : l.length ≤ 4096) : ∀ k, k ≤ l.length → addsM (l.take k) = valid (l.take k)
  | 0, _ => by simp [addsM, valid]
  | k + 1, hk => by
    obtain ⟨x, hx⟩ := getSome (xs := l) (k := k) rfl (by omega)
    rw [addsM_snoc hx, addsM_take h hl k (by omega), addM_new (keys_prefix h hx) (by rw [List.length_take]; omega), take_snoc hx]
theorem addsM_res {l : List Body} (h : Keys l) (hl : l.length ≤ 4096) {k : Nat} {x : Body} (hx : l[k]? = some x) : (addM (addsM (l.take k)) x).2 = check x := by
  have hk := (List.getElem?_eq_some_iff.1 hx).1
  rw [addsM_take h hl k (by omega), addM_new (keys_prefix h hx) (by rw [List.length_take]; omega)]
theorem addsM_perm {l l' : List Body} (p : l'.Perm l) (h : Keys l) (hl : l.length < 4096) : sortB (addsM l) = sortB (addsM l') := by
  have h' : Keys l' := h.perm p
  have e1 : addsM l = valid l := by have := addsM_take h (by omega) l.length (Nat.le_refl _); rwa [List.take_length] at this
  have e2 : addsM l' = valid l' := by have := addsM_take h' (by rw [p.length_eq]; omega) l'.length (Nat.le_refl _); rwa [List.take_length] at this
  rw [e1, e2]
  have hv : Keys (valid l) := by
    unfold Keys valid
    exact List.Sublist.nodup ((List.filter_sublist).map _) h
  refine up_unique (sortB_up _) (sortB_up _) ?_ (hv.perm (sortB_perm _))
  exact (sortB_perm _).trans ((p.symm.filter _).trans (sortB_perm _).symm)
theorem keys_of_pairs {l : List Body} (h : ∀ (p q : Nat) (x y : Body), p < q → q < l.length → l[p]? = some x → l[q]? = some y → x.key ≠ y.key) : Keys l := by
  unfold Keys List.Nodup
  rw [List.pairwise_map]
  refine List.pairwise_iff_getElem.2 fun i j hi hj hij => ?_
  exact h i j _ _ hij hj (List.getElem?_eq_getElem hi) (List.getElem?_eq_getElem hj)
/-- The list turned by k and read from its end. -/
def turned (l : List Body) (k : Nat) : List Body := (l.drop k ++ l.take k).reverse
theorem turned_len (l : List Body) (k : Nat) : (turned l k).length = l.length := by
  unfold turned
  simp only [List.length_reverse, List.length_append, List.length_drop, List.length_take]
  omega
theorem turned_perm (l : List Body) (k : Nat) : (turned l k).Perm l := by
  unfold turned
  refine (List.reverse_perm _).trans (List.perm_append_comm.trans ?_)
  rw [List.take_append_drop]
theorem turned_at {l : List Body} {k i : Nat} (hk : k < l.length) (hi : i < l.length) : (turned l k)[i]? = l[(l.length - 1 - i + k) % l.length]? := by
  have hlen : (l.drop k ++ l.take k).length = l.length := by simp; omega
  unfold turned
  rw [List.getElem?_reverse (by rw [hlen]; exact hi), hlen, List.getElem?_append]
  simp only [List.length_drop]
  by_cases h : l.length - 1 - i < l.length - k
  · rw [if_pos h, List.getElem?_drop, Nat.mod_eq_of_lt (by omega)]
    congr 1
    omega
  · rw [if_neg h, List.getElem?_take_of_lt (by omega)]
    have : (l.length - 1 - i + k) % l.length = l.length - 1 - i + k - l.length := by
      rw [Nat.mod_eq_sub_mod (by omega), Nat.mod_eq_of_lt (by omega)]
    rw [this]
    congr 1
    omega
theorem pairsNext {xs : List Body} {i : Nat} {xi : Body} (hne : ∀ (p q : Nat) (x y : Body), p < q → q < i → xs[p]? = some x → xs[q]? = some y → x.key ≠ y.key) (hxi : xs[i]? = some xi) (hin : ∀ (p : Nat) (x : Body), p < i → xs[p]? = some x → x.key ≠ xi.key) :
    ∀ (p q : Nat) (x y : Body), p < q → q < i + 1 → xs[p]? = some x → xs[q]? = some y → x.key ≠ y.key := by
  intro p q x y hpq hq hx hy
  by_cases hqi : q < i
  · exact hne p q x y hpq hqi hx hy
  · have hq' : q = i := by omega
    subst hq'
    rw [hxi] at hy
    injection hy with hy
    subst hy
    exact hin p x (by omega) hx

theorem remove_perm {m : List Body} (hk : Keys m) (k : Int) : (removeM m k).1.Perm (cutK k m) := by
  unfold removeM
  by_cases h : findI k m < 0
  · rw [if_pos h, cutK_none h]
  · rw [if_neg h]
    rcases findI_cases k m with ⟨h1, _⟩ | ⟨i, b, h1, h2, h3⟩
    · omega
    · rw [h3, Int.toNat_natCast]
      have hlt := (List.getElem?_eq_some_iff.1 h1).1
      have := (cutM_perm hlt).trans (List.Perm.of_eq (erase_cutK hk h1))
      rwa [h2] at this
theorem findI_cutK (k : Int) (m : List Body) : findI k (cutK k m) < 0 := findI_none.2 fun b hb => (mem_cutK.1 hb).2
theorem findI_perm {m m' : List Body} (p : m.Perm m') {k : Int} (h : findI k m' < 0) : findI k m < 0 := findI_none.2 fun b hb => findI_none.1 h b (p.mem_iff.1 hb)
theorem cutK_lt {k : Int} {m : List Body} (h : 0 ≤ findI k m) : (cutK k m).length < m.length := by
  rcases findI_cases k m with ⟨h1, _⟩ | ⟨i, b, h1, h2, _⟩
  · omega
  · refine List.length_filter_lt_length_iff_exists.2 ⟨b, List.mem_of_getElem? h1, by simp [h2]⟩
theorem rem_found {m s : List Body} {b : Body} (R : Rel m s) (hb : check b = 0) (hf : 0 ≤ findI b.key s) (hl : m.length ≤ 4096) :
    addM m b = (m, 10) ∧ (removeM m b.key).2 = 0 ∧ (addM (removeM m b.key).1 b).2 = 0 ∧ sortB (addM (removeM m b.key).1 b).1 = putB s b false := by
  have hm : 0 ≤ findI b.key m := by have := R.find b.key; omega
  have hp := remove_perm R.keys b.key
  have hn : findI b.key (removeM m b.key).1 < 0 := findI_perm hp (findI_cutK _ _)
  have hlen : (removeM m b.key).1.length < 4096 := by rw [hp.length_eq]; have := cutK_lt hm; omega
  have ha : addM (removeM m b.key).1 b = ((removeM m b.key).1 ++ [b], 0) := by
    unfold addM
    rw [if_neg (by omega), if_neg (by omega), if_neg (by omega)]
  refine ⟨by unfold addM; rw [if_neg (by omega), if_pos hm], by unfold removeM; rw [if_neg (by omega)], by rw [ha], ?_⟩
  rw [ha]
  exact (R.put b ((List.perm_append_singleton b _).trans (hp.cons b))).eq
theorem rem_absent {m s : List Body} {b : Body} (R : Rel m s) (hb : check b = 0) (hf : findI b.key s < 0) (hl : m.length < 4096) :
    (addM m b).2 = 0 ∧ (removeM (addM m b).1 b.key).2 = 0 ∧ sortB (removeM (addM m b).1 b.key).1 = s := by
  have hm : findI b.key m < 0 := (R.find b.key).1 hf
  have ha : addM m b = (m ++ [b], 0) := by
    unfold addM
    rw [if_neg (by omega), if_neg (by omega), if_neg (by omega)]
  have hk : Keys (m ++ [b]) := R.keys.snoc hm
  have hp := remove_perm hk b.key
  have hc : cutK b.key (m ++ [b]) = m := by
    have : cutK b.key (m ++ [b]) = cutK b.key m := by simp [cutK, List.filter_append]
    rw [this, cutK_none hm]
  rw [ha]
  refine ⟨rfl, ?_, ?_⟩
  · unfold removeM
    rw [if_neg (by
      have : ¬ ∀ c ∈ m ++ [b], c.key ≠ b.key := fun h => h b (by simp) rfl
      have := mt findI_none.1 this
      exact this)]
  · rw [hc] at hp
    exact (⟨R.perm.trans hp.symm, R.sorted⟩ : Rel _ s).eq
end Go.Bil
namespace Go.Bil
structure StepI where
  kind : Int
  body : Body
instance : Inhabited StepI := ⟨⟨0, nilBody 0⟩⟩
def stepCells (s : StepI) : List Value := .int .i64 s.kind :: bodyCells s.body
theorem stepOf (l : List Value) (h : Ints [.i64, .u32, .i32, .i32, .i32, .i32, .i32, .i32, .i32, .i32, .i32] l) : ∃ s, l = stepCells s ∧ InB s.body := by
  obtain ⟨z, l', rfl, _, h'⟩ := ints_cons h
  obtain ⟨b, rfl, hb⟩ := bodyOf l' h'
  exact ⟨⟨z, b⟩, rfl, hb⟩

/-! ### A full store -/
def fkey (key d : Int) (i : Nat) : Int := IntKind.wrap .u32 (key + (i : Int) * d)
def bodyF (key d : Int) (i : Nat) : Body := ⟨fkey key d i, 65536, 0, 0, 0, 0, 0, 0, 0, 0⟩
def fullM (key d : Int) (k : Nat) : List Body := (List.range k).map (bodyF key d)
theorem wrap_u32 (x : Int) : IntKind.wrap .u32 x = x % 4294967296 := by simp [IntKind.wrap, IntKind.bits, IntKind.signed]
theorem mulBound {i : Nat} {d : Int} (hi : i ≤ 4096) (h1 : 1 ≤ d) (h2 : d ≤ 256) : 0 ≤ (i : Int) * d ∧ (i : Int) * d ≤ 1048576 := by
  refine ⟨Int.mul_nonneg (by omega) (by omega), ?_⟩
  have := Int.mul_le_mul (show (i : Int) ≤ 4096 by omega) h2 (by omega) (by omega)
  omega
theorem fkey_ne {key d : Int} (h1 : 1 ≤ d) (h2 : d ≤ 256) {i j : Nat} (hij : i < j) (hj : j ≤ 4096) : fkey key d i ≠ fkey key d j := by
  unfold fkey
  rw [wrap_u32, wrap_u32]
  have e : (j : Int) * d = (i : Int) * d + ((j - i : Nat) : Int) * d := by
    rw [← Int.add_mul]
    congr 1
    omega
  have h3 : d ≤ ((j - i : Nat) : Int) * d := by
    have := Int.mul_le_mul_of_nonneg_right (show (1 : Int) ≤ ((j - i : Nat) : Int) by omega) (show 0 ≤ d by omega)
    omega
  have h4 := (mulBound (i := j - i) (d := d) (by omega) h1 h2).2
  rw [e]
  generalize (i : Int) * d = a at *
  generalize ((j - i : Nat) : Int) * d = c at *
  omega
theorem fkey_not {key d : Int} (h1 : 1 ≤ d) (h2 : d ≤ 256) {k : Nat} (hk : k ≤ 4096) : ∀ b ∈ fullM key d k, b.key ≠ fkey key d k := by
  intro b hb
  obtain ⟨i, hi, rfl⟩ := List.mem_map.1 hb
  rw [List.mem_range] at hi
  exact fkey_ne h1 h2 hi hk
theorem check_F (key d : Int) (i : Nat) : check (bodyF key d i) = 0 := by simp [check, bodyF, inR]
theorem full_len (key d : Int) (k : Nat) : (fullM key d k).length = k := by simp [fullM]
theorem full_add {key d : Int} (h1 : 1 ≤ d) (h2 : d ≤ 256) {k : Nat} (hk : k < 4096) : addM (fullM key d k) (bodyF key d k) = (fullM key d (k + 1), 0) := by
  have hf : findI (bodyF key d k).key (fullM key d k) < 0 := findI_none.2 (fkey_not h1 h2 (by omega))
  unfold addM
  rw [if_neg (by rw [check_F]; omega), if_neg (by omega), if_neg (by rw [full_len]; omega)]
  simp [fullM, List.range_succ]
theorem full_more {key d : Int} (h1 : 1 ≤ d) (h2 : d ≤ 256) : addM (fullM key d 4096) (bodyF key d 4096) = (fullM key d 4096, 12) := by
  have hf : findI (bodyF key d 4096).key (fullM key d 4096) < 0 := findI_none.2 (fkey_not h1 h2 (by omega))
  unfold addM
  rw [if_neg (by rw [check_F]; omega), if_neg (by omega), if_pos (by rw [full_len]; omega)]
theorem full_found {key d : Int} {k : Int} {i : Nat} (hi : i < 4096) (hk : k = fkey key d i) : 0 ≤ findI k (fullM key d 4096) := by
  rcases findI_cases k (fullM key d 4096) with ⟨h, hn⟩ | ⟨j, b, _, _, h⟩
  · exact absurd hk.symm (hn (bodyF key d i) (List.mem_map.2 ⟨i, by simpa using hi, rfl⟩))
  · omega
theorem full_dup {key d : Int} (hk : 0 ≤ key ∧ key ≤ 4294967295) : addM (fullM key d 4096) ⟨key, 65536, 0, 0, 0, 0, 0, 0, 0, 0⟩ = (fullM key d 4096, 10) := by
  have hf : 0 ≤ findI key (fullM key d 4096) := full_found (i := 0) (by omega) (by unfold fkey; rw [wrap_u32]; simp; omega)
  have hc : check ⟨key, 65536, 0, 0, 0, 0, 0, 0, 0, 0⟩ = 0 := by simp [check, inR]
  unfold addM
  rw [if_neg (by rw [hc]; omega), if_pos hf]
theorem full_bad (key d k : Int) : addM (fullM key d 4096) ⟨k, 0, 0, 0, 0, 0, 0, 0, 0, 0⟩ = (fullM key d 4096, 4) := by
  have hc : check ⟨k, 0, 0, 0, 0, 0, 0, 0, 0, 0⟩ = 4 := by simp [check]
  unfold addM
  rw [if_pos (by rw [hc]; omega), hc]
theorem full_keys {key d : Int} (h1 : 1 ≤ d) (h2 : d ≤ 256) : Keys (fullM key d 4096) := by
  refine keys_of_pairs fun p q x y hpq hq hx hy => ?_
  rw [full_len] at hq
  simp only [fullM, List.getElem?_map, Option.map_eq_some_iff] at hx hy
  obtain ⟨p', hp', rfl⟩ := hx
  obtain ⟨q', hq', rfl⟩ := hy
  have e1 : p' = p := by have := List.getElem?_eq_some_iff.1 hp'; simpa using this.2.symm
  have e2 : q' = q := by have := List.getElem?_eq_some_iff.1 hq'; simpa using this.2.symm
  subst e1
  subst e2
  exact fkey_ne h1 h2 hpq (by omega)
theorem full_rest {key d : Int} (h1 : 1 ≤ d) (h2 : d ≤ 256) : (removeM (fullM key d 4096) (fkey key d 7)).2 = 0 ∧ (addM (removeM (fullM key d 4096) (fkey key d 7)).1 (bodyF key d 4096)).2 = 0 ∧
    (addM (removeM (fullM key d 4096) (fkey key d 7)).1 (bodyF key d 4096)).1.length = 4096 ∧ (addM (addM (removeM (fullM key d 4096) (fkey key d 7)).1 (bodyF key d 4096)).1 (bodyF key d 7)).2 = 12 := by
  have hkeys := full_keys (key := key) h1 h2
  have hfound : 0 ≤ findI (fkey key d 7) (fullM key d 4096) := full_found (i := 7) (by omega) rfl
  have hnot := fkey_not (key := key) h1 h2 (Nat.le_refl 4096)
  have hfl := full_len key d 4096
  generalize fullM key d 4096 = F at *
  have hp := remove_perm hkeys (fkey key d 7)
  obtain ⟨m1, hm1⟩ : ∃ m1, m1 = (removeM F (fkey key d 7)).1 := ⟨_, rfl⟩
  have hlen : m1.length = 4095 := by
    rw [hm1]
    unfold removeM
    rw [if_neg (by omega)]
    rcases findI_cases (fkey key d 7) F with ⟨h, _⟩ | ⟨i, b, h3, h4, h5⟩
    · omega
    · have hlt := (List.getElem?_eq_some_iff.1 h3).1
      rw [h5, Int.toNat_natCast]
      show (cutM F i).length = 4095
      rw [(cutM_perm hlt).length_eq, List.length_eraseIdx, if_pos hlt, hfl]
  rw [← hm1] at hp ⊢
  have hmore : findI (bodyF key d 4096).key m1 < 0 := findI_perm hp (findI_none.2 fun b hb => hnot b (mem_cutK.1 hb).1)
  have ha : addM m1 (bodyF key d 4096) = (m1 ++ [bodyF key d 4096], 0) := by
    unfold addM
    rw [if_neg (by rw [check_F]; omega), if_neg (by omega), if_neg (by omega)]
  refine ⟨by unfold removeM; rw [if_neg (by omega)], by rw [ha], by rw [ha]; simp [hlen], ?_⟩
  rw [ha]
  have h7 : findI (bodyF key d 7).key (m1 ++ [bodyF key d 4096]) < 0 := findI_none.2 fun b hb => by
    rcases List.mem_append.1 hb with hb | hb
    · exact (mem_cutK.1 (hp.mem_iff.1 hb)).2
    · simp only [List.mem_singleton] at hb
      subst hb
      exact fun e => fkey_ne h1 h2 (show 7 < 4096 by omega) (Nat.le_refl _) e.symm
  show (addM (m1 ++ [bodyF key d 4096]) (bodyF key d 7)).2 = 12
  unfold addM
  rw [if_neg (by rw [check_F]; omega), if_neg (by omega), if_pos (by simp [hlen])]
end Go.Bil
