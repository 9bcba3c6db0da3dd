/- Walks of Go functions over the frame of this claim: what each computes, for every input of the stated types (R6). -/
import Derived.Test.YtfgbmegchdjfeaaDoorTy
import Derived.Test.YtfgbmegchdjfeaaDoorR5
set_option linter.unusedVariables false
set_option linter.unusedSimpArgs false
set_option linter.unnecessarySimpa false
namespace Go.Proofs.YtfgbmegchdjfeaaDoor
open Go.Bil
open Go.RowKit (Below)
open Go.Proofs

theorem eqBody (a b : Body) : EqA Tryd.prog 49 (bodyCells a) (bodyCells b) (decide (a = b)) := by
  have h := eqA49 a.key a.radius a.ax a.ay a.mass a.bounce a.px a.py a.vx a.vy b.key b.radius b.ax b.ay b.mass b.bounce b.px b.py b.vx b.vy
  rw [decide_eq_decide.2 (body_ext (a := a) (b := b))]
  exact h

set_option maxHeartbeats 4000000 in
theorem ref06_Find (w : World) (key : Int) (A : Option Addr) (n c : Nat) (xs : List Body) (R : Rd w 10 A n (xs.map bodyCells)) :
    Calls Tryd.prog 21 #[.slice A n c, .int .u32 key] w (fun ex w' => ∃ v, ex = .returned v ∧ (fun v w' => v = .int .i64 (findI key xs) ∧ Below w.heap.size w w') v w') := by
  have hlen : xs.length = n := by simpa using R.len
  have hbd := R.bound
  refine calls_of_W #[.tmp 4] 20 Tryd.func21 rfl Tryd.results21 Tryd.ntmps21 rfl ?_
  have M0 := Mem.refl w
  refine W_seq ?_
  refine W_region ?_
  refine wl_q (r_assign (.int _ _) rfl) rfl rfl ?_
  refine wl_nil ?_
  refine thenN ?_
  refine W_seq ?_
  refine W_seq ?_
  refine W_region ?_
  refine wl_q (r_assign (.int _ _) rfl) rfl rfl ?_
  refine wl_nil ?_
  refine thenN ?_
  refine W_block ?_
  refine W_loop (σ := Nat) [0, 1] (fun k => [(5, .int .i64 (k : Int))]) (fun k w' => (k ≤ n ∧ ∀ (j : Nat) (c : Body), j < k → xs[j]? = some c → c.key ≠ key) ∧ Mem w [] [] w') (fun k => n - k) 0 (agC rfl agN) (⟨⟨by omega, fun j c hj => by omega⟩, M0⟩) ?_
  rintro k ρ1 w1 ⟨⟨hk, hne⟩, hM1⟩
  refine W_seq ?_
  refine W_seq ?_
  refine W_region ?_
  refine wl_q (r_move (.int _ _) rfl) rfl rfl ?_
  refine wl_q (r_move (.slice _ _ _) rfl) rfl rfl ?_
  refine wl_q (r_lenS Tryd.underlying22 rfl) rfl rfl ?_
  refine wl_q (r_bin (.bool (decide _)) rfl rfl rfl) rfl rfl ?_
  refine wl_nil ?_
  refine thenN ?_
  refine W_condD rfl (fun h9 => ?_) (fun h9 => ?_)
  · skip
    obtain ⟨xb, hxb⟩ := getSome (k := k) hlen (by omega)
    refine W_skip ?_
    refine thenN ?_
    refine W_seq ?_
    refine W_block ?_
    refine W_seq ?_
    refine W_region ?_
    refine wl_q (r_move (.slice _ _ _) rfl) rfl rfl ?_
    refine wl_q (r_move (.int _ _) rfl) rfl rfl ?_
    refine wl_q (r_idxR (k) sl22 rfl rfl rfl ((R.mem hM1).below_len (mapGet bodyCells hxb)) ((R.mem hM1).someK (mapGet bodyCells hxb))) rfl rfl ?_
    refine wl_q (r_fieldAddrE 0 fld49_0 (R.mem hM1) (Nat.lt_of_le_of_lt (Nat.zero_le _) ((R.mem hM1).below_len (mapGet bodyCells hxb))) rfl) rfl rfl ?_
    refine wl_q (r_ldE (o := 0) (.int _ _) one25 (R.mem hM1) (mapGet bodyCells hxb) rfl rfl) rfl rfl ?_
    refine wl_q (r_move (.int _ _) rfl) rfl rfl ?_
    refine wl_q (r_bin (.bool (decide _)) rfl rfl rfl) rfl rfl ?_
    refine wl_nil ?_
    refine thenN ?_
    refine W_condD rfl (fun h18 => ?_) (fun h18 => ?_)
    · skip
      refine W_seq ?_
      refine W_region ?_
      refine wl_q (r_move (.int _ _) rfl) rfl rfl ?_
      refine wl_q (r_assign (.int _ _) rfl) rfl rfl ?_
      refine wl_nil ?_
      refine thenN ?_
      refine W_ret ?_
      refine blkR ?_
      refine thenR ?_
      refine roundR ?_
      refine blkR ?_
      refine thenR ?_
      skip
      refine fin1 (.int _ _) rfl ?_
      exact ⟨iE (findI_at hxb h18 hne).symm, hM1.below⟩
    · skip
      refine W_skip ?_
      refine blkN ?_
      refine thenN ?_
      refine W_region ?_
      refine wl_q (r_move (.int _ _) rfl) rfl rfl ?_
      refine wl_q (r_add rfl rfl (by omega) (by omega)) rfl rfl ?_
      refine wl_q (r_assign (.int _ _) rfl) rfl rfl ?_
      refine wl_nil ?_
      refine roundN (k + 1) (agC rfl agN) (akC rfl (akC rfl akN)) ?_ ?_
      · exact ⟨⟨by omega, allNext hne hxb h18⟩, hM1⟩
      · omega
  · skip
    refine W_exit ?_
    refine thenX ?_
    refine roundX ?_
    refine blkH ?_
    refine thenN ?_
    refine W_seq ?_
    refine W_region ?_
    refine wl_q (r_assign (.int _ _) rfl) rfl rfl ?_
    refine wl_nil ?_
    refine thenN ?_
    refine W_ret ?_
    skip
    refine fin1 (.int _ _) rfl ?_
    have hkn : k = n := by omega
    exact ⟨iE (findI_neg (fun j b hj => hne j b (by have := (List.getElem?_eq_some_iff.1 hj).1; omega) hj)).symm, hM1.below⟩

set_option maxHeartbeats 4000000 in
theorem ref06_Put (w : World) (b : Body) (gone : Bool) (A : Option Addr) (n c : Nat) (xs : List Body) (R : Rd w 10 A n (xs.map bodyCells)) (hn : n ≤ 1048576) :
    Calls Tryd.prog 74 #[.slice A n c, (.agg (bodyCells b).toArray), .bool gone] w (fun ex w' => ∃ v, ex = .returned v ∧ (fun v w' => ∃ A' n' c' e, v = .slice A' n' c' ∧ RowIs 49 10 A' n' c' ((putB xs b gone).map bodyCells) e ∧ Mem w [] [e] w') v w') := by
  have hlen : xs.length = n := by simpa using R.len
  have hbd := R.bound
  refine calls_of_W #[.tmp 6] 55 Tryd.func74 rfl Tryd.results74 Tryd.ntmps74 rfl ?_
  have M0 := Mem.refl w
  refine W_seq ?_
  refine W_region ?_
  refine wl_box (.agg (List.toArray _)) M0 rfl rfl rfl (fun b1 w1 M1 => ?_)
  refine wl_q (r_assign (.slice _ _ _) rfl) rfl rfl ?_
  refine wl_nil ?_
  refine thenN ?_
  refine W_seq ?_
  refine W_region ?_
  refine wl_q (r_assign (.slice _ _ _) rfl) rfl rfl ?_
  have M2 := M1.dummy default
  refine wl_nil ?_
  refine thenN ?_
  refine W_seq ?_
  refine W_region ?_
  refine wl_q (r_move (.bool _) rfl) rfl rfl ?_
  refine wl_q (r_assign (.bool _) rfl) rfl rfl ?_
  refine wl_nil ?_
  refine thenN ?_
  refine W_seq ?_
  refine W_seq ?_
  refine W_region ?_
  refine wl_q (r_assign (.int _ _) rfl) rfl rfl ?_
  refine wl_nil ?_
  refine thenN ?_
  refine W_block ?_
  refine W_loop (σ := Nat × List Body × Bool × Row) [0, 4, 6] (fun (k, acc, done, r) => [(7, .slice r.A r.n r.c), (8, .bool done), (9, .int .i64 (k : Int))]) (fun (k, acc, done, r) w' => (k ≤ n ∧ putAll b gone (xs.take k) = (acc, done) ∧ RowIs 49 10 r.A r.n r.c (acc.map bodyCells) r.e) ∧ Mem w [] [(some b1, bc (bodyCells b) 49), r.e] w') (fun (k, acc, done, r) => n - k) (0, [], gone, ⟨none, 0, 0, (none, default)⟩) (agC rfl (agC rfl (agC rfl agN))) (⟨⟨by omega, rfl, RowIs.nil _ _ _⟩, M2⟩) ?_
  rintro ⟨k, acc, done, r⟩ ρ3 w3 ⟨⟨hk, heq, hr⟩, hM3⟩
  have hra : acc.length = r.n := by simpa using hr.1
  have hrl : acc.length ≤ k + 1 := by have h := putAll_len b gone xs k; rw [heq] at h; exact h
  refine W_seq ?_
  refine W_seq ?_
  refine W_region ?_
  refine wl_q (r_move (.int _ _) rfl) rfl rfl ?_
  refine wl_q (r_move (.slice _ _ _) rfl) rfl rfl ?_
  refine wl_q (r_lenS Tryd.underlying22 rfl) rfl rfl ?_
  refine wl_q (r_bin (.bool (decide _)) rfl rfl rfl) rfl rfl ?_
  refine wl_nil ?_
  refine thenN ?_
  refine W_condD rfl (fun h14 => ?_) (fun h14 => ?_)
  · skip
    obtain ⟨xb, hxb⟩ := getSome (k := k) hlen (by omega)
    refine W_skip ?_
    refine thenN ?_
    refine W_seq ?_
    refine W_block ?_
    refine W_seq ?_
    refine W_seq ?_
    refine W_draw [(0, 0), (1, 0), (2, 0), (3, 0), (4, 0), (5, 1), (6, 1), (7, 1), (8, 0), (9, 1), (10, 0), (11, 0)] mixed rfl (by kernel_rfl) (fun w4 hb4 hh4 => ?_)
    have M4 := hM3.drew hb4 hh4
    refine D_p rfl rfl rfl (fun _ => r_move (.bool _) rfl) ?_
    refine D_p rfl rfl rfl (fun _ => r_notB _ rfl rfl) ?_
    refine D_p rfl rfl rfl (fun _ => r_move (.bool _) rfl) ?_
    refine D_split 19 _ rfl (fun g19 => ?_) (fun g19 => ?_)
    · skip
      have hd : done = false := by simpa using g19
      refine D_p rfl rfl rfl (fun _ => r_move (.slice _ _ _) rfl) ?_
      refine D_p rfl rfl rfl (fun _ => r_move (.int _ _) rfl) ?_
      refine D_r rfl rfl rfl (r_idxR (k) sl22 rfl rfl rfl ((R.mem M4).below_len (mapGet bodyCells hxb)) ((R.mem M4).someK (mapGet bodyCells hxb))) ?_
      refine D_r rfl rfl rfl (r_fieldAddrE 0 fld49_0 (R.mem M4) (Nat.lt_of_le_of_lt (Nat.zero_le _) ((R.mem M4).below_len (mapGet bodyCells hxb))) rfl) ?_
      refine D_r rfl rfl rfl (r_ldE (o := 0) (.int _ _) one25 (R.mem M4) (mapGet bodyCells hxb) rfl rfl) ?_
      refine D_p rfl rfl rfl (fun _ => r_fieldAddr 0 fld49_0 rfl) ?_
      refine D_r rfl rfl rfl (r_ld 0 (.int _ _) one25 M4 rfl rfl rfl) ?_
      refine D_p rfl rfl rfl (fun _ => r_bin (.bool (decide _)) rfl rfl rfl) ?_
      refine D_p rfl rfl rfl (fun _ => r_pick true (.bool (decide _)) rfl rfl) ?_
      refine D_nil ?_
      refine thenN ?_
      refine W_condD rfl (fun h28 => ?_) (fun h28 => ?_)
      · skip
        refine W_seq ?_
        refine W_region ?_
        refine wl_q (r_assign (.bool true) rfl) rfl rfl ?_
        refine wl_nil ?_
        refine thenN ?_
        refine W_region ?_
        refine wl_q (r_move (.slice _ _ _) rfl) rfl rfl ?_
        refine wl_q (r_ldW 0 agg49 M4 rfl rfl rfl) rfl rfl ?_
        refine wl_bslice [.agg (List.toArray _)] _ rfl sl22 M4 rfl rfl rfl rfl (lens_of rfl) (by decide) (fun b5 w5 M5 => ?_)
        refine wl_append 1 [bodyCells b] sl22 M5 rfl rfl rfl rfl rfl hr rfl (by simpa using ⟨bodyCells_len b, bodyCells_one b⟩) (Cells.ofMem 2 M5 rfl) (by omega) (fun A6 c6 e6 w6 M6 hR6 => ?_)
        refine wl_q (r_assign (.slice _ _ _) rfl) rfl rfl ?_
        refine wl_nil ?_
        refine thenN ?_
        refine W_seq ?_
        refine W_draw [(0, 0), (1, 0), (2, 1), (3, 1), (4, 1), (5, 0), (6, 1), (7, 0)] mixed rfl (by kernel_rfl) (fun w7 hb7 hh7 => ?_)
        have M7 := M6.drew hb7 hh7
        refine D_p rfl rfl rfl (fun _ => r_move (.slice _ _ _) rfl) ?_
        refine D_p rfl rfl rfl (fun _ => r_move (.int _ _) rfl) ?_
        refine D_r rfl rfl rfl (r_idxR (k) sl22 rfl rfl rfl ((R.mem M7).below_len (mapGet bodyCells hxb)) ((R.mem M7).someK (mapGet bodyCells hxb))) ?_
        refine D_r rfl rfl rfl (r_fieldAddrE 0 fld49_0 (R.mem M7) (Nat.lt_of_le_of_lt (Nat.zero_le _) ((R.mem M7).below_len (mapGet bodyCells hxb))) rfl) ?_
        refine D_r rfl rfl rfl (r_ldE (o := 0) (.int _ _) one25 (R.mem M7) (mapGet bodyCells hxb) rfl rfl) ?_
        refine D_p rfl rfl rfl (fun _ => r_fieldAddr 0 fld49_0 rfl) ?_
        refine D_r rfl rfl rfl (r_ld 0 (.int _ _) one25 M7 rfl rfl rfl) ?_
        refine D_p rfl rfl rfl (fun _ => r_bin (.bool (decide _)) rfl rfl rfl) ?_
        refine D_nil ?_
        refine thenN ?_
        refine W_condD rfl (fun h40 => ?_) (fun h40 => ?_)
        · skip
          refine W_region ?_
          refine wl_q (r_move (.slice _ _ _) rfl) rfl rfl ?_
          refine wl_q (r_move (.slice _ _ _) rfl) rfl rfl ?_
          refine wl_q (r_move (.int _ _) rfl) rfl rfl ?_
          refine wl_q (r_idxR (k) sl22 rfl rfl rfl ((R.mem M7).below_len (mapGet bodyCells hxb)) ((R.mem M7).someK (mapGet bodyCells hxb))) rfl rfl ?_
          refine wl_q (r_ldEA _ agg49 (R.mem M7) (mapGet bodyCells hxb) rfl) rfl rfl ?_
          refine wl_bslice [.agg (List.toArray _)] _ rfl sl22 M7 rfl rfl rfl rfl (lens_of rfl) (by decide) (fun b8 w8 M8 => ?_)
          refine wl_append 1 [bodyCells xb] sl22 M8 rfl rfl rfl rfl rfl hR6 rfl (by simpa using ⟨bodyCells_len xb, bodyCells_one xb⟩) (Cells.ofMem 3 M8 rfl) (by omega) (fun A9 c9 e9 w9 M9 hR9 => ?_)
          refine wl_q (r_assign (.slice _ _ _) rfl) rfl rfl ?_
          refine wl_nil ?_
          refine blkN ?_
          refine thenN ?_
          refine W_region ?_
          refine wl_q (r_move (.int _ _) rfl) rfl rfl ?_
          refine wl_q (r_add rfl rfl (by omega) (by omega)) rfl rfl ?_
          refine wl_q (r_assign (.int _ _) rfl) rfl rfl ?_
          refine wl_nil ?_
          refine roundN (k + 1, (putAll b gone (xs.take (k + 1))).1, (putAll b gone (xs.take (k + 1))).2, ⟨A9, r.n + 1 + 1, c9, e9⟩) (agC rfl (agC (bv rfl (by rw [putAll_snoc b gone hxb, heq]; simp [putStep, *])) (agC rfl agN))) (akC rfl (akC rfl (akC rfl akN))) ?_ ?_
          · exact ⟨⟨by omega, rfl, by rw [putAll_snoc b gone hxb, heq]; simpa [putStep, *] using hR9⟩, M9.keep [true, true, false, false]⟩
          · (show n - (k + 1) < n - k; omega)
        · skip
          refine W_skip ?_
          refine blkN ?_
          refine thenN ?_
          refine W_region ?_
          refine wl_q (r_move (.int _ _) rfl) rfl rfl ?_
          refine wl_q (r_add rfl rfl (by omega) (by omega)) rfl rfl ?_
          refine wl_q (r_assign (.int _ _) rfl) rfl rfl ?_
          refine wl_nil ?_
          refine roundN (k + 1, (putAll b gone (xs.take (k + 1))).1, (putAll b gone (xs.take (k + 1))).2, ⟨A6, r.n + 1, c6, e6⟩) (agC rfl (agC (bv rfl (by rw [putAll_snoc b gone hxb, heq]; simp [putStep, *])) (agC rfl agN))) (akC rfl (akC rfl (akC rfl akN))) ?_ ?_
          · exact ⟨⟨by omega, rfl, by rw [putAll_snoc b gone hxb, heq]; simpa [putStep, *] using hR6⟩, M7.keep [true, true, false]⟩
          · (show n - (k + 1) < n - k; omega)
      · skip
        refine W_skip ?_
        refine thenN ?_
        refine W_seq ?_
        refine W_draw [(0, 0), (1, 0), (2, 1), (3, 1), (4, 1), (5, 0), (6, 1), (7, 0)] mixed rfl (by kernel_rfl) (fun w10 hb10 hh10 => ?_)
        have M10 := M4.drew hb10 hh10
        refine D_p rfl rfl rfl (fun _ => r_move (.slice _ _ _) rfl) ?_
        refine D_p rfl rfl rfl (fun _ => r_move (.int _ _) rfl) ?_
        refine D_r rfl rfl rfl (r_idxR (k) sl22 rfl rfl rfl ((R.mem M10).below_len (mapGet bodyCells hxb)) ((R.mem M10).someK (mapGet bodyCells hxb))) ?_
        refine D_r rfl rfl rfl (r_fieldAddrE 0 fld49_0 (R.mem M10) (Nat.lt_of_le_of_lt (Nat.zero_le _) ((R.mem M10).below_len (mapGet bodyCells hxb))) rfl) ?_
        refine D_r rfl rfl rfl (r_ldE (o := 0) (.int _ _) one25 (R.mem M10) (mapGet bodyCells hxb) rfl rfl) ?_
        refine D_p rfl rfl rfl (fun _ => r_fieldAddr 0 fld49_0 rfl) ?_
        refine D_r rfl rfl rfl (r_ld 0 (.int _ _) one25 M10 rfl rfl rfl) ?_
        refine D_p rfl rfl rfl (fun _ => r_bin (.bool (decide _)) rfl rfl rfl) ?_
        refine D_nil ?_
        refine thenN ?_
        refine W_condD rfl (fun h40 => ?_) (fun h40 => ?_)
        · skip
          refine W_region ?_
          refine wl_q (r_move (.slice _ _ _) rfl) rfl rfl ?_
          refine wl_q (r_move (.slice _ _ _) rfl) rfl rfl ?_
          refine wl_q (r_move (.int _ _) rfl) rfl rfl ?_
          refine wl_q (r_idxR (k) sl22 rfl rfl rfl ((R.mem M10).below_len (mapGet bodyCells hxb)) ((R.mem M10).someK (mapGet bodyCells hxb))) rfl rfl ?_
          refine wl_q (r_ldEA _ agg49 (R.mem M10) (mapGet bodyCells hxb) rfl) rfl rfl ?_
          refine wl_bslice [.agg (List.toArray _)] _ rfl sl22 M10 rfl rfl rfl rfl (lens_of rfl) (by decide) (fun b11 w11 M11 => ?_)
          refine wl_append 1 [bodyCells xb] sl22 M11 rfl rfl rfl rfl rfl hr rfl (by simpa using ⟨bodyCells_len xb, bodyCells_one xb⟩) (Cells.ofMem 2 M11 rfl) (by omega) (fun A12 c12 e12 w12 M12 hR12 => ?_)
          refine wl_q (r_assign (.slice _ _ _) rfl) rfl rfl ?_
          refine wl_nil ?_
          refine blkN ?_
          refine thenN ?_
          refine W_region ?_
          refine wl_q (r_move (.int _ _) rfl) rfl rfl ?_
          refine wl_q (r_add rfl rfl (by omega) (by omega)) rfl rfl ?_
          refine wl_q (r_assign (.int _ _) rfl) rfl rfl ?_
          refine wl_nil ?_
          refine roundN (k + 1, (putAll b gone (xs.take (k + 1))).1, (putAll b gone (xs.take (k + 1))).2, ⟨A12, r.n + 1, c12, e12⟩) (agC rfl (agC (bv rfl (by rw [putAll_snoc b gone hxb, heq]; simp [putStep, *])) (agC rfl agN))) (akC rfl (akC rfl (akC rfl akN))) ?_ ?_
          · exact ⟨⟨by omega, rfl, by rw [putAll_snoc b gone hxb, heq]; simpa [putStep, *] using hR12⟩, M12.keep [true, true, false]⟩
          · (show n - (k + 1) < n - k; omega)
        · skip
          refine W_skip ?_
          refine blkN ?_
          refine thenN ?_
          refine W_region ?_
          refine wl_q (r_move (.int _ _) rfl) rfl rfl ?_
          refine wl_q (r_add rfl rfl (by omega) (by omega)) rfl rfl ?_
          refine wl_q (r_assign (.int _ _) rfl) rfl rfl ?_
          refine wl_nil ?_
          refine roundN (k + 1, (putAll b gone (xs.take (k + 1))).1, (putAll b gone (xs.take (k + 1))).2, r) (agC rfl (agC (bv rfl (by rw [putAll_snoc b gone hxb, heq]; simp [putStep, *])) (agC rfl agN))) (akC rfl (akC rfl (akC rfl akN))) ?_ ?_
          · exact ⟨⟨by omega, rfl, by rw [putAll_snoc b gone hxb, heq]; simpa [putStep, *] using hr⟩, M10.keep [true, true]⟩
          · (show n - (k + 1) < n - k; omega)
    · skip
      have hd : done = true := by simpa using g19
      refine D_s rfl rfl rfl ?_
      refine D_s rfl rfl rfl ?_
      refine D_s1 rfl rfl rfl ?_
      refine D_s1 rfl rfl rfl ?_
      refine D_s1 rfl rfl rfl ?_
      refine D_s rfl rfl rfl ?_
      refine D_s1 rfl rfl rfl ?_
      refine D_s rfl rfl rfl ?_
      refine D_p rfl rfl rfl (fun _ => r_pick false (.bool false) rfl rfl) ?_
      refine D_nil ?_
      refine thenN ?_
      refine W_condF rfl ?_
      refine W_skip ?_
      refine thenN ?_
      refine W_seq ?_
      refine W_draw [(0, 0), (1, 0), (2, 1), (3, 1), (4, 1), (5, 0), (6, 1), (7, 0)] mixed rfl (by kernel_rfl) (fun w13 hb13 hh13 => ?_)
      have M13 := M4.drew hb13 hh13
      refine D_p rfl rfl rfl (fun _ => r_move (.slice _ _ _) rfl) ?_
      refine D_p rfl rfl rfl (fun _ => r_move (.int _ _) rfl) ?_
      refine D_r rfl rfl rfl (r_idxR (k) sl22 rfl rfl rfl ((R.mem M13).below_len (mapGet bodyCells hxb)) ((R.mem M13).someK (mapGet bodyCells hxb))) ?_
      refine D_r rfl rfl rfl (r_fieldAddrE 0 fld49_0 (R.mem M13) (Nat.lt_of_le_of_lt (Nat.zero_le _) ((R.mem M13).below_len (mapGet bodyCells hxb))) rfl) ?_
      refine D_r rfl rfl rfl (r_ldE (o := 0) (.int _ _) one25 (R.mem M13) (mapGet bodyCells hxb) rfl rfl) ?_
      refine D_p rfl rfl rfl (fun _ => r_fieldAddr 0 fld49_0 rfl) ?_
      refine D_r rfl rfl rfl (r_ld 0 (.int _ _) one25 M13 rfl rfl rfl) ?_
      refine D_p rfl rfl rfl (fun _ => r_bin (.bool (decide _)) rfl rfl rfl) ?_
      refine D_nil ?_
      refine thenN ?_
      refine W_condD rfl (fun h40 => ?_) (fun h40 => ?_)
      · skip
        refine W_region ?_
        refine wl_q (r_move (.slice _ _ _) rfl) rfl rfl ?_
        refine wl_q (r_move (.slice _ _ _) rfl) rfl rfl ?_
        refine wl_q (r_move (.int _ _) rfl) rfl rfl ?_
        refine wl_q (r_idxR (k) sl22 rfl rfl rfl ((R.mem M13).below_len (mapGet bodyCells hxb)) ((R.mem M13).someK (mapGet bodyCells hxb))) rfl rfl ?_
        refine wl_q (r_ldEA _ agg49 (R.mem M13) (mapGet bodyCells hxb) rfl) rfl rfl ?_
        refine wl_bslice [.agg (List.toArray _)] _ rfl sl22 M13 rfl rfl rfl rfl (lens_of rfl) (by decide) (fun b14 w14 M14 => ?_)
        refine wl_append 1 [bodyCells xb] sl22 M14 rfl rfl rfl rfl rfl hr rfl (by simpa using ⟨bodyCells_len xb, bodyCells_one xb⟩) (Cells.ofMem 2 M14 rfl) (by omega) (fun A15 c15 e15 w15 M15 hR15 => ?_)
        refine wl_q (r_assign (.slice _ _ _) rfl) rfl rfl ?_
        refine wl_nil ?_
        refine blkN ?_
        refine thenN ?_
        refine W_region ?_
        refine wl_q (r_move (.int _ _) rfl) rfl rfl ?_
        refine wl_q (r_add rfl rfl (by omega) (by omega)) rfl rfl ?_
        refine wl_q (r_assign (.int _ _) rfl) rfl rfl ?_
        refine wl_nil ?_
        refine roundN (k + 1, (putAll b gone (xs.take (k + 1))).1, (putAll b gone (xs.take (k + 1))).2, ⟨A15, r.n + 1, c15, e15⟩) (agC rfl (agC (bv rfl (by rw [putAll_snoc b gone hxb, heq]; simp [putStep, *])) (agC rfl agN))) (akC rfl (akC rfl (akC rfl akN))) ?_ ?_
        · exact ⟨⟨by omega, rfl, by rw [putAll_snoc b gone hxb, heq]; simpa [putStep, *] using hR15⟩, M15.keep [true, true, false]⟩
        · (show n - (k + 1) < n - k; omega)
      · skip
        refine W_skip ?_
        refine blkN ?_
        refine thenN ?_
        refine W_region ?_
        refine wl_q (r_move (.int _ _) rfl) rfl rfl ?_
        refine wl_q (r_add rfl rfl (by omega) (by omega)) rfl rfl ?_
        refine wl_q (r_assign (.int _ _) rfl) rfl rfl ?_
        refine wl_nil ?_
        refine roundN (k + 1, (putAll b gone (xs.take (k + 1))).1, (putAll b gone (xs.take (k + 1))).2, r) (agC rfl (agC (bv rfl (by rw [putAll_snoc b gone hxb, heq]; simp [putStep, *])) (agC rfl agN))) (akC rfl (akC rfl (akC rfl akN))) ?_ ?_
        · exact ⟨⟨by omega, rfl, by rw [putAll_snoc b gone hxb, heq]; simpa [putStep, *] using hr⟩, M13.keep [true, true]⟩
        · (show n - (k + 1) < n - k; omega)
  · skip
    have hkn : k = n := by omega
    subst hkn
    rw [List.take_of_length_le (by omega)] at heq
    refine W_exit ?_
    refine thenX ?_
    refine roundX ?_
    refine blkH ?_
    refine thenN ?_
    refine W_seq ?_
    refine W_seq ?_
    refine W_region ?_
    refine wl_q (r_move (.bool _) rfl) rfl rfl ?_
    refine wl_q (r_notB _ rfl rfl) rfl rfl ?_
    refine wl_nil ?_
    refine thenN ?_
    refine W_cond _ rfl (fun h49 => ?_) (fun h49 => ?_)
    · skip
      have hd : done = false := by simpa using h49
      refine W_region ?_
      refine wl_q (r_move (.slice _ _ _) rfl) rfl rfl ?_
      refine wl_q (r_ldW 0 agg49 hM3 rfl rfl rfl) rfl rfl ?_
      refine wl_bslice [.agg (List.toArray _)] _ rfl sl22 hM3 rfl rfl rfl rfl (lens_of rfl) (by decide) (fun b16 w16 M16 => ?_)
      refine wl_append 1 [bodyCells b] sl22 M16 rfl rfl rfl rfl rfl hr rfl (by simpa using ⟨bodyCells_len b, bodyCells_one b⟩) (Cells.ofMem 2 M16 rfl) (by omega) (fun A17 c17 e17 w17 M17 hR17 => ?_)
      refine wl_q (r_assign (.slice _ _ _) rfl) rfl rfl ?_
      refine wl_nil ?_
      refine thenN ?_
      refine W_seq ?_
      refine W_region ?_
      refine wl_q (r_move (.slice _ _ _) rfl) rfl rfl ?_
      refine wl_q (r_assign (.slice _ _ _) rfl) rfl rfl ?_
      refine wl_nil ?_
      refine thenN ?_
      refine W_ret ?_
      skip
      refine fin1 (.slice _ _ _) rfl ?_
      exact ⟨_, _, _, _, rfl, by unfold putB; rw [heq]; simpa [*] using hR17, M17.keep [false, true, false]⟩
    · skip
      have hd : done = true := by simpa using h49
      refine W_skip ?_
      refine thenN ?_
      refine W_seq ?_
      refine W_region ?_
      refine wl_q (r_move (.slice _ _ _) rfl) rfl rfl ?_
      refine wl_q (r_assign (.slice _ _ _) rfl) rfl rfl ?_
      refine wl_nil ?_
      refine thenN ?_
      refine W_ret ?_
      skip
      refine fin1 (.slice _ _ _) rfl ?_
      exact ⟨_, _, _, _, rfl, by unfold putB; rw [heq]; simpa [*] using hr, hM3.keep [false, true]⟩

end Go.Proofs.YtfgbmegchdjfeaaDoor
