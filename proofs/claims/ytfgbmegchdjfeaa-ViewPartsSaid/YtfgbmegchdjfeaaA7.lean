/- Walks of Go functions over the frame of this claim: what each computes, for every input of the stated types (A7). -/
import Derived.Test.YtfgbmegchdjfeaaTy
import Derived.Test.YtfgbmegchdjfeaaD7
set_option linter.unusedVariables false
set_option linter.unusedSimpArgs false
set_option linter.unnecessarySimpa false
namespace Go.Proofs.Ytfgbmegchdjfeaa
open Go.Bil
open Go.RowKit (Below)
open Go.Proofs

set_option maxHeartbeats 4000000 in
theorem slices_IndexK (w : World) (key : Int) (A : Option Addr) (n c : Nat) (xs : List Int) (R : Rd w 1 A n (xs.map keyCell)) :
    Calls Try.prog 39 #[.slice A n c, .int .u32 key] w (fun ex w' => ∃ v, ex = .returned v ∧ (fun v w' => (∃ z : Int, v = .int .i64 z ∧ (0 ≤ z ↔ key ∈ xs)) ∧ Below w.heap.size w w') v w') := by
  have hlen : xs.length = n := by simpa using R.len
  have hbd := R.bound
  refine calls_of_W #[.tmp 4] 19 Try.func39 rfl Try.results39 Try.ntmps39 rfl ?_
  have M0 := Mem.refl w
  refine W_seq ?_
  refine W_region ?_
  refine wl_q (r_assign (.int _ _) rfl) rfl rfl ?_
  refine wl_nil ?_
  refine thenN ?_
  refine W_seq ?_
  refine W_seq ?_
  refine W_region ?_
  refine wl_q (r_move (.slice _ _ _) rfl) rfl rfl ?_
  refine wl_q (r_lenS Try.underlying41 rfl) rfl rfl ?_
  refine wl_q (r_move (.int _ _) rfl) rfl rfl ?_
  refine wl_nil ?_
  refine thenN ?_
  refine W_block ?_
  refine W_loop (σ := Nat) [0, 1, 7] (fun k => [(8, .int .i64 (k : Int))]) (fun k w' => (k ≤ n ∧ ∀ (j : Nat) (x : Int), j < k → xs[j]? = some x → x ≠ key) ∧ Mem w [] [] w') (fun k => n - k) 0 (agC rfl agN) (⟨⟨by omega, fun j c hj => by omega⟩, M0⟩) ?_
  rintro k ρ1 w1 ⟨⟨hk, hne⟩, hM1⟩
  refine W_seq ?_
  refine W_region ?_
  refine wl_q (r_bin (.bool (decide _)) rfl rfl rfl) rfl rfl ?_
  refine wl_nil ?_
  refine thenN ?_
  refine W_seq ?_
  refine W_condD rfl (fun h9 => ?_) (fun h9 => ?_)
  · skip
    obtain ⟨xk, hxk⟩ := getSome (k := k) hlen (by omega)
    refine W_skip ?_
    refine thenN ?_
    refine W_seq ?_
    refine W_block ?_
    refine W_seq ?_
    refine W_region ?_
    refine wl_q (r_move (.int _ _) rfl) rfl rfl ?_
    refine wl_q (r_assign (.int _ _) rfl) rfl rfl ?_
    refine wl_nil ?_
    refine thenN ?_
    refine W_seq ?_
    refine W_region ?_
    refine wl_q (r_move (.int _ _) rfl) rfl rfl ?_
    refine wl_q (r_move (.slice _ _ _) rfl) rfl rfl ?_
    refine wl_q (r_move (.int _ _) rfl) rfl rfl ?_
    refine wl_q (r_idxR (k) sl41 rfl rfl rfl ((R.mem hM1).below_len (mapGet keyCell hxk)) ((R.mem hM1).someK (mapGet keyCell hxk))) rfl rfl ?_
    refine wl_q (r_ldE0 (.int _ _) one23 (R.mem hM1) (mapGet keyCell hxk) rfl) rfl rfl ?_
    refine wl_q (r_bin (.bool (decide _)) rfl rfl rfl) rfl rfl ?_
    refine wl_nil ?_
    refine thenN ?_
    refine W_condD rfl (fun h16 => ?_) (fun h16 => ?_)
    · skip
      refine W_seq ?_
      refine W_region ?_
      refine wl_q (r_move (.int _ _) rfl) rfl rfl ?_
      refine wl_q (r_assign (.int _ _) rfl) rfl rfl ?_
      refine wl_nil ?_
      refine thenN ?_
      refine W_ret ?_
      refine blkR ?_
      refine thenR ?_
      refine roundR ?_
      refine blkR ?_
      refine thenR ?_
      skip
      refine fin1 (.int _ _) rfl ?_
      exact ⟨⟨_, rfl, fun _ => by rw [h16]; exact List.mem_of_getElem? hxk, fun _ => by omega⟩, hM1.below⟩
    · skip
      refine W_skip ?_
      refine blkN ?_
      refine thenN ?_
      refine W_region ?_
      refine wl_q (r_add rfl rfl (by omega) (by omega)) rfl rfl ?_
      refine wl_q (r_move (.int _ _) rfl) rfl rfl ?_
      refine wl_nil ?_
      refine roundN (k + 1) (agC rfl agN) (akC rfl (akC rfl (akC rfl akN))) ?_ ?_
      · exact ⟨⟨by omega, allNext (p := fun _ x => x ≠ key) hne hxk (fun e => h16 e.symm)⟩, hM1⟩
      · omega
  · skip
    refine W_exit ?_
    refine thenX ?_
    refine roundX ?_
    refine blkH ?_
    refine thenN ?_
    refine W_seq ?_
    refine W_region ?_
    refine wl_q (r_assign (.int _ _) rfl) rfl rfl ?_
    refine wl_nil ?_
    refine thenN ?_
    refine W_ret ?_
    skip
    refine fin1 (.int _ _) rfl ?_
    exact ⟨⟨_, rfl, fun h => by omega, fun h => by obtain ⟨j, hj⟩ := List.getElem?_of_mem h; exact absurd rfl (hne j key (by have := (List.getElem?_eq_some_iff.1 hj).1; omega) hj)⟩, hM1.below⟩

set_option maxHeartbeats 4000000 in
theorem slices_ContainsK (w : World) (key : Int) (A : Option Addr) (n c : Nat) (xs : List Int) (R : Rd w 1 A n (xs.map keyCell)) :
    Calls Try.prog 32 #[.slice A n c, .int .u32 key] w (fun ex w' => ∃ v, ex = .returned v ∧ (fun v w' => v = .bool (decide (key ∈ xs)) ∧ Below w.heap.size w w') v w') := by
  refine calls_of_W #[.tmp 4] 9 Try.func32 rfl Try.results32 Try.ntmps32 rfl ?_
  have M0 := Mem.refl w
  refine W_seq ?_
  refine W_region ?_
  refine wl_q (r_assign (.bool false) rfl) rfl rfl ?_
  refine wl_nil ?_
  refine thenN ?_
  refine W_seq ?_
  refine W_region ?_
  refine wl_q (r_move (.slice _ _ _) rfl) rfl rfl ?_
  refine wl_q (r_move (.int _ _) rfl) rfl rfl ?_
  refine wl_cal cal39 rfl rfl rfl ?_
  refine (slices_IndexK _ key _ _ _ xs (R.mem M0)).mono ?_
  rintro _ w1 ⟨v1, rfl, ⟨⟨z1, rfl, hz⟩, hb1⟩⟩
  refine ⟨_, rfl, ?_⟩
  have M1 := M0.callB hb1
  refine wl_q (r_bin (.bool (decide _)) rfl rfl rfl) rfl rfl ?_
  refine wl_q (r_assign (.bool (decide _)) rfl) rfl rfl ?_
  refine wl_nil ?_
  refine thenN ?_
  refine W_ret ?_
  skip
  refine fin1 (.bool (decide _)) rfl ?_
  exact ⟨bD hz, M1.below⟩

set_option maxHeartbeats 4000000 in
theorem view_Apply1_x (w : World) (b bo : Nat) (r0 : Row) (l : List Body) (hr0 : RowIs 38 10 r0.A r0.n r0.c ((l).map bodyCells) r0.e) (h0 : r0.n ≤ 1048576) (C0 C1 C2 : Option Addr) (cn0 cc0 cn1 cc1 cn2 cc2 : Nat) (ck : List Int) (RC : Rd w 1 C2 cn2 (ck.map keyCell)) (hdC : 0 < cn2 → ∀ q off, C2 = some ⟨q, off, none⟩ → q ∉ blks [(some b, bc [.slice C0 cn0 cc0, .slice C1 cn1 cc1, .slice C2 cn2 cc2] 45), (some bo, bc [.slice r0.A r0.n r0.c] 22), r0.e]) (hO : Own [(some b, bc [.slice C0 cn0 cc0, .slice C1 cn1 cc1, .slice C2 cn2 cc2] 45), (some bo, bc [.slice r0.A r0.n r0.c] 22), r0.e] w) (A : Option Addr) (n : Nat) (xs : List Body) (R : Rd w 10 A n (xs.map bodyCells)) (hd : 0 < n → ∀ q off, A = some ⟨q, off, none⟩ → q ∉ blks [(some b, bc [.slice C0 cn0 cc0, .slice C1 cn1 cc1, .slice C2 cn2 cc2] 45), (some bo, bc [.slice r0.A r0.n r0.c] 22), r0.e]) (i : Nat) (xa : Body) (hxa : xs[i]? = some xa) :
    Calls Try.prog 31 #[elt A (i * 10), .pointer none, .pointer (some ⟨b, 0, none⟩), .pointer (some ⟨bo, 0, none⟩)] w (fun ex w' => ∃ v, ex = .returned v ∧ (fun v w' => v = .tuple #[] ∧ ∃ (q : Row), RowIs 38 10 q.A q.n q.c ((l).map bodyCells) q.e ∧ Mem w (blks [(some b, bc [.slice C0 cn0 cc0, .slice C1 cn1 cc1, .slice C2 cn2 cc2] 45), (some bo, bc [.slice r0.A r0.n r0.c] 22), r0.e]) [(some b, bc [.slice C0 cn0 cc0, .slice C1 cn1 cc1, .slice C2 cn2 cc2] 45), (some bo, bc [.slice q.A q.n q.c] 22), q.e] w') v w') := by
  refine calls_of_W #[] 33 Try.func31 rfl Try.results31 Try.ntmps31 rfl ?_
  have M0 := hO.mem
  refine W_block ?_
  refine W_seq ?_
  refine W_region ?_
  refine wl_q (r_move (.pointer _) rfl) rfl rfl ?_
  refine wl_q (r_eqPtrNil true Try.underlying59 rfl rfl) rfl rfl ?_
  refine wl_q (r_assign (.bool true) rfl) rfl rfl ?_
  refine wl_nil ?_
  refine thenN ?_
  refine W_condT rfl ?_
  refine W_skip ?_
  refine blkN ?_
  refine fin0n ?_
  exact ⟨rfl, r0, by simpa using hr0, M0.keep [true, true, true]⟩

set_option maxHeartbeats 4000000 in
theorem view_Apply1_y (w : World) (b bo : Nat) (r0 : Row) (l : List Body) (hr0 : RowIs 38 10 r0.A r0.n r0.c ((l).map bodyCells) r0.e) (h0 : r0.n ≤ 1048576) (C0 C1 C2 : Option Addr) (cn0 cc0 cn1 cc1 cn2 cc2 : Nat) (ck : List Int) (RC : Rd w 1 C2 cn2 (ck.map keyCell)) (hdC : 0 < cn2 → ∀ q off, C2 = some ⟨q, off, none⟩ → q ∉ blks [(some b, bc [.slice C0 cn0 cc0, .slice C1 cn1 cc1, .slice C2 cn2 cc2] 45), (some bo, bc [.slice r0.A r0.n r0.c] 22), r0.e]) (hO : Own [(some b, bc [.slice C0 cn0 cc0, .slice C1 cn1 cc1, .slice C2 cn2 cc2] 45), (some bo, bc [.slice r0.A r0.n r0.c] 22), r0.e] w) (B : Option Addr) (m : Nat) (ys : List Body) (R' : Rd w 10 B m (ys.map bodyCells)) (hd' : 0 < m → ∀ q off, B = some ⟨q, off, none⟩ → q ∉ blks [(some b, bc [.slice C0 cn0 cc0, .slice C1 cn1 cc1, .slice C2 cn2 cc2] 45), (some bo, bc [.slice r0.A r0.n r0.c] 22), r0.e]) (j : Nat) (ya : Body) (hya : ys[j]? = some ya) :
    Calls Try.prog 31 #[.pointer none, elt B (j * 10), .pointer (some ⟨b, 0, none⟩), .pointer (some ⟨bo, 0, none⟩)] w (fun ex w' => ∃ v, ex = .returned v ∧ (fun v w' => v = .tuple #[] ∧ ∃ (q : Row), RowIs 38 10 q.A q.n q.c ((l ++ [ya]).map bodyCells) q.e ∧ Mem w (blks [(some b, bc [.slice C0 cn0 cc0, .slice C1 cn1 cc1, .slice C2 cn2 cc2] 45), (some bo, bc [.slice r0.A r0.n r0.c] 22), r0.e]) [(some b, bc [.slice C0 cn0 cc0, .slice C1 cn1 cc1, .slice C2 cn2 cc2] 45), (some bo, bc [.slice q.A q.n q.c] 22), q.e] w') v w') := by
  refine calls_of_W #[] 33 Try.func31 rfl Try.results31 Try.ntmps31 rfl ?_
  have M0 := hO.mem
  refine W_block ?_
  refine W_seq ?_
  refine W_region ?_
  refine wl_q (r_move (elt _ _) rfl) rfl rfl ?_
  refine wl_q (r_eqPtrNilE Try.underlying59 (R'.memY M0 hd') (mapGet bodyCells hya) rfl) rfl rfl ?_
  refine wl_q (r_assign (.bool false) rfl) rfl rfl ?_
  refine wl_nil ?_
  refine thenN ?_
  refine W_condF rfl ?_
  refine W_seq ?_
  refine W_draw [(0, 0), (1, 0), (2, 0), (3, 0), (4, 1), (5, 0), (6, 0), (7, 0), (8, 1), (9, 2), (10, 0), (11, 0)] mixed rfl (by kernel_rfl) (fun w1 hb1 hh1 => ?_)
  have M1 := M0.drew hb1 hh1
  refine D_p rfl rfl rfl (fun _ => r_move (.pointer _) rfl) ?_
  refine D_p rfl rfl rfl (fun _ => r_eqPtrNil true Try.underlying59 rfl rfl) ?_
  refine D_p rfl rfl rfl (fun _ => r_move (.bool true) rfl) ?_
  refine D_s rfl rfl rfl ?_
  refine D_s1 rfl rfl rfl ?_
  refine D_s rfl rfl rfl ?_
  refine D_s rfl rfl rfl ?_
  refine D_s rfl rfl rfl ?_
  refine D_s1 rfl rfl rfl ?_
  refine D_e [true, true] rfl (by kernel_rfl) ?_
  refine wl_skip rfl rfl ?_
  refine wl_nil (thenN ⟨alN, ?_⟩)
  refine D_p rfl rfl rfl (fun _ => r_pick true (.bool true) rfl rfl) ?_
  refine D_p rfl rfl rfl (fun _ => r_assign (.bool true) rfl) ?_
  refine D_nil ?_
  refine thenN ?_
  refine W_condT rfl ?_
  refine W_draw [(0, 1), (1, 0), (2, 1), (3, 1), (4, 2), (5, 2), (6, 2)] mixed rfl (by kernel_rfl) (fun w2 hb2 hh2 => ?_)
  have M2 := M1.drew hb2 hh2
  refine D_r rfl rfl rfl (r_ld 1 (.slice _ _ _) one22 M2 rfl rfl rfl) ?_
  refine D_p rfl rfl rfl (fun _ => r_move (elt _ _) rfl) ?_
  refine D_r rfl rfl rfl (r_nilCheckE (R'.memY M2 hd') (Nat.lt_of_le_of_lt (Nat.zero_le _) ((R'.memY M2 hd').below_len (mapGet bodyCells hya))) rfl) ?_
  refine D_r rfl rfl rfl (r_ldEA _ agg38 (R'.memY M2 hd') (mapGet bodyCells hya) rfl) ?_
  refine D_e [true, true, false] rfl (by kernel_rfl) ?_
  refine wl_bslice [.agg (List.toArray _)] _ rfl sl22 M2 rfl rfl rfl rfl (lens_of rfl) (by decide) (fun b3 w3 M3 => ?_)
  refine wl_nil (thenN ⟨(alC (Yl_of rfl (r_ld 1 (.slice _ _ _) one22 M3 rfl rfl rfl)) alN), ?_⟩)
  refine D_e [true] rfl (by kernel_rfl) ?_
  refine wl_append 2 [bodyCells ya] sl22 M3 rfl rfl rfl rfl rfl hr0 rfl (by simpa using ⟨bodyCells_len ya, bodyCells_one ya⟩) (Cells.ofMem 3 M3 rfl) (by omega) (fun A4 c4 e4 w4 M4 hR4 => ?_)
  refine wl_nil (thenN ⟨alN, ?_⟩)
  refine D_e [] rfl (by kernel_rfl) ?_
  refine wl_st 1 (.slice _ _ _) one22 M4 rfl rfl rfl rfl rfl rfl (fun w5 M5 => ?_)
  refine wl_nil (thenN ⟨alN, ?_⟩)
  refine D_nil ?_
  refine blkN ?_
  refine fin0n ?_
  exact ⟨rfl, ⟨A4, r0.n + 1, c4, e4⟩, by simpa using hR4, M5.keep [true, true, true, false]⟩

set_option maxHeartbeats 4000000 in
theorem view_Apply1_xy (w : World) (b bo : Nat) (r0 : Row) (l : List Body) (hr0 : RowIs 38 10 r0.A r0.n r0.c ((l).map bodyCells) r0.e) (h0 : r0.n ≤ 1048576) (C0 C1 C2 : Option Addr) (cn0 cc0 cn1 cc1 cn2 cc2 : Nat) (ck : List Int) (RC : Rd w 1 C2 cn2 (ck.map keyCell)) (hdC : 0 < cn2 → ∀ q off, C2 = some ⟨q, off, none⟩ → q ∉ blks [(some b, bc [.slice C0 cn0 cc0, .slice C1 cn1 cc1, .slice C2 cn2 cc2] 45), (some bo, bc [.slice r0.A r0.n r0.c] 22), r0.e]) (hO : Own [(some b, bc [.slice C0 cn0 cc0, .slice C1 cn1 cc1, .slice C2 cn2 cc2] 45), (some bo, bc [.slice r0.A r0.n r0.c] 22), r0.e] w) (A : Option Addr) (n : Nat) (xs : List Body) (R : Rd w 10 A n (xs.map bodyCells)) (hd : 0 < n → ∀ q off, A = some ⟨q, off, none⟩ → q ∉ blks [(some b, bc [.slice C0 cn0 cc0, .slice C1 cn1 cc1, .slice C2 cn2 cc2] 45), (some bo, bc [.slice r0.A r0.n r0.c] 22), r0.e]) (i : Nat) (xa : Body) (hxa : xs[i]? = some xa) (B : Option Addr) (m : Nat) (ys : List Body) (R' : Rd w 10 B m (ys.map bodyCells)) (hd' : 0 < m → ∀ q off, B = some ⟨q, off, none⟩ → q ∉ blks [(some b, bc [.slice C0 cn0 cc0, .slice C1 cn1 cc1, .slice C2 cn2 cc2] 45), (some bo, bc [.slice r0.A r0.n r0.c] 22), r0.e]) (j : Nat) (ya : Body) (hya : ys[j]? = some ya) :
    Calls Try.prog 31 #[elt A (i * 10), elt B (j * 10), .pointer (some ⟨b, 0, none⟩), .pointer (some ⟨bo, 0, none⟩)] w (fun ex w' => ∃ v, ex = .returned v ∧ (fun v w' => v = .tuple #[] ∧ ∃ (q : Row), RowIs 38 10 q.A q.n q.c ((l ++ [if xa.key ∈ ck then ya else xa]).map bodyCells) q.e ∧ Mem w (blks [(some b, bc [.slice C0 cn0 cc0, .slice C1 cn1 cc1, .slice C2 cn2 cc2] 45), (some bo, bc [.slice r0.A r0.n r0.c] 22), r0.e]) [(some b, bc [.slice C0 cn0 cc0, .slice C1 cn1 cc1, .slice C2 cn2 cc2] 45), (some bo, bc [.slice q.A q.n q.c] 22), q.e] w') v w') := by
  refine calls_of_W #[] 33 Try.func31 rfl Try.results31 Try.ntmps31 rfl ?_
  have M0 := hO.mem
  refine W_block ?_
  refine W_seq ?_
  refine W_region ?_
  refine wl_q (r_move (elt _ _) rfl) rfl rfl ?_
  refine wl_q (r_eqPtrNilE Try.underlying59 (R'.memY M0 hd') (mapGet bodyCells hya) rfl) rfl rfl ?_
  refine wl_q (r_assign (.bool false) rfl) rfl rfl ?_
  refine wl_nil ?_
  refine thenN ?_
  refine W_condF rfl ?_
  refine W_seq ?_
  refine W_draw [(0, 0), (1, 1), (2, 0), (3, 0), (4, 1), (5, 0), (6, 1), (7, 1), (8, 1), (9, 2), (10, 0), (11, 0)] mixed rfl (by kernel_rfl) (fun w1 hb1 hh1 => ?_)
  have M1 := M0.drew hb1 hh1
  refine D_p rfl rfl rfl (fun _ => r_move (elt _ _) rfl) ?_
  refine D_r rfl rfl rfl (r_eqPtrNilE Try.underlying59 (R.memY M1 hd) (mapGet bodyCells hxa) rfl) ?_
  refine D_p rfl rfl rfl (fun _ => r_move (.bool false) rfl) ?_
  refine D_p rfl rfl rfl (fun _ => r_fieldAddr 2 fld45_2 rfl) ?_
  refine D_r rfl rfl rfl (r_ld 0 (.slice _ _ _) one41 M1 rfl rfl rfl) ?_
  refine D_p rfl rfl rfl (fun _ => r_move (elt _ _) rfl) ?_
  refine D_r rfl rfl rfl (r_nilCheckE (R.memY M1 hd) (Nat.lt_of_le_of_lt (Nat.zero_le _) ((R.memY M1 hd).below_len (mapGet bodyCells hxa))) rfl) ?_
  refine D_r rfl rfl rfl (r_fieldAddrE 0 fld38_0 (R.memY M1 hd) (Nat.lt_of_le_of_lt (Nat.zero_le _) ((R.memY M1 hd).below_len (mapGet bodyCells hxa))) rfl) ?_
  refine D_r rfl rfl rfl (r_ldE (o := 0) (.int _ _) one23 (R.memY M1 hd) (mapGet bodyCells hxa) rfl rfl) ?_
  refine D_e [true, true, true, true, true] rfl (by kernel_rfl) ?_
  refine wl_cal cal32 rfl rfl rfl ?_
  refine (slices_ContainsK _ xa.key _ _ _ ck (RC.memY M1 hdC)).mono ?_
  rintro _ w2 ⟨v2, rfl, ⟨rfl, hb2⟩⟩
  refine ⟨_, rfl, ?_⟩
  have M2 := M1.callB hb2
  refine wl_nil (thenN ⟨alN, ?_⟩)
  refine D_p rfl rfl rfl (fun _ => r_pick false (.bool (decide _)) rfl rfl) ?_
  refine D_p rfl rfl rfl (fun _ => r_assign (.bool (decide _)) rfl) ?_
  refine D_nil ?_
  refine thenN ?_
  refine W_condD rfl (fun h15 => ?_) (fun h15 => ?_)
  · skip
    rw [if_pos h15]
    refine W_draw [(0, 1), (1, 0), (2, 1), (3, 1), (4, 2), (5, 2), (6, 2)] mixed rfl (by kernel_rfl) (fun w3 hb3 hh3 => ?_)
    have M3 := M2.drew hb3 hh3
    refine D_r rfl rfl rfl (r_ld 1 (.slice _ _ _) one22 M3 rfl rfl rfl) ?_
    refine D_p rfl rfl rfl (fun _ => r_move (elt _ _) rfl) ?_
    refine D_r rfl rfl rfl (r_nilCheckE (R'.memY M3 hd') (Nat.lt_of_le_of_lt (Nat.zero_le _) ((R'.memY M3 hd').below_len (mapGet bodyCells hya))) rfl) ?_
    refine D_r rfl rfl rfl (r_ldEA _ agg38 (R'.memY M3 hd') (mapGet bodyCells hya) rfl) ?_
    refine D_e [true, true, false] rfl (by kernel_rfl) ?_
    refine wl_bslice [.agg (List.toArray _)] _ rfl sl22 M3 rfl rfl rfl rfl (lens_of rfl) (by decide) (fun b4 w4 M4 => ?_)
    refine wl_nil (thenN ⟨(alC (Yl_of rfl (r_ld 1 (.slice _ _ _) one22 M4 rfl rfl rfl)) alN), ?_⟩)
    refine D_e [true] rfl (by kernel_rfl) ?_
    refine wl_append 2 [bodyCells ya] sl22 M4 rfl rfl rfl rfl rfl hr0 rfl (by simpa using ⟨bodyCells_len ya, bodyCells_one ya⟩) (Cells.ofMem 3 M4 rfl) (by omega) (fun A5 c5 e5 w5 M5 hR5 => ?_)
    refine wl_nil (thenN ⟨alN, ?_⟩)
    refine D_e [] rfl (by kernel_rfl) ?_
    refine wl_st 1 (.slice _ _ _) one22 M5 rfl rfl rfl rfl rfl rfl (fun w6 M6 => ?_)
    refine wl_nil (thenN ⟨alN, ?_⟩)
    refine D_nil ?_
    refine blkN ?_
    refine fin0n ?_
    exact ⟨rfl, ⟨A5, r0.n + 1, c5, e5⟩, by simpa using hR5, M6.keep [true, true, true, false]⟩
  · skip
    rw [if_neg h15]
    refine W_draw [(0, 1), (1, 0), (2, 1), (3, 1), (4, 2), (5, 2), (6, 2)] mixed rfl (by kernel_rfl) (fun w7 hb7 hh7 => ?_)
    have M7 := M2.drew hb7 hh7
    refine D_r rfl rfl rfl (r_ld 1 (.slice _ _ _) one22 M7 rfl rfl rfl) ?_
    refine D_p rfl rfl rfl (fun _ => r_move (elt _ _) rfl) ?_
    refine D_r rfl rfl rfl (r_nilCheckE (R.memY M7 hd) (Nat.lt_of_le_of_lt (Nat.zero_le _) ((R.memY M7 hd).below_len (mapGet bodyCells hxa))) rfl) ?_
    refine D_r rfl rfl rfl (r_ldEA _ agg38 (R.memY M7 hd) (mapGet bodyCells hxa) rfl) ?_
    refine D_e [true, true, false] rfl (by kernel_rfl) ?_
    refine wl_bslice [.agg (List.toArray _)] _ rfl sl22 M7 rfl rfl rfl rfl (lens_of rfl) (by decide) (fun b8 w8 M8 => ?_)
    refine wl_nil (thenN ⟨(alC (Yl_of rfl (r_ld 1 (.slice _ _ _) one22 M8 rfl rfl rfl)) alN), ?_⟩)
    refine D_e [true] rfl (by kernel_rfl) ?_
    refine wl_append 2 [bodyCells xa] sl22 M8 rfl rfl rfl rfl rfl hr0 rfl (by simpa using ⟨bodyCells_len xa, bodyCells_one xa⟩) (Cells.ofMem 3 M8 rfl) (by omega) (fun A9 c9 e9 w9 M9 hR9 => ?_)
    refine wl_nil (thenN ⟨alN, ?_⟩)
    refine D_e [] rfl (by kernel_rfl) ?_
    refine wl_st 1 (.slice _ _ _) one22 M9 rfl rfl rfl rfl rfl rfl (fun w10 M10 => ?_)
    refine wl_nil (thenN ⟨alN, ?_⟩)
    refine D_nil ?_
    refine blkN ?_
    refine fin0n ?_
    exact ⟨rfl, ⟨A9, r0.n + 1, c9, e9⟩, by simpa using hR9, M10.keep [true, true, true, false]⟩

set_option maxHeartbeats 16000000 in
theorem view_mergeA (w : World) (A : Option Addr) (n c : Nat) (xs : List Body) (R : Rd w 10 A n (xs.map bodyCells)) (hn : n ≤ 1048576) (B : Option Addr) (m c' : Nat) (ys : List Body) (R' : Rd w 10 B m (ys.map bodyCells)) (hm : m ≤ 1048576) (hs : Sorted xs) (hs' : Sorted ys) (b bo : Nat) (C0 C1 C2 : Option Addr) (cn0 cc0 cn1 cc1 cn2 cc2 : Nat) (ck : List Int) (RC : Rd w 1 C2 cn2 (ck.map keyCell)) (hO : Own [(some b, bc [.slice C0 cn0 cc0, .slice C1 cn1 cc1, .slice C2 cn2 cc2] 45), (some bo, bc [.slice none 0 0] 22), (none, default)] w) (hdA : 0 < n → ∀ q off, A = some ⟨q, off, none⟩ → q ∉ blks [(some b, bc [.slice C0 cn0 cc0, .slice C1 cn1 cc1, .slice C2 cn2 cc2] 45), (some bo, bc [.slice none 0 0] 22), (none, default)]) (hdB : 0 < m → ∀ q off, B = some ⟨q, off, none⟩ → q ∉ blks [(some b, bc [.slice C0 cn0 cc0, .slice C1 cn1 cc1, .slice C2 cn2 cc2] 45), (some bo, bc [.slice none 0 0] 22), (none, default)]) (hdC : 0 < cn2 → ∀ q off, C2 = some ⟨q, off, none⟩ → q ∉ blks [(some b, bc [.slice C0 cn0 cc0, .slice C1 cn1 cc1, .slice C2 cn2 cc2] 45), (some bo, bc [.slice none 0 0] 22), (none, default)]) :
    Calls Try.prog 29 #[.slice A n c, .slice B m c', .func (.func 31) #[] #[.pointer (some ⟨b, 0, none⟩), .pointer (some ⟨bo, 0, none⟩)]] w (fun ex w' => ∃ v, ex = .returned v ∧ (fun v w' => v = .tuple #[] ∧ ∃ (q : Row), RowIs 38 10 q.A q.n q.c ((applyL xs ck ys).map bodyCells) q.e ∧ Mem w (blks [(some b, bc [.slice C0 cn0 cc0, .slice C1 cn1 cc1, .slice C2 cn2 cc2] 45), (some bo, bc [.slice none 0 0] 22), (none, default)]) [(some b, bc [.slice C0 cn0 cc0, .slice C1 cn1 cc1, .slice C2 cn2 cc2] 45), (some bo, bc [.slice q.A q.n q.c] 22), q.e] w') v w') := by
  have hlen : xs.length = n := by simpa using R.len
  have hbd := R.bound
  have hlen' : ys.length = m := by simpa using R'.len
  refine calls_of_W #[] 86 Try.func29 rfl Try.results29 Try.ntmps29 rfl ?_
  have M0 := hO.mem
  refine W_seq ?_
  refine W_region ?_
  refine wl_q (r_assign (.int _ _) rfl) rfl rfl ?_
  refine wl_q (r_assign (.int _ _) rfl) rfl rfl ?_
  refine wl_nil ?_
  refine thenN ?_
  refine W_block ?_
  refine W_loop (σ := Nat × Nat × Row) [0, 1, 2] (fun (i, k, q0) => [(6, .int .i64 (i : Int)), (7, .int .i64 (k : Int))]) (fun (i, k, q0) w' => (i ≤ n ∧ k ≤ m ∧ Mg xs ys i k ∧ RowIs 38 10 q0.A q0.n q0.c ((applyL xs ck (ys.take k)).map bodyCells) q0.e) ∧ Mem w (blks [(some b, bc [.slice C0 cn0 cc0, .slice C1 cn1 cc1, .slice C2 cn2 cc2] 45), (some bo, bc [.slice none 0 0] 22), (none, default)]) [(some b, bc [.slice C0 cn0 cc0, .slice C1 cn1 cc1, .slice C2 cn2 cc2] 45), (some bo, bc [.slice q0.A q0.n q0.c] 22), q0.e] w') (fun (i, k, q0) => (n - i) + (m - k)) (0, 0, ⟨none, 0, 0, (none, default)⟩) (agC rfl (agC rfl agN)) (⟨⟨by omega, by omega, Mg.init hs hs', (RowIs.nil 38 10 default)⟩, M0⟩) ?_
  rintro ⟨i, k, q0⟩ ρ1 w1 ⟨⟨hi, hk, hMg, hq0⟩, hM1⟩
  have ht0 := applyL_len xs (ys.take k) ck
  have ht3 := List.length_take_le k ys
  have hlq0 : (applyL xs ck (ys.take k)).length = q0.n := by simpa using hq0.1
  refine W_seq ?_
  refine W_seq ?_
  refine W_region ?_
  refine wl_q (r_move (.int _ _) rfl) rfl rfl ?_
  refine wl_q (r_move (.slice _ _ _) rfl) rfl rfl ?_
  refine wl_q (r_lenS Try.underlying22 rfl) rfl rfl ?_
  refine wl_q (r_bin (.bool (decide _)) rfl rfl rfl) rfl rfl ?_
  refine wl_q (r_move (.bool (decide _)) rfl) rfl rfl ?_
  refine wl_splitD 12 rfl (fun g12 => ?_) (fun g12 => ?_)
  · skip
    obtain ⟨xa, hxa⟩ := getSome (k := i) hlen (by omega)
    refine wl_skip rfl rfl ?_
    refine wl_skip rfl rfl ?_
    refine wl_skip rfl rfl ?_
    refine wl_skip rfl rfl ?_
    refine wl_q (r_pick true (.bool true) rfl rfl) rfl rfl ?_
    refine wl_nil ?_
    refine thenN ?_
    refine W_condT rfl ?_
    refine W_skip ?_
    refine thenN ?_
    refine W_block ?_
    refine W_block ?_
    refine W_seq ?_
    refine W_draw [(0, 0), (1, 0), (2, 0), (3, 0), (4, 0), (5, 0), (6, 0), (7, 0), (8, 0), (9, 0), (10, 0), (11, 0), (12, 1), (13, 1), (14, 1), (15, 0), (16, 0), (17, 1), (18, 1), (19, 1), (20, 0), (21, 0), (22, 0), (23, 0)] mixed rfl (by kernel_rfl) (fun w2 hb2 hh2 => ?_)
    have M2 := hM1.drew hb2 hh2
    refine D_p rfl rfl rfl (fun _ => r_move (.int _ _) rfl) ?_
    refine D_p rfl rfl rfl (fun _ => r_move (.slice _ _ _) rfl) ?_
    refine D_p rfl rfl rfl (fun _ => r_lenS Try.underlying22 rfl) ?_
    refine D_p rfl rfl rfl (fun _ => r_bin (.bool (decide _)) rfl rfl rfl) ?_
    refine D_p rfl rfl rfl (fun _ => r_move (.bool (decide _)) rfl) ?_
    refine D_splitD 35 rfl (fun g35 => ?_) (fun g35 => ?_)
    · skip
      refine D_s rfl rfl rfl ?_
      refine D_s rfl rfl rfl ?_
      refine D_s rfl rfl rfl ?_
      refine D_s rfl rfl rfl ?_
      refine D_s rfl rfl rfl ?_
      refine D_s rfl rfl rfl ?_
      refine D_s rfl rfl rfl ?_
      refine D_s1 rfl rfl rfl ?_
      refine D_s1 rfl rfl rfl ?_
      refine D_s1 rfl rfl rfl ?_
      refine D_s rfl rfl rfl ?_
      refine D_s rfl rfl rfl ?_
      refine D_s1 rfl rfl rfl ?_
      refine D_s1 rfl rfl rfl ?_
      refine D_s1 rfl rfl rfl ?_
      refine D_s rfl rfl rfl ?_
      refine D_s rfl rfl rfl ?_
      refine D_p rfl rfl rfl (fun _ => r_pick true (.bool true) rfl rfl) ?_
      refine D_p rfl rfl rfl (fun _ => r_assign (.bool true) rfl) ?_
      refine D_nil ?_
      refine thenN ?_
      refine W_condT rfl ?_
      refine W_seq ?_
      refine W_region ?_
      refine wl_q (r_move (.func _ _ _) rfl) rfl rfl ?_
      refine wl_q (r_move (.slice _ _ _) rfl) rfl rfl ?_
      refine wl_q (r_move (.int _ _) rfl) rfl rfl ?_
      refine wl_q (r_idxR (i) sl22 rfl rfl rfl ((R.memY M2 hdA).below_len (mapGet bodyCells hxa)) ((R.memY M2 hdA).someK (mapGet bodyCells hxa))) rfl rfl ?_
      refine wl_cal cal31 rfl rfl rfl ?_
      refine (view_Apply1_x _ b bo q0 _ hq0 (by omega) C0 C1 C2 cn0 cc0 cn1 cc1 cn2 cc2 ck (RC.memY M2 hdC) (M2.away 0 3 RC hdC) (M2.ownSeg 0 3) A n xs (R.memY M2 hdA) (M2.away 0 3 R hdA) i xa hxa).mono ?_
      rintro _ w3 ⟨v3, rfl, ⟨rfl, p0, hp0, hM3⟩⟩
      refine ⟨_, rfl, ?_⟩
      have M3 : Mem _ _ [_, _, _] _ := M2.seg 0 3 hM3
      refine wl_nil ?_
      refine thenN ?_
      refine W_region ?_
      refine wl_q (r_move (.int _ _) rfl) rfl rfl ?_
      refine wl_q (r_add rfl rfl (by omega) (by omega)) rfl rfl ?_
      refine wl_q (r_assign (.int _ _) rfl) rfl rfl ?_
      refine wl_nil ?_
      refine blkN ?_
      refine blkN ?_
      have hmg := hMg.x hxa (fun b hb => by have := (List.getElem?_eq_some_iff.1 hb).1; omega)
      refine roundN (i + 1, k, p0) (agC rfl (agC rfl agN)) (akC rfl (akC rfl (akC rfl akN))) ?_ ?_
      · exact ⟨⟨by omega, hk, hmg.1, hp0⟩, M3⟩
      · (show (n - (i + 1)) + (m - k) < (n - i) + (m - k); omega)
    · skip
      obtain ⟨ya, hya⟩ := getSome (xs := ys) (k := k) hlen' (by omega)
      refine D_p rfl rfl rfl (fun _ => r_move (.int _ _) rfl) ?_
      refine D_p rfl rfl rfl (fun _ => r_move (.slice _ _ _) rfl) ?_
      refine D_p rfl rfl rfl (fun _ => r_lenS Try.underlying22 rfl) ?_
      refine D_p rfl rfl rfl (fun _ => r_bin (.bool (decide _)) rfl rfl rfl) ?_
      refine D_re 39 (.bool true) (bT (by omega)).symm ?_
      refine D_p rfl rfl rfl (fun _ => r_move (.bool true) rfl) ?_
      refine D_p rfl rfl rfl (fun _ => r_move (.slice _ _ _) rfl) ?_
      refine D_p rfl rfl rfl (fun _ => r_move (.int _ _) rfl) ?_
      refine D_r rfl rfl rfl (r_idxR (i) sl22 rfl rfl rfl ((R.memY M2 hdA).below_len (mapGet bodyCells hxa)) ((R.memY M2 hdA).someK (mapGet bodyCells hxa))) ?_
      refine D_r rfl rfl rfl (r_fieldAddrE 0 fld38_0 (R.memY M2 hdA) (Nat.lt_of_le_of_lt (Nat.zero_le _) ((R.memY M2 hdA).below_len (mapGet bodyCells hxa))) rfl) ?_
      refine D_r rfl rfl rfl (r_ldE (o := 0) (.int _ _) one23 (R.memY M2 hdA) (mapGet bodyCells hxa) rfl rfl) ?_
      refine D_p rfl rfl rfl (fun _ => r_move (.slice _ _ _) rfl) ?_
      refine D_p rfl rfl rfl (fun _ => r_move (.int _ _) rfl) ?_
      refine D_r rfl rfl rfl (r_idxR (k) sl22 rfl rfl rfl ((R'.memY M2 hdB).below_len (mapGet bodyCells hya)) ((R'.memY M2 hdB).someK (mapGet bodyCells hya))) ?_
      refine D_r rfl rfl rfl (r_fieldAddrE 0 fld38_0 (R'.memY M2 hdB) (Nat.lt_of_le_of_lt (Nat.zero_le _) ((R'.memY M2 hdB).below_len (mapGet bodyCells hya))) rfl) ?_
      refine D_r rfl rfl rfl (r_ldE (o := 0) (.int _ _) one23 (R'.memY M2 hdB) (mapGet bodyCells hya) rfl rfl) ?_
      refine D_p rfl rfl rfl (fun _ => r_bin (.bool (decide _)) rfl rfl rfl) ?_
      refine D_p rfl rfl rfl (fun _ => r_pick true (.bool (decide _)) rfl rfl) ?_
      refine D_p rfl rfl rfl (fun _ => r_pick false (.bool (decide _)) rfl rfl) ?_
      refine D_p rfl rfl rfl (fun _ => r_assign (.bool (decide _)) rfl) ?_
      refine D_nil ?_
      refine thenN ?_
      refine W_condD rfl (fun h30 => ?_) (fun h30 => ?_)
      · skip
        refine W_seq ?_
        refine W_region ?_
        refine wl_q (r_move (.func _ _ _) rfl) rfl rfl ?_
        refine wl_q (r_move (.slice _ _ _) rfl) rfl rfl ?_
        refine wl_q (r_move (.int _ _) rfl) rfl rfl ?_
        refine wl_q (r_idxR (i) sl22 rfl rfl rfl ((R.memY M2 hdA).below_len (mapGet bodyCells hxa)) ((R.memY M2 hdA).someK (mapGet bodyCells hxa))) rfl rfl ?_
        refine wl_cal cal31 rfl rfl rfl ?_
        refine (view_Apply1_x _ b bo q0 _ hq0 (by omega) C0 C1 C2 cn0 cc0 cn1 cc1 cn2 cc2 ck (RC.memY M2 hdC) (M2.away 0 3 RC hdC) (M2.ownSeg 0 3) A n xs (R.memY M2 hdA) (M2.away 0 3 R hdA) i xa hxa).mono ?_
        rintro _ w4 ⟨v4, rfl, ⟨rfl, p0, hp0, hM4⟩⟩
        refine ⟨_, rfl, ?_⟩
        have M4 : Mem _ _ [_, _, _] _ := M2.seg 0 3 hM4
        refine wl_nil ?_
        refine thenN ?_
        refine W_region ?_
        refine wl_q (r_move (.int _ _) rfl) rfl rfl ?_
        refine wl_q (r_add rfl rfl (by omega) (by omega)) rfl rfl ?_
        refine wl_q (r_assign (.int _ _) rfl) rfl rfl ?_
        refine wl_nil ?_
        refine blkN ?_
        refine blkN ?_
        have hmg := hMg.x hxa (fun b hb => by rw [hya] at hb; injection hb with hb; subst hb; exact h30)
        refine roundN (i + 1, k, p0) (agC rfl (agC rfl agN)) (akC rfl (akC rfl (akC rfl akN))) ?_ ?_
        · exact ⟨⟨by omega, hk, hmg.1, hp0⟩, M4⟩
        · (show (n - (i + 1)) + (m - k) < (n - i) + (m - k); omega)
      · skip
        refine W_seq ?_
        refine W_draw [(0, 0), (1, 0), (2, 0), (3, 0), (4, 0), (5, 0), (6, 0), (7, 1), (8, 1), (9, 1), (10, 0), (11, 0), (12, 1), (13, 1), (14, 1), (15, 0), (16, 0), (17, 0)] mixed rfl (by kernel_rfl) (fun w5 hb5 hh5 => ?_)
        have M5 := M2.drew hb5 hh5
        refine D_p rfl rfl rfl (fun _ => r_move (.int _ _) rfl) ?_
        refine D_p rfl rfl rfl (fun _ => r_move (.slice _ _ _) rfl) ?_
        refine D_p rfl rfl rfl (fun _ => r_lenS Try.underlying22 rfl) ?_
        refine D_p rfl rfl rfl (fun _ => r_bin (.bool (decide _)) rfl rfl rfl) ?_
        refine D_re 65 (.bool false) (bF (by omega)).symm ?_
        refine D_p rfl rfl rfl (fun _ => r_move (.bool false) rfl) ?_
        refine D_p rfl rfl rfl (fun _ => r_move (.slice _ _ _) rfl) ?_
        refine D_p rfl rfl rfl (fun _ => r_move (.int _ _) rfl) ?_
        refine D_r rfl rfl rfl (r_idxR (k) sl22 rfl rfl rfl ((R'.memY M5 hdB).below_len (mapGet bodyCells hya)) ((R'.memY M5 hdB).someK (mapGet bodyCells hya))) ?_
        refine D_r rfl rfl rfl (r_fieldAddrE 0 fld38_0 (R'.memY M5 hdB) (Nat.lt_of_le_of_lt (Nat.zero_le _) ((R'.memY M5 hdB).below_len (mapGet bodyCells hya))) rfl) ?_
        refine D_r rfl rfl rfl (r_ldE (o := 0) (.int _ _) one23 (R'.memY M5 hdB) (mapGet bodyCells hya) rfl rfl) ?_
        refine D_p rfl rfl rfl (fun _ => r_move (.slice _ _ _) rfl) ?_
        refine D_p rfl rfl rfl (fun _ => r_move (.int _ _) rfl) ?_
        refine D_r rfl rfl rfl (r_idxR (i) sl22 rfl rfl rfl ((R.memY M5 hdA).below_len (mapGet bodyCells hxa)) ((R.memY M5 hdA).someK (mapGet bodyCells hxa))) ?_
        refine D_r rfl rfl rfl (r_fieldAddrE 0 fld38_0 (R.memY M5 hdA) (Nat.lt_of_le_of_lt (Nat.zero_le _) ((R.memY M5 hdA).below_len (mapGet bodyCells hxa))) rfl) ?_
        refine D_r rfl rfl rfl (r_ldE (o := 0) (.int _ _) one23 (R.memY M5 hdA) (mapGet bodyCells hxa) rfl rfl) ?_
        refine D_p rfl rfl rfl (fun _ => r_bin (.bool (decide _)) rfl rfl rfl) ?_
        refine D_p rfl rfl rfl (fun _ => r_pick false (.bool (decide _)) rfl rfl) ?_
        refine D_p rfl rfl rfl (fun _ => r_assign (.bool (decide _)) rfl) ?_
        refine D_nil ?_
        refine thenN ?_
        refine W_condD rfl (fun h61 => ?_) (fun h61 => ?_)
        · skip
          refine W_seq ?_
          refine W_region ?_
          refine wl_q (r_move (.func _ _ _) rfl) rfl rfl ?_
          refine wl_q (r_move (.slice _ _ _) rfl) rfl rfl ?_
          refine wl_q (r_move (.int _ _) rfl) rfl rfl ?_
          refine wl_q (r_idxR (k) sl22 rfl rfl rfl ((R'.memY M5 hdB).below_len (mapGet bodyCells hya)) ((R'.memY M5 hdB).someK (mapGet bodyCells hya))) rfl rfl ?_
          refine wl_cal cal31 rfl rfl rfl ?_
          refine (view_Apply1_y _ b bo q0 _ hq0 (by omega) C0 C1 C2 cn0 cc0 cn1 cc1 cn2 cc2 ck (RC.memY M5 hdC) (M5.away 0 3 RC hdC) (M5.ownSeg 0 3) B m ys (R'.memY M5 hdB) (M5.away 0 3 R' hdB) k ya hya).mono ?_
          rintro _ w6 ⟨v6, rfl, ⟨rfl, p0, hp0, hM6⟩⟩
          refine ⟨_, rfl, ?_⟩
          have M6 : Mem _ _ [_, _, _] _ := M5.seg 0 3 hM6
          refine wl_nil ?_
          refine thenN ?_
          refine W_region ?_
          refine wl_q (r_move (.int _ _) rfl) rfl rfl ?_
          refine wl_q (r_add rfl rfl (by omega) (by omega)) rfl rfl ?_
          refine wl_q (r_assign (.int _ _) rfl) rfl rfl ?_
          refine wl_nil ?_
          refine blkN ?_
          refine blkN ?_
          have hmg := hMg.y hya (fun a ha => by rw [hxa] at ha; injection ha with ha; subst ha; exact h61)
          refine roundN (i, k + 1, p0) (agC rfl (agC rfl agN)) (akC rfl (akC rfl (akC rfl akN))) ?_ ?_
          · exact ⟨⟨hi, by omega, hmg.1, by rw [applyL_snoc hya, pickA_none hmg.2]; exact hp0⟩, M6⟩
          · (show (n - i) + (m - (k + 1)) < (n - i) + (m - k); omega)
        · skip
          refine W_seq ?_
          refine W_draw [(0, 0), (1, 0), (2, 0), (3, 1), (4, 0), (5, 0), (6, 1), (7, 2)] mixed rfl (by kernel_rfl) (fun w7 hb7 hh7 => ?_)
          have M7 := M5.drew hb7 hh7
          refine D_p rfl rfl rfl (fun _ => r_move (.func _ _ _) rfl) ?_
          refine D_p rfl rfl rfl (fun _ => r_move (.slice _ _ _) rfl) ?_
          refine D_p rfl rfl rfl (fun _ => r_move (.int _ _) rfl) ?_
          refine D_r rfl rfl rfl (r_idxR (i) sl22 rfl rfl rfl ((R.memY M7 hdA).below_len (mapGet bodyCells hxa)) ((R.memY M7 hdA).someK (mapGet bodyCells hxa))) ?_
          refine D_p rfl rfl rfl (fun _ => r_move (.slice _ _ _) rfl) ?_
          refine D_p rfl rfl rfl (fun _ => r_move (.int _ _) rfl) ?_
          refine D_r rfl rfl rfl (r_idxR (k) sl22 rfl rfl rfl ((R'.memY M7 hdB).below_len (mapGet bodyCells hya)) ((R'.memY M7 hdB).someK (mapGet bodyCells hya))) ?_
          refine D_e [true, true] rfl (by kernel_rfl) ?_
          refine wl_cal cal31 rfl rfl rfl ?_
          refine (view_Apply1_xy _ b bo q0 _ hq0 (by omega) C0 C1 C2 cn0 cc0 cn1 cc1 cn2 cc2 ck (RC.memY M7 hdC) (M7.away 0 3 RC hdC) (M7.ownSeg 0 3) A n xs (R.memY M7 hdA) (M7.away 0 3 R hdA) i xa hxa B m ys (R'.memY M7 hdB) (M7.away 0 3 R' hdB) k ya hya).mono ?_
          rintro _ w8 ⟨v8, rfl, ⟨rfl, p0, hp0, hM8⟩⟩
          refine ⟨_, rfl, ?_⟩
          have M8 : Mem _ _ [_, _, _] _ := M7.seg 0 3 hM8
          refine wl_nil (thenN ⟨alN, ?_⟩)
          refine D_nil ?_
          refine thenN ?_
          refine W_seq ?_
          refine W_region ?_
          refine wl_q (r_move (.int _ _) rfl) rfl rfl ?_
          refine wl_q (r_add rfl rfl (by omega) (by omega)) rfl rfl ?_
          refine wl_q (r_assign (.int _ _) rfl) rfl rfl ?_
          refine wl_nil ?_
          refine thenN ?_
          refine W_region ?_
          refine wl_q (r_move (.int _ _) rfl) rfl rfl ?_
          refine wl_q (r_add rfl rfl (by omega) (by omega)) rfl rfl ?_
          refine wl_q (r_assign (.int _ _) rfl) rfl rfl ?_
          refine wl_nil ?_
          refine blkN ?_
          refine blkN ?_
          obtain ⟨hmg, hf1, hf2⟩ := hMg.both hxa hya (by omega)
          refine roundN (i + 1, k + 1, p0) (agC rfl (agC rfl agN)) (akC rfl (akC rfl (akC rfl akN))) ?_ ?_
          · exact ⟨⟨by omega, by omega, hmg, by rw [applyL_snoc hya, pickA_some hxa hf2]; exact hp0⟩, M8⟩
          · (show (n - (i + 1)) + (m - (k + 1)) < (n - i) + (m - k); omega)
  · skip
    refine wl_q (r_move (.int _ _) rfl) rfl rfl ?_
    refine wl_q (r_move (.slice _ _ _) rfl) rfl rfl ?_
    refine wl_q (r_lenS Try.underlying22 rfl) rfl rfl ?_
    refine wl_q (r_bin (.bool (decide _)) rfl rfl rfl) rfl rfl ?_
    refine wl_q (r_pick false (.bool (decide _)) rfl rfl) rfl rfl ?_
    refine wl_nil ?_
    refine thenN ?_
    refine W_condD rfl (fun h17 => ?_) (fun h17 => ?_)
    · skip
      obtain ⟨ya, hya⟩ := getSome (xs := ys) (k := k) hlen' (by omega)
      refine W_skip ?_
      refine thenN ?_
      refine W_block ?_
      refine W_block ?_
      refine W_seq ?_
      refine W_draw [(0, 0), (1, 0), (2, 0), (3, 0), (4, 0), (5, 0), (6, 0), (7, 0), (8, 0), (9, 0), (10, 0), (11, 0), (12, 1), (13, 1), (14, 1), (15, 0), (16, 0), (17, 1), (18, 1), (19, 1), (20, 0), (21, 0), (22, 0), (23, 0)] mixed rfl (by kernel_rfl) (fun w9 hb9 hh9 => ?_)
      have M9 := hM1.drew hb9 hh9
      refine D_p rfl rfl rfl (fun _ => r_move (.int _ _) rfl) ?_
      refine D_p rfl rfl rfl (fun _ => r_move (.slice _ _ _) rfl) ?_
      refine D_p rfl rfl rfl (fun _ => r_lenS Try.underlying22 rfl) ?_
      refine D_p rfl rfl rfl (fun _ => r_bin (.bool (decide _)) rfl rfl rfl) ?_
      refine D_re 34 (.bool false) (bF (by omega)).symm ?_
      refine D_p rfl rfl rfl (fun _ => r_move (.bool false) rfl) ?_
      refine D_p rfl rfl rfl (fun _ => r_move (.int _ _) rfl) ?_
      refine D_p rfl rfl rfl (fun _ => r_move (.slice _ _ _) rfl) ?_
      refine D_p rfl rfl rfl (fun _ => r_lenS Try.underlying22 rfl) ?_
      refine D_p rfl rfl rfl (fun _ => r_bin (.bool (decide _)) rfl rfl rfl) ?_
      refine D_re 39 (.bool false) (bF (by omega)).symm ?_
      refine D_p rfl rfl rfl (fun _ => r_move (.bool false) rfl) ?_
      refine D_s rfl rfl rfl ?_
      refine D_s rfl rfl rfl ?_
      refine D_s1 rfl rfl rfl ?_
      refine D_s1 rfl rfl rfl ?_
      refine D_s1 rfl rfl rfl ?_
      refine D_s rfl rfl rfl ?_
      refine D_s rfl rfl rfl ?_
      refine D_s1 rfl rfl rfl ?_
      refine D_s1 rfl rfl rfl ?_
      refine D_s1 rfl rfl rfl ?_
      refine D_s rfl rfl rfl ?_
      refine D_p rfl rfl rfl (fun _ => r_pick false (.bool false) rfl rfl) ?_
      refine D_p rfl rfl rfl (fun _ => r_pick false (.bool false) rfl rfl) ?_
      refine D_p rfl rfl rfl (fun _ => r_assign (.bool false) rfl) ?_
      refine D_nil ?_
      refine thenN ?_
      refine W_condF rfl ?_
      refine W_seq ?_
      refine W_draw [(0, 0), (1, 0), (2, 0), (3, 0), (4, 0), (5, 0), (6, 0), (7, 1), (8, 1), (9, 1), (10, 0), (11, 0), (12, 1), (13, 1), (14, 1), (15, 0), (16, 0), (17, 0)] mixed rfl (by kernel_rfl) (fun w10 hb10 hh10 => ?_)
      have M10 := M9.drew hb10 hh10
      refine D_p rfl rfl rfl (fun _ => r_move (.int _ _) rfl) ?_
      refine D_p rfl rfl rfl (fun _ => r_move (.slice _ _ _) rfl) ?_
      refine D_p rfl rfl rfl (fun _ => r_lenS Try.underlying22 rfl) ?_
      refine D_p rfl rfl rfl (fun _ => r_bin (.bool (decide _)) rfl rfl rfl) ?_
      refine D_re 65 (.bool true) (bT (by omega)).symm ?_
      refine D_p rfl rfl rfl (fun _ => r_move (.bool true) rfl) ?_
      refine D_s rfl rfl rfl ?_
      refine D_s rfl rfl rfl ?_
      refine D_s1 rfl rfl rfl ?_
      refine D_s1 rfl rfl rfl ?_
      refine D_s1 rfl rfl rfl ?_
      refine D_s rfl rfl rfl ?_
      refine D_s rfl rfl rfl ?_
      refine D_s1 rfl rfl rfl ?_
      refine D_s1 rfl rfl rfl ?_
      refine D_s1 rfl rfl rfl ?_
      refine D_s rfl rfl rfl ?_
      refine D_p rfl rfl rfl (fun _ => r_pick true (.bool true) rfl rfl) ?_
      refine D_p rfl rfl rfl (fun _ => r_assign (.bool true) rfl) ?_
      refine D_nil ?_
      refine thenN ?_
      refine W_condT rfl ?_
      refine W_seq ?_
      refine W_region ?_
      refine wl_q (r_move (.func _ _ _) rfl) rfl rfl ?_
      refine wl_q (r_move (.slice _ _ _) rfl) rfl rfl ?_
      refine wl_q (r_move (.int _ _) rfl) rfl rfl ?_
      refine wl_q (r_idxR (k) sl22 rfl rfl rfl ((R'.memY M10 hdB).below_len (mapGet bodyCells hya)) ((R'.memY M10 hdB).someK (mapGet bodyCells hya))) rfl rfl ?_
      refine wl_cal cal31 rfl rfl rfl ?_
      refine (view_Apply1_y _ b bo q0 _ hq0 (by omega) C0 C1 C2 cn0 cc0 cn1 cc1 cn2 cc2 ck (RC.memY M10 hdC) (M10.away 0 3 RC hdC) (M10.ownSeg 0 3) B m ys (R'.memY M10 hdB) (M10.away 0 3 R' hdB) k ya hya).mono ?_
      rintro _ w11 ⟨v11, rfl, ⟨rfl, p0, hp0, hM11⟩⟩
      refine ⟨_, rfl, ?_⟩
      have M11 : Mem _ _ [_, _, _] _ := M10.seg 0 3 hM11
      refine wl_nil ?_
      refine thenN ?_
      refine W_region ?_
      refine wl_q (r_move (.int _ _) rfl) rfl rfl ?_
      refine wl_q (r_add rfl rfl (by omega) (by omega)) rfl rfl ?_
      refine wl_q (r_assign (.int _ _) rfl) rfl rfl ?_
      refine wl_nil ?_
      refine blkN ?_
      refine blkN ?_
      have hmg := hMg.y hya (fun b hb => by have := (List.getElem?_eq_some_iff.1 hb).1; omega)
      refine roundN (i, k + 1, p0) (agC rfl (agC rfl agN)) (akC rfl (akC rfl (akC rfl akN))) ?_ ?_
      · exact ⟨⟨hi, by omega, hmg.1, by rw [applyL_snoc hya, pickA_none hmg.2]; exact hp0⟩, M11⟩
      · (show (n - i) + (m - (k + 1)) < (n - i) + (m - k); omega)
    · skip
      refine W_exit ?_
      refine thenX ?_
      refine roundX ?_
      refine blkH ?_
      refine fin0n ?_
      have hkm : k = m := by omega
      rw [hkm, List.take_of_length_le (by omega)] at hq0
      exact ⟨rfl, q0, hq0, hM1⟩

set_option maxHeartbeats 4000000 in
theorem view_Apply (w : World) (A : Option Addr) (n c : Nat) (xs : List Body) (R : Rd w 10 A n (xs.map bodyCells)) (hn : n ≤ 1048576) (B : Option Addr) (m c' : Nat) (ys : List Body) (R' : Rd w 10 B m (ys.map bodyCells)) (hm : m ≤ 1048576) (hs : Sorted xs) (hs' : Sorted ys) (C0 C1 C2 : Option Addr) (cn0 cc0 cn1 cc1 cn2 cc2 : Nat) (ck : List Int) (RC : Rd w 1 C2 cn2 (ck.map keyCell)) :
    Calls Try.prog 18 #[.slice A n c, .slice B m c', .agg [.slice C0 cn0 cc0, .slice C1 cn1 cc1, .slice C2 cn2 cc2].toArray] w (fun ex w' => ∃ v, ex = .returned v ∧ (fun v w' => ∃ (q : Row), v = .slice q.A q.n q.c ∧ RowIs 38 10 q.A q.n q.c ((applyL xs ck ys).map bodyCells) q.e ∧ Mem w [] [q.e] w') v w') := by
  refine calls_of_W #[.tmp 6] 13 Try.func18 rfl Try.results18 Try.ntmps18 rfl ?_
  have M0 := Mem.refl w
  refine W_seq ?_
  refine W_region ?_
  refine wl_box (.agg (List.toArray _)) M0 rfl rfl rfl (fun b1 w1 M1 => ?_)
  refine wl_q (r_assign (.slice _ _ _) rfl) rfl rfl ?_
  refine wl_nil ?_
  refine thenN ?_
  refine W_seq ?_
  refine W_region ?_
  refine wl_alloc zero22 M1 rfl rfl (fun b2 w2 M2 => ?_)
  have M3 := M2.dummy default
  refine wl_nil ?_
  refine thenN ?_
  refine W_seq ?_
  refine W_region ?_
  refine wl_q (r_move (.slice _ _ _) rfl) rfl rfl ?_
  refine wl_q (r_move (.slice _ _ _) rfl) rfl rfl ?_
  refine wl_q (r_makeFuncV [] [.pointer _, .pointer _] rfl rfl) rfl rfl ?_
  refine wl_cal cal29 rfl rfl rfl ?_
  refine (view_mergeA _ A n c xs (R.mem M3) hn B m c' ys (R'.mem M3) hm hs hs' b1 b2 C0 C1 C2 cn0 cc0 cn1 cc1 cn2 cc2 ck (RC.mem M3) (M3.ownSeg 0 3) (M3.away 0 3 R (fun _ q off _ h => by simp at h)) (M3.away 0 3 R' (fun _ q off _ h => by simp at h)) (M3.away 0 3 RC (fun _ q off _ h => by simp at h))).mono ?_
  rintro _ w4 ⟨v4, rfl, ⟨rfl, q, hq, hM4⟩⟩
  refine ⟨_, rfl, ?_⟩
  have M4 : Mem _ _ [_, _, _] _ := M3.seg 0 3 hM4
  refine wl_nil ?_
  refine thenN ?_
  refine W_seq ?_
  refine W_region ?_
  refine wl_q (r_ld 1 (.slice _ _ _) one22 M4 rfl rfl rfl) rfl rfl ?_
  refine wl_q (r_assign (.slice _ _ _) rfl) rfl rfl ?_
  refine wl_nil ?_
  refine thenN ?_
  refine W_ret ?_
  skip
  refine fin1 (.slice _ _ _) rfl ?_
  exact ⟨q, rfl, hq, M4.keep [false, false, true]⟩

end Go.Proofs.Ytfgbmegchdjfeaa
