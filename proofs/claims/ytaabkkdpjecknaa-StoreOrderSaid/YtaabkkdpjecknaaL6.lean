/- Walks of Go functions over the frame of this claim: what each computes, for every input of the stated types (L6). -/
import Derived.Test.YtaabkkdpjecknaaTy
import Derived.Test.YtaabkkdpjecknaaAw
import Derived.Test.YtaabkkdpjecknaaMd5
set_option linter.unusedVariables false
set_option linter.unusedSimpArgs false
set_option linter.unnecessarySimpa false
namespace Go.Proofs.Ytaabkkdpjecknaa
open Go.Bil
open Go.RowKit (Below)
open Go.Proofs

set_option maxHeartbeats 16000000 in
theorem law_StoreOrder (w : World) (turn : Nat) (hturn : turn ≤ 255) (A : Option Addr) (n c : Nat) (xs : List Body) (R : Rd w 10 A n (xs.map bodyCells)) :
    Calls Try.prog 3 #[.slice A n c, .int .u8 (turn : Int)] w (fun ex w' => ∃ v, ex = .returned v ∧ (fun v w' => v = .bool true ∧ Below w.heap.size w w') v w') := by
  have hlen : xs.length = n := by simpa using R.len
  have hbd := R.bound
  refine calls_of_W #[.tmp 4] 91 Try.func3 rfl Try.results3 Try.ntmps3 rfl ?_
  have M0 := Mem.refl w
  refine W_seq ?_
  refine W_region ?_
  refine wl_q (r_assign (.bool false) rfl) rfl rfl ?_
  refine wl_nil ?_
  refine thenN ?_
  refine W_seq ?_
  refine W_seq ?_
  refine W_region ?_
  refine wl_cal cal13 rfl rfl rfl ?_
  refine (aw06 _).mono ?_
  rintro _ w1 ⟨v1, rfl, ⟨rfl, hb1⟩⟩
  refine ⟨_, rfl, ?_⟩
  have M1 := M0.callB hb1
  refine wl_q (r_notB false rfl rfl) rfl rfl ?_
  refine wl_q (r_move (.bool false) rfl) rfl rfl ?_
  refine wl_q (r_move (.slice _ _ _) rfl) rfl rfl ?_
  refine wl_q (r_lenS Try.underlying22 rfl) rfl rfl ?_
  refine wl_q (r_bin (.bool (decide _)) rfl rfl rfl) rfl rfl ?_
  refine wl_q (r_pick false (.bool (decide _)) rfl rfl) rfl rfl ?_
  refine wl_q (r_move (.bool (decide _)) rfl) rfl rfl ?_
  refine wl_splitD 20 rfl (fun g20 => ?_) (fun g20 => ?_)
  · skip
    refine wl_skip rfl rfl ?_
    refine wl_skip rfl rfl ?_
    refine wl_skip rfl rfl ?_
    refine wl_q (r_pick true (.bool true) rfl rfl) rfl rfl ?_
    refine wl_nil ?_
    refine thenN ?_
    refine W_condT rfl ?_
    refine W_seq ?_
    refine W_region ?_
    refine wl_cal cal13 rfl rfl rfl ?_
    refine (aw06 _).mono ?_
    rintro _ w2 ⟨v2, rfl, ⟨rfl, hb2⟩⟩
    refine ⟨_, rfl, ?_⟩
    have M2 := M1.callB hb2
    refine wl_q (r_assign (.bool true) rfl) rfl rfl ?_
    refine wl_nil ?_
    refine thenN ?_
    refine W_ret ?_
    refine thenR ?_
    skip
    refine fin1 (.bool true) rfl ?_
    exact ⟨rfl, M2.below⟩
  · skip
    refine wl_q (r_move (.slice _ _ _) rfl) rfl rfl ?_
    refine wl_q (r_lenS Try.underlying22 rfl) rfl rfl ?_
    refine wl_q (r_bin (.bool (decide _)) rfl rfl rfl) rfl rfl ?_
    refine wl_q (r_pick false (.bool (decide _)) rfl rfl) rfl rfl ?_
    refine wl_nil ?_
    refine thenN ?_
    refine W_condD rfl (fun h24 => ?_) (fun h24 => ?_)
    · skip
      refine W_seq ?_
      refine W_region ?_
      refine wl_cal cal13 rfl rfl rfl ?_
      refine (aw06 _).mono ?_
      rintro _ w3 ⟨v3, rfl, ⟨rfl, hb3⟩⟩
      refine ⟨_, rfl, ?_⟩
      have M3 := M1.callB hb3
      refine wl_q (r_assign (.bool true) rfl) rfl rfl ?_
      refine wl_nil ?_
      refine thenN ?_
      refine W_ret ?_
      refine thenR ?_
      skip
      refine fin1 (.bool true) rfl ?_
      exact ⟨rfl, M3.below⟩
    · skip
      refine W_skip ?_
      refine thenN ?_
      refine W_seq ?_
      refine W_seq ?_
      refine W_region ?_
      refine wl_q (r_assign (.int _ _) rfl) rfl rfl ?_
      refine wl_nil ?_
      refine thenN ?_
      refine W_block ?_
      refine W_loop (σ := Nat) [0, 1] (fun i => [(5, .int .i64 (i : Int))]) (fun i w' => (i ≤ n ∧ ∀ (p q : Nat) (x y : Body), p < q → q < i → xs[p]? = some x → xs[q]? = some y → x.key ≠ y.key) ∧ Mem w [] [] w') (fun i => n - i) 0 (agC rfl agN) (⟨⟨by omega, fun p q x y _ h => by omega⟩, M1⟩) ?_
      rintro i ρ4 w4 ⟨⟨hi, hne⟩, hM4⟩
      refine W_seq ?_
      refine W_seq ?_
      refine W_region ?_
      refine wl_q (r_move (.int _ _) rfl) rfl rfl ?_
      refine wl_q (r_move (.slice _ _ _) rfl) rfl rfl ?_
      refine wl_q (r_lenS Try.underlying22 rfl) rfl rfl ?_
      refine wl_q (r_bin (.bool (decide _)) rfl rfl rfl) rfl rfl ?_
      refine wl_nil ?_
      refine thenN ?_
      refine W_condD rfl (fun h29 => ?_) (fun h29 => ?_)
      · skip
        obtain ⟨xi, hxi⟩ := getSome (k := i) hlen (by omega)
        refine W_skip ?_
        refine thenN ?_
        refine W_seq ?_
        refine W_block ?_
        refine W_seq ?_
        refine W_region ?_
        refine wl_q (r_assign (.int _ _) rfl) rfl rfl ?_
        refine wl_nil ?_
        refine thenN ?_
        refine W_block ?_
        refine W_loop (σ := Nat) [0, 1, 5] (fun k => [(6, .int .i64 (k : Int))]) (fun k w' => (k ≤ i ∧ ∀ (p : Nat) (x : Body), p < k → xs[p]? = some x → x.key ≠ xi.key) ∧ Mem w [] [] w') (fun k => i - k) 0 (agC rfl agN) (⟨⟨by omega, fun p x h => by omega⟩, hM4⟩) ?_
        rintro k ρ5 w5 ⟨⟨hk, hin⟩, hM5⟩
        refine W_seq ?_
        refine W_seq ?_
        refine W_region ?_
        refine wl_q (r_move (.int _ _) rfl) rfl rfl ?_
        refine wl_q (r_move (.int _ _) rfl) rfl rfl ?_
        refine wl_q (r_bin (.bool (decide _)) rfl rfl rfl) rfl rfl ?_
        refine wl_nil ?_
        refine thenN ?_
        refine W_condD rfl (fun h34 => ?_) (fun h34 => ?_)
        · skip
          obtain ⟨xk, hxk⟩ := getSome (k := k) hlen (by omega)
          refine W_skip ?_
          refine thenN ?_
          refine W_seq ?_
          refine W_block ?_
          refine W_seq ?_
          refine W_draw [(0, 0), (1, 0), (2, 1), (3, 1), (4, 1), (5, 0), (6, 0), (7, 1), (8, 1), (9, 1), (10, 0)] mixed rfl (by kernel_rfl) (fun w6 hb6 hh6 => ?_)
          have M6 := hM5.drew hb6 hh6
          refine D_p rfl rfl rfl (fun _ => r_move (.slice _ _ _) rfl) ?_
          refine D_p rfl rfl rfl (fun _ => r_move (.int _ _) rfl) ?_
          refine D_r rfl rfl rfl (r_idxR (i) sl22 rfl rfl rfl ((R.mem M6).below_len (mapGet bodyCells hxi)) ((R.mem M6).someK (mapGet bodyCells hxi))) ?_
          refine D_r rfl rfl rfl (r_fieldAddrE 0 fld28_0 (R.mem M6) (Nat.lt_of_le_of_lt (Nat.zero_le _) ((R.mem M6).below_len (mapGet bodyCells hxi))) rfl) ?_
          refine D_r rfl rfl rfl (r_ldE (o := 0) (.int _ _) one24 (R.mem M6) (mapGet bodyCells hxi) rfl rfl) ?_
          refine D_p rfl rfl rfl (fun _ => r_move (.slice _ _ _) rfl) ?_
          refine D_p rfl rfl rfl (fun _ => r_move (.int _ _) rfl) ?_
          refine D_r rfl rfl rfl (r_idxR (k) sl22 rfl rfl rfl ((R.mem M6).below_len (mapGet bodyCells hxk)) ((R.mem M6).someK (mapGet bodyCells hxk))) ?_
          refine D_r rfl rfl rfl (r_fieldAddrE 0 fld28_0 (R.mem M6) (Nat.lt_of_le_of_lt (Nat.zero_le _) ((R.mem M6).below_len (mapGet bodyCells hxk))) rfl) ?_
          refine D_r rfl rfl rfl (r_ldE (o := 0) (.int _ _) one24 (R.mem M6) (mapGet bodyCells hxk) rfl rfl) ?_
          refine D_p rfl rfl rfl (fun _ => r_bin (.bool (decide _)) rfl rfl rfl) ?_
          refine D_nil ?_
          refine thenN ?_
          refine W_condD rfl (fun h47 => ?_) (fun h47 => ?_)
          · skip
            refine W_seq ?_
            refine W_region ?_
            refine wl_q (r_assign (.bool true) rfl) rfl rfl ?_
            refine wl_nil ?_
            refine thenN ?_
            refine W_ret ?_
            refine blkR ?_
            refine thenR ?_
            refine roundR ?_
            refine blkR ?_
            refine blkR ?_
            refine thenR ?_
            refine roundR ?_
            refine blkR ?_
            refine thenR ?_
            skip
            refine fin1 (.bool true) rfl ?_
            exact ⟨rfl, M6.below⟩
          · skip
            refine W_skip ?_
            refine blkN ?_
            refine thenN ?_
            refine W_region ?_
            refine wl_q (r_move (.int _ _) rfl) rfl rfl ?_
            refine wl_q (r_add rfl rfl (by omega) (by omega)) rfl rfl ?_
            refine wl_q (r_assign (.int _ _) rfl) rfl rfl ?_
            refine wl_nil ?_
            refine roundN (k + 1) (agC rfl agN) (akC rfl (akC rfl (akC rfl akN))) ?_ ?_
            · exact ⟨⟨by omega, allNext (p := fun _ x => x.key ≠ xi.key) hin hxk (fun e => h47 e.symm)⟩, M6⟩
            · omega
        · skip
          have hki : k = i := by omega
          rw [hki] at hin
          refine W_exit ?_
          refine thenX ?_
          refine roundX ?_
          refine blkH ?_
          refine blkN ?_
          refine thenN ?_
          refine W_region ?_
          refine wl_q (r_move (.int _ _) rfl) rfl rfl ?_
          refine wl_q (r_add rfl rfl (by omega) (by omega)) rfl rfl ?_
          refine wl_q (r_assign (.int _ _) rfl) rfl rfl ?_
          refine wl_nil ?_
          refine roundN (i + 1) (agC rfl agN) (akC rfl (akC rfl akN)) ?_ ?_
          · exact ⟨⟨by omega, pairsNext hne hxi hin⟩, hM5⟩
          · omega
      · skip
        have hin : i = n := by omega
        subst hin
        have hkeys : Keys xs := keys_of_pairs (by rw [hlen]; exact hne)
        have hmod : turn % i < i := Nat.mod_lt _ (by omega)
        obtain ⟨ys, hys⟩ : ∃ ys, ys = turned xs (turn % i) := ⟨_, rfl⟩
        have hyp : ys.Perm xs := by rw [hys]; exact turned_perm _ _
        have hyl : ys.length = i := by rw [hyp.length_eq, hlen]
        have hykeys : Keys ys := hkeys.perm hyp
        refine W_exit ?_
        refine thenX ?_
        refine roundX ?_
        refine blkH ?_
        refine thenN ?_
        refine W_seq ?_
        refine W_region ?_
        refine wl_q (r_move (.int _ _) rfl) rfl rfl ?_
        refine wl_q (r_convK us5 Try.underlying3 rfl (w64 _ (by omega) (by omega))) rfl rfl ?_
        refine wl_q (r_move (.slice _ _ _) rfl) rfl rfl ?_
        refine wl_q (r_lenS Try.underlying22 rfl) rfl rfl ?_
        refine wl_q (r_rem rfl rfl (by omega)) rfl rfl ?_
        refine wl_re 52 (.int .i64 ((turn % i : Nat) : Int)) rfl ?_
        refine wl_q (r_assign (.int _ _) rfl) rfl rfl ?_
        refine wl_nil ?_
        refine thenN ?_
        refine W_seq ?_
        refine W_region ?_
        refine wl_alloc zero31 hM4 rfl rfl (fun b7 w7 M7 => ?_)
        have M8 := (M7.dummy default).dummy default
        refine wl_nil ?_
        refine thenN ?_
        refine W_seq ?_
        refine W_region ?_
        refine wl_alloc zero31 M8 rfl rfl (fun b9 w9 M9 => ?_)
        have M10 := (M9.dummy default).dummy default
        refine wl_nil ?_
        refine thenN ?_
        refine W_seq ?_
        refine W_seq ?_
        refine W_region ?_
        refine wl_q (r_assign (.int _ _) rfl) rfl rfl ?_
        refine wl_nil ?_
        refine thenN ?_
        refine W_block ?_
        refine W_loop (σ := Nat × StV × StV) [0, 7, 8, 9] (fun (j, r, q) => [(10, .int .i64 (j : Int))]) (fun (j, r, q) w' => (j ≤ i ∧ StoreIs 28 r.A r.n r.c r.p r.er r.em (addsM (xs.take j)) ∧ StoreIs 28 q.A q.n q.c q.p q.er q.em (addsM (ys.take j))) ∧ Mem w [] [(some b7, bc [.slice r.A r.n r.c, .map r.p] 31), r.er, r.em, (some b9, bc [.slice q.A q.n q.c, .map q.p] 31), q.er, q.em] w') (fun (j, r, q) => i - j) (0, ⟨none, 0, 0, none, (none, default), (none, default)⟩, ⟨none, 0, 0, none, (none, default), (none, default)⟩) (agC rfl agN) (⟨⟨by omega, (StoreIs.nil 28 default default), (StoreIs.nil 28 default default)⟩, M10⟩) ?_
        rintro ⟨j, r, q⟩ ρ11 w11 ⟨⟨hj, hr, hq⟩, hM11⟩
        refine W_seq ?_
        refine W_seq ?_
        refine W_region ?_
        refine wl_q (r_move (.int _ _) rfl) rfl rfl ?_
        refine wl_q (r_move (.slice _ _ _) rfl) rfl rfl ?_
        refine wl_q (r_lenS Try.underlying22 rfl) rfl rfl ?_
        refine wl_q (r_bin (.bool (decide _)) rfl rfl rfl) rfl rfl ?_
        refine wl_nil ?_
        refine thenN ?_
        refine W_condD rfl (fun h56 => ?_) (fun h56 => ?_)
        · skip
          obtain ⟨xb, hxb⟩ := getSome (k := j) hlen (by omega)
          obtain ⟨yb, hyb⟩ := getSome (xs := ys) (k := j) hyl (by omega)
          have hyx : xs[(i - 1 - j + turn % i) % i]? = some yb := by have h := turned_at (l := xs) (k := turn % i) (i := j) (by omega) (by omega); rw [← hys, hyb, hlen] at h; exact h.symm
          have hadd1 := addsM_res hkeys (by omega) hxb
          have hadd2 := addsM_res hykeys (by omega) hyb
          have hij : (i : Int) - 1 - (j : Int) + ((turn % i : Nat) : Int) = ((i - 1 - j + turn % i : Nat) : Int) := by omega
          refine W_skip ?_
          refine thenN ?_
          refine W_seq ?_
          refine W_block ?_
          refine W_seq ?_
          refine W_region ?_
          refine wl_q (r_move (.slice _ _ _) rfl) rfl rfl ?_
          refine wl_q (r_move (.int _ _) rfl) rfl rfl ?_
          refine wl_q (r_idxR (j) sl22 rfl rfl rfl ((R.mem hM11).below_len (mapGet bodyCells hxb)) ((R.mem hM11).someK (mapGet bodyCells hxb))) rfl rfl ?_
          refine wl_q (r_ldEA _ agg28 (R.mem hM11) (mapGet bodyCells hxb) rfl) rfl rfl ?_
          refine wl_alloc zero28 hM11 rfl rfl (fun b12 w12 M12 => ?_)
          refine wl_stW 6 _ agg28 M12 rfl rfl rfl rfl rfl (ones_of rfl) rfl (fun w13 M13 => ?_)
          refine wl_nil ?_
          refine thenN ?_
          refine W_seq ?_
          refine W_region ?_
          refine wl_q (r_move (.slice _ _ _) rfl) rfl rfl ?_
          refine wl_q (r_move (.slice _ _ _) rfl) rfl rfl ?_
          refine wl_q (r_lenS Try.underlying22 rfl) rfl rfl ?_
          refine wl_q (r_sub rfl rfl (by omega) (by omega)) rfl rfl ?_
          refine wl_q (r_move (.int _ _) rfl) rfl rfl ?_
          refine wl_q (r_sub rfl rfl (by omega) (by omega)) rfl rfl ?_
          refine wl_q (r_move (.int _ _) rfl) rfl rfl ?_
          refine wl_q (r_add rfl rfl (by omega) (by omega)) rfl rfl ?_
          refine wl_q (r_move (.slice _ _ _) rfl) rfl rfl ?_
          refine wl_q (r_lenS Try.underlying22 rfl) rfl rfl ?_
          refine wl_q (r_rem rfl rfl (by omega)) rfl rfl ?_
          refine wl_q (r_idxR ((i - 1 - j + turn % i) % i) sl22 rfl rfl (by rw [hij]; rfl) ((R.mem M13).below_len (mapGet bodyCells hyx)) ((R.mem M13).someK (mapGet bodyCells hyx))) rfl rfl ?_
          refine wl_q (r_ldEA _ agg28 (R.mem M13) (mapGet bodyCells hyx) rfl) rfl rfl ?_
          refine wl_alloc zero28 M13 rfl rfl (fun b14 w14 M14 => ?_)
          refine wl_stW 7 _ agg28 M14 rfl rfl rfl rfl rfl (ones_of rfl) rfl (fun w15 M15 => ?_)
          refine wl_nil ?_
          refine thenN ?_
          refine W_seq ?_
          refine W_draw [(0, 1), (2, 1), (1, 2), (3, 2), (4, 0), (5, 0), (6, 1), (8, 1), (7, 2), (9, 2), (10, 0), (11, 0)] mixed rfl (by kernel_rfl) (fun w16 hb16 hh16 => ?_)
          have M16 := M15.drew hb16 hh16
          refine D_r rfl rfl rfl (r_ldW 6 agg28 M16 rfl rfl rfl) ?_
          refine D_r rfl rfl rfl (r_ldW 6 agg28 M16 rfl rfl rfl) ?_
          refine D_e [false, true] rfl (by kernel_rfl) ?_
          refine wl_cal cal14 rfl rfl rfl ?_
          refine (store_Add _ _ _ _ _ _ _ _ _ hr (M16.ownSeg 0 3) xb).mono ?_
          rintro _ w17 ⟨v17, rfl, ⟨rfl, A17, n17, c17, p17, er17, em17, hs17, hM17⟩⟩
          refine ⟨_, rfl, ?_⟩
          have M17 : Mem _ _ [_, _, _, _, _, _, _, _] _ := M16.seg 0 3 hM17
          refine wl_nil (thenN ⟨(alC (Yl_of rfl (r_ldW 6 agg28 M17 rfl rfl rfl)) alN), ?_⟩)
          refine D_e [true] rfl (by kernel_rfl) ?_
          refine wl_cal cal15 rfl rfl rfl ?_
          refine (ref05_Check _ xb).mono ?_
          rintro _ w18 ⟨v18, rfl, ⟨rfl, hb18⟩⟩
          refine ⟨_, rfl, ?_⟩
          have M18 := M17.callB hb18
          refine wl_nil (thenN ⟨alN, ?_⟩)
          refine D_p rfl rfl rfl (fun _ => r_bin (.bool (decide _)) rfl rfl rfl) ?_
          refine D_re 80 (.bool false) (bF (fun h => h hadd1)).symm ?_
          refine D_p rfl rfl rfl (fun _ => r_move (.bool false) rfl) ?_
          refine D_r rfl rfl rfl (r_ldW 7 agg28 M18 rfl rfl rfl) ?_
          refine D_r rfl rfl rfl (r_ldW 7 agg28 M18 rfl rfl rfl) ?_
          refine D_e [false, true] rfl (by kernel_rfl) ?_
          refine wl_cal cal14 rfl rfl rfl ?_
          refine (store_Add _ _ _ _ _ _ _ _ _ hq (M18.ownSeg 3 3) yb).mono ?_
          rintro _ w19 ⟨v19, rfl, ⟨rfl, A19, n19, c19, p19, er19, em19, hs19, hM19⟩⟩
          refine ⟨_, rfl, ?_⟩
          have M19 : Mem _ _ [_, _, _, _, _, _, _, _] _ := M18.seg 3 3 hM19
          refine wl_nil (thenN ⟨(alC (Yl_of rfl (r_ldW 7 agg28 M19 rfl rfl rfl)) alN), ?_⟩)
          refine D_e [true] rfl (by kernel_rfl) ?_
          refine wl_cal cal15 rfl rfl rfl ?_
          refine (ref05_Check _ yb).mono ?_
          rintro _ w20 ⟨v20, rfl, ⟨rfl, hb20⟩⟩
          refine ⟨_, rfl, ?_⟩
          have M20 := M19.callB hb20
          refine wl_nil (thenN ⟨alN, ?_⟩)
          refine D_p rfl rfl rfl (fun _ => r_bin (.bool (decide _)) rfl rfl rfl) ?_
          refine D_re 86 (.bool false) (bF (fun h => h hadd2)).symm ?_
          refine D_p rfl rfl rfl (fun _ => r_pick false (.bool false) rfl rfl) ?_
          refine D_nil ?_
          refine thenN ?_
          refine W_condF rfl ?_
          refine W_skip ?_
          refine blkN ?_
          refine thenN ?_
          refine W_region ?_
          refine wl_q (r_move (.int _ _) rfl) rfl rfl ?_
          refine wl_q (r_add rfl rfl (by omega) (by omega)) rfl rfl ?_
          refine wl_q (r_assign (.int _ _) rfl) rfl rfl ?_
          refine wl_nil ?_
          refine roundN (j + 1, ⟨A17, n17, c17, p17, er17, em17⟩, ⟨A19, n19, c19, p19, er19, em19⟩) (agC rfl agN) (akC rfl (akC rfl (akC rfl (akC rfl akN)))) ?_ ?_
          · exact ⟨⟨by omega, by rw [addsM_snoc hxb]; exact hs17, by rw [addsM_snoc hyb]; exact hs19⟩, M20.keep [true, true, true, true, true, true, false, false]⟩
          · (show i - (j + 1) < i - j; omega)
        · skip
          have hji : j = i := by omega
          subst hji
          rw [List.take_of_length_le (by omega)] at hr
          rw [List.take_of_length_le (by omega)] at hq
          have hsame := addsM_perm hyp hkeys (by omega)
          refine W_exit ?_
          refine thenX ?_
          refine roundX ?_
          refine blkH ?_
          refine thenN ?_
          refine W_seq ?_
          refine W_region ?_
          refine wl_cal cal17 rfl rfl rfl ?_
          refine (store_Bodies _ _ _ _ _ _ _ _ _ hr (hM11.ownSeg 0 3)).mono ?_
          rintro _ w21 ⟨v21, rfl, ⟨A21, n21, c21, e21, rfl, hR21, hM21⟩⟩
          refine ⟨_, rfl, ?_⟩
          have M21 : Mem _ _ [_, _, _, _, _, _, _] _ := hM11.seg 0 3 hM21
          refine wl_cal cal17 rfl rfl rfl ?_
          refine (store_Bodies _ _ _ _ _ _ _ _ _ hq (M21.ownSeg 3 3)).mono ?_
          rintro _ w22 ⟨v22, rfl, ⟨A22, n22, c22, e22, rfl, hR22, hM22⟩⟩
          refine ⟨_, rfl, ?_⟩
          have M22 : Mem _ _ [_, _, _, _, _, _, _, _] _ := M21.seg 3 3 hM22
          refine wl_cal cal16 rfl rfl rfl ?_
          refine (ref06_Same _ _ _ _ _ (hR21.rd M22 (nthMem (i := 6) rfl)) _ _ _ _ (hR22.rd M22 (nthMem (i := 7) rfl))).mono ?_
          rintro _ w23 ⟨v23, rfl, ⟨rfl, hb23⟩⟩
          refine ⟨_, rfl, ?_⟩
          have M23 := M22.callB hb23
          refine wl_q (r_assign (.bool (decide _)) rfl) rfl rfl ?_
          refine wl_nil ?_
          refine thenN ?_
          refine W_ret ?_
          skip
          refine fin1 (.bool (decide _)) rfl ?_
          exact ⟨(bT hsame).symm, M23.below⟩

end Go.Proofs.Ytaabkkdpjecknaa
