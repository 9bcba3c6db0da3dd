/- Walks of Go functions over the frame of this claim: what each computes, for every input of the stated types (LStoreRemoves). -/
import Derived.Test.YtaabkkdpjecknaaTy
import Derived.Test.YtaabkkdpjecknaaAw
import Derived.Test.YtaabkkdpjecknaaMd5
set_option linter.unusedVariables false
set_option linter.unusedSimpArgs false
set_option linter.unnecessarySimpa false
namespace Go.Proofs.Ytaabkkdpjecknaa
open Go.Bil
open Go.RowKit (Below)
open Go.Proofs

set_option maxHeartbeats 16000000 in
theorem law_StoreRemoves (w : World) (A : Option Addr) (n c : Nat) (xs : List Body) (R : Rd w 10 A n (xs.map bodyCells)) (b : Body) :
    Calls Try.prog 5 #[.slice A n c, (.agg (bodyCells b).toArray)] w (fun ex w' => ∃ v, ex = .returned v ∧ (fun v w' => v = .bool true ∧ Below w.heap.size w w') v w') := by
  have hlen : xs.length = n := by simpa using R.len
  have hbd := R.bound
  refine calls_of_W #[.tmp 4] 74 Try.func5 rfl Try.results5 Try.ntmps5 rfl ?_
  have M0 := Mem.refl w
  refine W_seq ?_
  refine W_region ?_
  refine wl_box (.agg (List.toArray _)) M0 rfl rfl rfl (fun b1 w1 M1 => ?_)
  refine wl_q (r_assign (.bool false) rfl) rfl rfl ?_
  refine wl_nil ?_
  refine thenN ?_
  refine W_seq ?_
  refine W_seq ?_
  refine W_region ?_
  refine wl_cal cal13 rfl rfl rfl ?_
  refine (aw06 _).mono ?_
  rintro _ w2 ⟨v2, rfl, ⟨rfl, hb2⟩⟩
  refine ⟨_, rfl, ?_⟩
  have M2 := M1.callB hb2
  refine wl_q (r_notB false rfl rfl) rfl rfl ?_
  refine wl_q (r_move (.bool false) rfl) rfl rfl ?_
  refine wl_q (r_move (.slice _ _ _) rfl) rfl rfl ?_
  refine wl_q (r_lenS Try.underlying22 rfl) rfl rfl ?_
  refine wl_q (r_bin (.bool (decide _)) rfl rfl rfl) rfl rfl ?_
  refine wl_q (r_pick false (.bool (decide _)) rfl rfl) rfl rfl ?_
  refine wl_q (r_move (.bool (decide _)) rfl) rfl rfl ?_
  refine wl_splitD 15 rfl (fun g15 => ?_) (fun g15 => ?_)
  · skip
    refine wl_skip rfl rfl ?_
    refine wl_skip rfl rfl ?_
    refine wl_skip rfl rfl ?_
    refine wl_q (r_pick true (.bool true) rfl rfl) rfl rfl ?_
    refine wl_nil ?_
    refine thenN ?_
    refine W_condT rfl ?_
    refine W_seq ?_
    refine W_region ?_
    refine wl_cal cal13 rfl rfl rfl ?_
    refine (aw06 _).mono ?_
    rintro _ w3 ⟨v3, rfl, ⟨rfl, hb3⟩⟩
    refine ⟨_, rfl, ?_⟩
    have M3 := M2.callB hb3
    refine wl_q (r_assign (.bool true) rfl) rfl rfl ?_
    refine wl_nil ?_
    refine thenN ?_
    refine W_ret ?_
    refine thenR ?_
    skip
    refine fin1 (.bool true) rfl ?_
    exact ⟨rfl, M3.below⟩
  · skip
    refine wl_q (r_ldW 0 agg28 M2 rfl rfl rfl) rfl rfl ?_
    refine wl_cal cal15 rfl rfl rfl ?_
    refine (ref05_Check _ b).mono ?_
    rintro _ w4 ⟨v4, rfl, ⟨rfl, hb4⟩⟩
    refine ⟨_, rfl, ?_⟩
    have M4 := M2.callB hb4
    refine wl_q (r_bin (.bool (decide _)) rfl rfl rfl) rfl rfl ?_
    refine wl_q (r_pick false (.bool (decide _)) rfl rfl) rfl rfl ?_
    refine wl_nil ?_
    refine thenN ?_
    refine W_condD rfl (fun h19 => ?_) (fun h19 => ?_)
    · skip
      refine W_seq ?_
      refine W_region ?_
      refine wl_cal cal13 rfl rfl rfl ?_
      refine (aw06 _).mono ?_
      rintro _ w5 ⟨v5, rfl, ⟨rfl, hb5⟩⟩
      refine ⟨_, rfl, ?_⟩
      have M5 := M4.callB hb5
      refine wl_q (r_assign (.bool true) rfl) rfl rfl ?_
      refine wl_nil ?_
      refine thenN ?_
      refine W_ret ?_
      refine thenR ?_
      skip
      refine fin1 (.bool true) rfl ?_
      exact ⟨rfl, M5.below⟩
    · skip
      refine W_skip ?_
      refine thenN ?_
      refine W_seq ?_
      refine W_region ?_
      refine wl_alloc zero31 M4 rfl rfl (fun b6 w6 M6 => ?_)
      have M7 := (M6.dummy default).dummy default
      refine wl_nil ?_
      refine thenN ?_
      refine W_seq ?_
      refine W_seq ?_
      refine W_region ?_
      refine wl_q (r_assign (.int _ _) rfl) rfl rfl ?_
      refine wl_nil ?_
      refine thenN ?_
      refine W_block ?_
      refine W_loop (σ := Nat × StV) [0, 3, 4, 5] (fun (j, r) => [(6, .int .i64 (j : Int))]) (fun (j, r) w' => (j ≤ n ∧ StoreIs 28 r.A r.n r.c r.p r.er r.em (addsM (xs.take j))) ∧ Mem w [] [(some b1, bc (bodyCells b) 28), (some b6, bc [.slice r.A r.n r.c, .map r.p] 31), r.er, r.em] w') (fun (j, r) => n - j) (0, ⟨none, 0, 0, none, (none, default), (none, default)⟩) (agC rfl agN) (⟨⟨by omega, (StoreIs.nil 28 default default)⟩, M7⟩) ?_
      rintro ⟨j, r⟩ ρ8 w8 ⟨⟨hj, hr⟩, hM8⟩
      refine W_seq ?_
      refine W_seq ?_
      refine W_region ?_
      refine wl_q (r_move (.int _ _) rfl) rfl rfl ?_
      refine wl_q (r_move (.slice _ _ _) rfl) rfl rfl ?_
      refine wl_q (r_lenS Try.underlying22 rfl) rfl rfl ?_
      refine wl_q (r_bin (.bool (decide _)) rfl rfl rfl) rfl rfl ?_
      refine wl_nil ?_
      refine thenN ?_
      refine W_condD rfl (fun h24 => ?_) (fun h24 => ?_)
      · skip
        obtain ⟨xb, hxb⟩ := getSome (k := j) hlen (by omega)
        refine W_skip ?_
        refine thenN ?_
        refine W_seq ?_
        refine W_block ?_
        refine W_region ?_
        refine wl_q (r_move (.slice _ _ _) rfl) rfl rfl ?_
        refine wl_q (r_move (.int _ _) rfl) rfl rfl ?_
        refine wl_q (r_idxR (j) sl22 rfl rfl rfl ((R.mem hM8).below_len (mapGet bodyCells hxb)) ((R.mem hM8).someK (mapGet bodyCells hxb))) rfl rfl ?_
        refine wl_q (r_ldEA _ agg28 (R.mem hM8) (mapGet bodyCells hxb) rfl) rfl rfl ?_
        refine wl_cal cal14 rfl rfl rfl ?_
        refine (store_Add _ _ _ _ _ _ _ _ _ hr (hM8.ownSeg 1 3) xb).mono ?_
        rintro _ w9 ⟨v9, rfl, ⟨rfl, A9, n9, c9, p9, er9, em9, hs9, hM9⟩⟩
        refine ⟨_, rfl, ?_⟩
        have M9 : Mem _ _ [_, _, _, _] _ := hM8.seg 1 3 hM9
        refine wl_nil ?_
        refine blkN ?_
        refine thenN ?_
        refine W_region ?_
        refine wl_q (r_move (.int _ _) rfl) rfl rfl ?_
        refine wl_q (r_add rfl rfl (by omega) (by omega)) rfl rfl ?_
        refine wl_q (r_assign (.int _ _) rfl) rfl rfl ?_
        refine wl_nil ?_
        refine roundN (j + 1, ⟨A9, n9, c9, p9, er9, em9⟩) (agC rfl agN) (akC rfl (akC rfl (akC rfl (akC rfl akN)))) ?_ ?_
        · exact ⟨⟨by omega, by rw [addsM_snoc hxb]; exact hs9⟩, M9⟩
        · (show n - (j + 1) < n - j; omega)
      · skip
        have hjn : j = n := by omega
        rw [hjn, List.take_of_length_le (by omega)] at hr
        have hrel := addsM_rel xs
        have hml := hr.cap
        have hal := allR_len xs
        have hpl := hrel.perm.length_eq
        have hcb : check b = 0 := by omega
        refine W_exit ?_
        refine thenX ?_
        refine roundX ?_
        refine blkH ?_
        refine thenN ?_
        refine W_seq ?_
        refine W_region ?_
        refine wl_q (r_move (.slice _ _ _) rfl) rfl rfl ?_
        refine wl_cal cal20 rfl rfl rfl ?_
        refine (ref06_All _ _ _ _ xs (R.mem hM8) (by omega)).mono ?_
        rintro _ w10 ⟨v10, rfl, ⟨A10, n10, c10, e10, rfl, hR10, hM10⟩⟩
        refine ⟨_, rfl, ?_⟩
        have M10 : Mem _ _ [_, _, _, _, _] _ := hM8.call0 hM10
        have hlw : (allR xs).length = n10 := by simpa using hR10.1
        refine wl_q (r_assign (.slice _ _ _) rfl) rfl rfl ?_
        refine wl_nil ?_
        refine thenN ?_
        refine W_seq ?_
        refine W_seq ?_
        refine W_region ?_
        refine wl_q (r_move (.slice _ _ _) rfl) rfl rfl ?_
        refine wl_q (r_fieldAddr 0 fld28_0 rfl) rfl rfl ?_
        refine wl_q (r_ld 0 (.int _ _) one24 M10 rfl rfl rfl) rfl rfl ?_
        refine wl_cal cal21 rfl rfl rfl ?_
        refine (ref06_Find _ b.key _ _ _ (allR xs) (hR10.rd M10 (nthMem (i := 4) rfl))).mono ?_
        rintro _ w11 ⟨v11, rfl, ⟨rfl, hb11⟩⟩
        refine ⟨_, rfl, ?_⟩
        have M11 := M10.callB hb11
        refine wl_q (r_bin (.bool (decide _)) rfl rfl rfl) rfl rfl ?_
        refine wl_nil ?_
        refine thenN ?_
        refine W_condD rfl (fun h38 => ?_) (fun h38 => ?_)
        · skip
          obtain ⟨q1, q2, q3, q4⟩ := rem_found hrel hcb h38 hml
          refine W_seq ?_
          refine W_draw [(0, 1), (1, 2), (2, 0), (3, 0), (4, 0), (5, 1), (6, 2), (7, 0), (8, 0), (9, 0), (10, 1), (11, 2), (12, 0), (13, 0), (14, 0), (16, 0), (17, 1), (15, 2), (18, 2), (19, 2), (20, 0), (21, 0)] mixed rfl (by kernel_rfl) (fun w12 hb12 hh12 => ?_)
          have M12 := M11.drew hb12 hh12
          refine D_r rfl rfl rfl (r_ldW 0 agg28 M12 rfl rfl rfl) ?_
          refine D_e [true] rfl (by kernel_rfl) ?_
          refine wl_cal cal14 rfl rfl rfl ?_
          refine (store_Add _ _ _ _ _ _ _ _ _ hr (M12.ownSeg 1 3) b).mono ?_
          rintro _ w13 ⟨v13, rfl, ⟨hv13, A13, n13, c13, p13, er13, em13, hs13, hM13⟩⟩
          refine ⟨_, rfl, ?_⟩
          have M13 : Mem _ _ [_, _, _, _, _] _ := M12.seg 1 3 hM13
          simp only [q1] at hv13 hs13
          subst hv13
          refine wl_nil (thenN ⟨alN, ?_⟩)
          refine D_p rfl rfl rfl (fun _ => r_bin (.bool (decide _)) rfl rfl rfl) ?_
          refine D_re 41 (.bool true) (bT rfl).symm ?_
          refine D_p rfl rfl rfl (fun _ => r_move (.bool true) rfl) ?_
          refine D_p rfl rfl rfl (fun _ => r_fieldAddr 0 fld28_0 rfl) ?_
          refine D_r rfl rfl rfl (r_ld 0 (.int _ _) one24 M13 rfl rfl rfl) ?_
          refine D_e [true] rfl (by kernel_rfl) ?_
          refine wl_cal cal19 rfl rfl rfl ?_
          refine (store_Remove _ _ _ _ _ _ _ _ _ hs13 (M13.ownSeg 1 3) b.key).mono ?_
          rintro _ w14 ⟨v14, rfl, ⟨rfl, A14, n14, c14, p14, er14, em14, hs14, hM14⟩⟩
          refine ⟨_, rfl, ?_⟩
          have M14 : Mem _ _ [_, _, _, _, _] _ := M13.seg 1 3 hM14
          refine wl_nil (thenN ⟨alN, ?_⟩)
          refine D_p rfl rfl rfl (fun _ => r_bin (.bool (decide _)) rfl rfl rfl) ?_
          refine D_re 46 (.bool true) (bT q2).symm ?_
          refine D_p rfl rfl rfl (fun _ => r_pick true (.bool true) rfl rfl) ?_
          refine D_p rfl rfl rfl (fun _ => r_move (.bool true) rfl) ?_
          refine D_r rfl rfl rfl (r_ldW 0 agg28 M14 rfl rfl rfl) ?_
          refine D_e [true] rfl (by kernel_rfl) ?_
          refine wl_cal cal14 rfl rfl rfl ?_
          refine (store_Add _ _ _ _ _ _ _ _ _ hs14 (M14.ownSeg 1 3) b).mono ?_
          rintro _ w15 ⟨v15, rfl, ⟨rfl, A15, n15, c15, p15, er15, em15, hs15, hM15⟩⟩
          refine ⟨_, rfl, ?_⟩
          have M15 : Mem _ _ [_, _, _, _, _] _ := M14.seg 1 3 hM15
          refine wl_nil (thenN ⟨alN, ?_⟩)
          refine D_p rfl rfl rfl (fun _ => r_bin (.bool (decide _)) rfl rfl rfl) ?_
          refine D_re 51 (.bool true) (bT q3).symm ?_
          refine D_p rfl rfl rfl (fun _ => r_pick true (.bool true) rfl rfl) ?_
          refine D_p rfl rfl rfl (fun _ => r_move (.bool true) rfl) ?_
          refine D_p rfl rfl rfl (fun _ => r_move (.slice _ _ _) rfl) ?_
          refine D_r rfl rfl rfl (r_ldW 0 agg28 M15 rfl rfl rfl) ?_
          refine D_e [false] rfl (by kernel_rfl) ?_
          refine wl_cal cal17 rfl rfl rfl ?_
          refine (store_Bodies _ _ _ _ _ _ _ _ _ hs15 (M15.ownSeg 1 3)).mono ?_
          rintro _ w16 ⟨v16, rfl, ⟨A16, n16, c16, e16, rfl, hR16, hM16⟩⟩
          refine ⟨_, rfl, ?_⟩
          have M16 : Mem _ _ [_, _, _, _, _, _] _ := M15.seg 1 3 hM16
          rw [q4] at hR16
          refine wl_nil (thenN ⟨(alC (Yl_of rfl (r_ldW 0 agg28 M16 rfl rfl rfl)) alN), ?_⟩)
          refine D_e [true] rfl (by kernel_rfl) ?_
          refine wl_cal cal22 rfl rfl rfl ?_
          refine (ref06_Put _ b false _ _ _ (allR xs) (hR10.rd M16 (nthMem (i := 4) rfl)) (by have := hR10.1; simp at this; omega)).mono ?_
          rintro _ w17 ⟨v17, rfl, ⟨A17, n17, c17, e17, rfl, hR17, hM17⟩⟩
          refine ⟨_, rfl, ?_⟩
          have M17 : Mem _ _ [_, _, _, _, _, _, _] _ := M16.call0 hM17
          refine wl_nil (thenN ⟨alN, ?_⟩)
          refine D_e [] rfl (by kernel_rfl) ?_
          refine wl_cal cal16 rfl rfl rfl ?_
          refine (ref06_Same _ _ _ _ _ (hR16.rd M17 (nthMem (i := 5) rfl)) _ _ _ _ (hR17.rd M17 (nthMem (i := 6) rfl))).mono ?_
          rintro _ w18 ⟨v18, rfl, ⟨rfl, hb18⟩⟩
          refine ⟨_, rfl, ?_⟩
          have M18 := M17.callB hb18
          refine wl_nil (thenN ⟨alN, ?_⟩)
          refine D_re 58 (.bool true) (bT rfl).symm ?_
          refine D_p rfl rfl rfl (fun _ => r_pick true (.bool true) rfl rfl) ?_
          refine D_p rfl rfl rfl (fun _ => r_assign (.bool true) rfl) ?_
          refine D_nil ?_
          refine thenN ?_
          refine W_ret ?_
          refine thenR ?_
          skip
          refine fin1 (.bool true) rfl ?_
          exact ⟨rfl, M18.below⟩
        · skip
          obtain ⟨q1, q2, q3⟩ := rem_absent hrel hcb (by omega) (by omega)
          refine W_skip ?_
          refine thenN ?_
          refine W_seq ?_
          refine W_region ?_
          refine wl_q (r_ldW 0 agg28 M11 rfl rfl rfl) rfl rfl ?_
          refine wl_cal cal14 rfl rfl rfl ?_
          refine (store_Add _ _ _ _ _ _ _ _ _ hr (M11.ownSeg 1 3) b).mono ?_
          rintro _ w19 ⟨v19, rfl, ⟨rfl, A19, n19, c19, p19, er19, em19, hs19, hM19⟩⟩
          refine ⟨_, rfl, ?_⟩
          have M19 : Mem _ _ [_, _, _, _, _] _ := M11.seg 1 3 hM19
          refine wl_q (r_bin (.bool (decide _)) rfl rfl rfl) rfl rfl ?_
          refine wl_re 62 (.bool true) (bT q1).symm ?_
          refine wl_q (r_move (.bool true) rfl) rfl rfl ?_
          refine wl_q (r_fieldAddr 0 fld28_0 rfl) rfl rfl ?_
          refine wl_q (r_ld 0 (.int _ _) one24 M19 rfl rfl rfl) rfl rfl ?_
          refine wl_cal cal19 rfl rfl rfl ?_
          refine (store_Remove _ _ _ _ _ _ _ _ _ hs19 (M19.ownSeg 1 3) b.key).mono ?_
          rintro _ w20 ⟨v20, rfl, ⟨rfl, A20, n20, c20, p20, er20, em20, hs20, hM20⟩⟩
          refine ⟨_, rfl, ?_⟩
          have M20 : Mem _ _ [_, _, _, _, _] _ := M19.seg 1 3 hM20
          refine wl_q (r_bin (.bool (decide _)) rfl rfl rfl) rfl rfl ?_
          refine wl_re 67 (.bool true) (bT q2).symm ?_
          refine wl_q (r_pick true (.bool true) rfl rfl) rfl rfl ?_
          refine wl_q (r_move (.bool true) rfl) rfl rfl ?_
          refine wl_cal cal17 rfl rfl rfl ?_
          refine (store_Bodies _ _ _ _ _ _ _ _ _ hs20 (M20.ownSeg 1 3)).mono ?_
          rintro _ w21 ⟨v21, rfl, ⟨A21, n21, c21, e21, rfl, hR21, hM21⟩⟩
          refine ⟨_, rfl, ?_⟩
          have M21 : Mem _ _ [_, _, _, _, _, _] _ := M20.seg 1 3 hM21
          rw [q3] at hR21
          refine wl_q (r_move (.slice _ _ _) rfl) rfl rfl ?_
          refine wl_cal cal16 rfl rfl rfl ?_
          refine (ref06_Same _ _ _ _ _ (hR21.rd M21 (nthMem (i := 5) rfl)) _ _ _ _ (hR10.rd M21 (nthMem (i := 4) rfl))).mono ?_
          rintro _ w22 ⟨v22, rfl, ⟨rfl, hb22⟩⟩
          refine ⟨_, rfl, ?_⟩
          have M22 := M21.callB hb22
          refine wl_re 72 (.bool true) (bT rfl).symm ?_
          refine wl_q (r_pick true (.bool true) rfl rfl) rfl rfl ?_
          refine wl_q (r_assign (.bool true) rfl) rfl rfl ?_
          refine wl_nil ?_
          refine thenN ?_
          refine W_ret ?_
          skip
          refine fin1 (.bool true) rfl ?_
          exact ⟨rfl, M22.below⟩

end Go.Proofs.Ytaabkkdpjecknaa
