/- Walks of Go functions over the frame of this claim: what each computes, for every input of the stated types (LStoreClones). -/
import Derived.Test.YtaabkkdpjecknaaTy
import Derived.Test.YtaabkkdpjecknaaAw
import Derived.Test.YtaabkkdpjecknaaMd5
set_option linter.unusedVariables false
set_option linter.unusedSimpArgs false
set_option linter.unnecessarySimpa false
namespace Go.Proofs.Ytaabkkdpjecknaa
open Go.Bil
open Go.RowKit (Below)
open Go.Proofs

set_option maxHeartbeats 16000000 in
theorem law_StoreClones (w : World) (A : Option Addr) (n c : Nat) (xs : List Body) (R : Rd w 10 A n (xs.map bodyCells)) (b : Body) :
    Calls Try.prog 6 #[.slice A n c, (.agg (bodyCells b).toArray)] w (fun ex w' => ∃ v, ex = .returned v ∧ (fun v w' => v = .bool true ∧ Below w.heap.size w w') v w') := by
  have hlen : xs.length = n := by simpa using R.len
  have hbd := R.bound
  refine calls_of_W #[.tmp 4] 81 Try.func6 rfl Try.results6 Try.ntmps6 rfl ?_
  have M0 := Mem.refl w
  refine W_seq ?_
  refine W_region ?_
  refine wl_box (.agg (List.toArray _)) M0 rfl rfl rfl (fun b1 w1 M1 => ?_)
  refine wl_q (r_assign (.bool false) rfl) rfl rfl ?_
  refine wl_nil ?_
  refine thenN ?_
  refine W_seq ?_
  refine W_seq ?_
  refine W_region ?_
  refine wl_cal cal13 rfl rfl rfl ?_
  refine (aw06 _).mono ?_
  rintro _ w2 ⟨v2, rfl, ⟨rfl, hb2⟩⟩
  refine ⟨_, rfl, ?_⟩
  have M2 := M1.callB hb2
  refine wl_q (r_notB false rfl rfl) rfl rfl ?_
  refine wl_q (r_move (.bool false) rfl) rfl rfl ?_
  refine wl_q (r_move (.slice _ _ _) rfl) rfl rfl ?_
  refine wl_q (r_lenS Try.underlying22 rfl) rfl rfl ?_
  refine wl_q (r_bin (.bool (decide _)) rfl rfl rfl) rfl rfl ?_
  refine wl_q (r_pick false (.bool (decide _)) rfl rfl) rfl rfl ?_
  refine wl_nil ?_
  refine thenN ?_
  refine W_condD rfl (fun h18 => ?_) (fun h18 => ?_)
  · skip
    refine W_seq ?_
    refine W_region ?_
    refine wl_cal cal13 rfl rfl rfl ?_
    refine (aw06 _).mono ?_
    rintro _ w3 ⟨v3, rfl, ⟨rfl, hb3⟩⟩
    refine ⟨_, rfl, ?_⟩
    have M3 := M2.callB hb3
    refine wl_q (r_assign (.bool true) rfl) rfl rfl ?_
    refine wl_nil ?_
    refine thenN ?_
    refine W_ret ?_
    refine thenR ?_
    skip
    refine fin1 (.bool true) rfl ?_
    exact ⟨rfl, M3.below⟩
  · skip
    refine W_skip ?_
    refine thenN ?_
    refine W_seq ?_
    refine W_region ?_
    refine wl_alloc zero31 M2 rfl rfl (fun b4 w4 M4 => ?_)
    have M5 := (M4.dummy default).dummy default
    refine wl_nil ?_
    refine thenN ?_
    refine W_seq ?_
    refine W_seq ?_
    refine W_region ?_
    refine wl_q (r_assign (.int _ _) rfl) rfl rfl ?_
    refine wl_nil ?_
    refine thenN ?_
    refine W_block ?_
    refine W_loop (σ := Nat × StV) [0, 3, 4, 5] (fun (j, r) => [(6, .int .i64 (j : Int))]) (fun (j, r) w' => (j ≤ n ∧ StoreIs 28 r.A r.n r.c r.p r.er r.em (addsM (xs.take j))) ∧ Mem w [] [(some b1, bc (bodyCells b) 28), (some b4, bc [.slice r.A r.n r.c, .map r.p] 31), r.er, r.em] w') (fun (j, r) => n - j) (0, ⟨none, 0, 0, none, (none, default), (none, default)⟩) (agC rfl agN) (⟨⟨by omega, (StoreIs.nil 28 default default)⟩, M5⟩) ?_
    rintro ⟨j, r⟩ ρ6 w6 ⟨⟨hj, hr⟩, hM6⟩
    refine W_seq ?_
    refine W_seq ?_
    refine W_region ?_
    refine wl_q (r_move (.int _ _) rfl) rfl rfl ?_
    refine wl_q (r_move (.slice _ _ _) rfl) rfl rfl ?_
    refine wl_q (r_lenS Try.underlying22 rfl) rfl rfl ?_
    refine wl_q (r_bin (.bool (decide _)) rfl rfl rfl) rfl rfl ?_
    refine wl_nil ?_
    refine thenN ?_
    refine W_condD rfl (fun h23 => ?_) (fun h23 => ?_)
    · skip
      obtain ⟨xb, hxb⟩ := getSome (k := j) hlen (by omega)
      refine W_skip ?_
      refine thenN ?_
      refine W_seq ?_
      refine W_block ?_
      refine W_region ?_
      refine wl_q (r_move (.slice _ _ _) rfl) rfl rfl ?_
      refine wl_q (r_move (.int _ _) rfl) rfl rfl ?_
      refine wl_q (r_idxR (j) sl22 rfl rfl rfl ((R.mem hM6).below_len (mapGet bodyCells hxb)) ((R.mem hM6).someK (mapGet bodyCells hxb))) rfl rfl ?_
      refine wl_q (r_ldEA _ agg28 (R.mem hM6) (mapGet bodyCells hxb) rfl) rfl rfl ?_
      refine wl_cal cal14 rfl rfl rfl ?_
      refine (store_Add _ _ _ _ _ _ _ _ _ hr (hM6.ownSeg 1 3) xb).mono ?_
      rintro _ w7 ⟨v7, rfl, ⟨rfl, A7, n7, c7, p7, er7, em7, hs7, hM7⟩⟩
      refine ⟨_, rfl, ?_⟩
      have M7 : Mem _ _ [_, _, _, _] _ := hM6.seg 1 3 hM7
      refine wl_nil ?_
      refine blkN ?_
      refine thenN ?_
      refine W_region ?_
      refine wl_q (r_move (.int _ _) rfl) rfl rfl ?_
      refine wl_q (r_add rfl rfl (by omega) (by omega)) rfl rfl ?_
      refine wl_q (r_assign (.int _ _) rfl) rfl rfl ?_
      refine wl_nil ?_
      refine roundN (j + 1, ⟨A7, n7, c7, p7, er7, em7⟩) (agC rfl agN) (akC rfl (akC rfl (akC rfl (akC rfl akN)))) ?_ ?_
      · exact ⟨⟨by omega, by rw [addsM_snoc hxb]; exact hs7⟩, M7⟩
      · (show n - (j + 1) < n - j; omega)
    · skip
      have hjn : j = n := by omega
      rw [hjn, List.take_of_length_le (by omega)] at hr
      have hrel := addsM_rel xs
      have hml := hr.cap
      have hal := allR_len xs
      have hpl := hrel.perm.length_eq
      refine W_exit ?_
      refine thenX ?_
      refine roundX ?_
      refine blkH ?_
      refine thenN ?_
      refine W_seq ?_
      refine W_region ?_
      refine wl_q (r_move (.slice _ _ _) rfl) rfl rfl ?_
      refine wl_cal cal20 rfl rfl rfl ?_
      refine (ref06_All _ _ _ _ xs (R.mem hM6) (by omega)).mono ?_
      rintro _ w8 ⟨v8, rfl, ⟨A8, n8, c8, e8, rfl, hR8, hM8⟩⟩
      refine ⟨_, rfl, ?_⟩
      have M8 : Mem _ _ [_, _, _, _, _] _ := hM6.call0 hM8
      have hlw : (allR xs).length = n8 := by simpa using hR8.1
      refine wl_q (r_assign (.slice _ _ _) rfl) rfl rfl ?_
      refine wl_nil ?_
      refine thenN ?_
      refine W_seq ?_
      refine W_region ?_
      refine wl_cal cal23 rfl rfl rfl ?_
      refine (store_Clone _ _ _ _ _ _ _ _ _ hr (M8.ownSeg 1 3)).mono ?_
      rintro _ w9 ⟨v9, rfl, ⟨b9, A9, n9, c9, p9, er9, em9, rfl, hs9, hM9⟩⟩
      refine ⟨_, rfl, ?_⟩
      have M9 : Mem _ _ [_, _, _, _, _, _, _, _] _ := M8.seg 1 3 hM9
      refine wl_q (r_assign (.pointer _) rfl) rfl rfl ?_
      refine wl_nil ?_
      refine thenN ?_
      refine W_seq ?_
      refine W_seq ?_
      refine W_region ?_
      refine wl_q (r_move (.pointer _) rfl) rfl rfl ?_
      refine wl_q (r_eqPtrNil false Try.underlying45 rfl rfl) rfl rfl ?_
      refine wl_nil ?_
      refine thenN ?_
      refine W_condF rfl ?_
      refine W_skip ?_
      refine thenN ?_
      refine W_seq ?_
      refine W_region ?_
      refine wl_q (r_move (.pointer _) rfl) rfl rfl ?_
      refine wl_cal cal17 rfl rfl rfl ?_
      refine (store_Bodies _ _ _ _ _ _ _ _ _ hs9 (M9.ownSeg 5 3)).mono ?_
      rintro _ w10 ⟨v10, rfl, ⟨A10, n10, c10, e10, rfl, hR10, hM10⟩⟩
      refine ⟨_, rfl, ?_⟩
      have M10 : Mem _ _ [_, _, _, _, _, _, _, _, _] _ := M9.seg 5 3 hM10
      rw [hrel.eq] at hR10
      have hlx10 : (allR xs).length = n10 := by simpa using hR10.1
      refine wl_q (r_assign (.slice _ _ _) rfl) rfl rfl ?_
      refine wl_nil ?_
      refine thenN ?_
      refine W_seq ?_
      refine W_seq ?_
      refine W_region ?_
      refine wl_q (r_move (.slice _ _ _) rfl) rfl rfl ?_
      refine wl_q (r_move (.slice _ _ _) rfl) rfl rfl ?_
      refine wl_cal cal16 rfl rfl rfl ?_
      refine (ref06_Same _ _ _ _ _ (hR10.rd M10 (nthMem (i := 8) rfl)) _ _ _ _ (hR8.rd M10 (nthMem (i := 4) rfl))).mono ?_
      rintro _ w11 ⟨v11, rfl, ⟨rfl, hb11⟩⟩
      refine ⟨_, rfl, ?_⟩
      have M11 := M10.callB hb11
      refine wl_re 40 (.bool true) (bT rfl).symm ?_
      refine wl_q (r_notB false rfl rfl) rfl rfl ?_
      refine wl_nil ?_
      refine thenN ?_
      refine W_condF rfl ?_
      refine W_skip ?_
      refine thenN ?_
      refine W_seq ?_
      refine W_seq ?_
      refine W_region ?_
      refine wl_q (r_assign (.int _ _) rfl) rfl rfl ?_
      refine wl_nil ?_
      refine thenN ?_
      refine W_block ?_
      refine W_loop (σ := Nat × List (List Value) × Ent) [3, 4, 5, 7, 8, 9] (fun (j, ls, e) => [(10, .int .i64 (j : Int))]) (fun (j, ls, e) w' => (j ≤ n10 ∧ RowIs 28 10 A10 n10 c10 ls e) ∧ Mem w [] [(some b1, bc (bodyCells b) 28), (some b4, bc [.slice r.A r.n r.c, .map r.p] 31), r.er, r.em, e8, (some b9, bc [.slice A9 n9 c9, .map p9] 31), er9, em9, e] w') (fun (j, ls, e) => n10 - j) (0, (allR xs).map bodyCells, e10) (agC rfl agN) (⟨⟨by omega, hR10⟩, M11⟩) ?_
      rintro ⟨j, ls, e⟩ ρ12 w12 ⟨⟨hj2, hrow⟩, hM12⟩
      refine W_seq ?_
      refine W_seq ?_
      refine W_region ?_
      refine wl_q (r_move (.int _ _) rfl) rfl rfl ?_
      refine wl_q (r_move (.slice _ _ _) rfl) rfl rfl ?_
      refine wl_q (r_lenS Try.underlying22 rfl) rfl rfl ?_
      refine wl_q (r_bin (.bool (decide _)) rfl rfl rfl) rfl rfl ?_
      refine wl_nil ?_
      refine thenN ?_
      refine W_condD rfl (fun h45 => ?_) (fun h45 => ?_)
      · skip
        obtain ⟨l8, hl8⟩ := getSome (xs := ls) (k := j) hrow.1 (by omega)
        refine W_skip ?_
        refine thenN ?_
        refine W_seq ?_
        refine W_block ?_
        refine W_region ?_
        refine wl_q (r_move (.slice _ _ _) rfl) rfl rfl ?_
        refine wl_q (r_move (.int _ _) rfl) rfl rfl ?_
        refine wl_q (r_idxR (j) sl22 rfl rfl rfl ((hrow.rd hM12 (nthMem (i := 8) rfl)).below_len (hl8)) ((hrow.rd hM12 (nthMem (i := 8) rfl)).someK (hl8))) rfl rfl ?_
        refine wl_q (r_fieldAddrE 1 fld28_1 (hrow.rd hM12 (nthMem (i := 8) rfl)) (Nat.lt_of_le_of_lt (Nat.zero_le _) ((hrow.rd hM12 (nthMem (i := 8) rfl)).below_len (hl8))) rfl) rfl rfl ?_
        refine wl_stR1 (o := 1) 8 (.int _ _) one21 hM12 rfl hrow (hl8) rfl rfl rfl rfl rfl (fun e13 w13 hR13 M13 => ?_)
        refine wl_nil ?_
        refine blkN ?_
        refine thenN ?_
        refine W_region ?_
        refine wl_q (r_move (.int _ _) rfl) rfl rfl ?_
        refine wl_q (r_add rfl rfl (by omega) (by omega)) rfl rfl ?_
        refine wl_q (r_assign (.int _ _) rfl) rfl rfl ?_
        refine wl_nil ?_
        refine roundN (j + 1, ls.set j (l8.set 1 (.int .i32 0)), e13) (agC rfl agN) (akC rfl (akC rfl (akC rfl (akC rfl (akC rfl (akC rfl akN)))))) ?_ ?_
        · exact ⟨⟨by omega, hR13⟩, M13⟩
        · (show n10 - (j + 1) < n10 - j; omega)
      · skip
        refine W_exit ?_
        refine thenX ?_
        refine roundX ?_
        refine blkH ?_
        refine thenN ?_
        refine W_seq ?_
        refine W_region ?_
        refine wl_q (r_move (.pointer _) rfl) rfl rfl ?_
        refine wl_q (r_fieldAddr 0 fld28_0 rfl) rfl rfl ?_
        refine wl_q (r_ld 0 (.int _ _) one24 hM12 rfl rfl rfl) rfl rfl ?_
        refine wl_cal cal19 rfl rfl rfl ?_
        refine (store_Remove _ _ _ _ _ _ _ _ _ hs9 (hM12.ownSeg 5 3) b.key).mono ?_
        rintro _ w14 ⟨v14, rfl, ⟨rfl, A14, n14, c14, p14, er14, em14, hs14, hM14⟩⟩
        refine ⟨_, rfl, ?_⟩
        have M14 : Mem _ _ [_, _, _, _, _, _, _, _, _] _ := hM12.seg 5 3 hM14
        refine wl_nil ?_
        refine thenN ?_
        refine W_seq ?_
        refine W_region ?_
        refine wl_q (r_move (.pointer _) rfl) rfl rfl ?_
        refine wl_q (r_ldW 0 agg28 M14 rfl rfl rfl) rfl rfl ?_
        refine wl_cal cal14 rfl rfl rfl ?_
        refine (store_Add _ _ _ _ _ _ _ _ _ hs14 (M14.ownSeg 5 3) b).mono ?_
        rintro _ w15 ⟨v15, rfl, ⟨rfl, A15, n15, c15, p15, er15, em15, hs15, hM15⟩⟩
        refine ⟨_, rfl, ?_⟩
        have M15 : Mem _ _ [_, _, _, _, _, _, _, _, _] _ := M14.seg 5 3 hM15
        refine wl_nil ?_
        refine thenN ?_
        refine W_seq ?_
        refine W_seq ?_
        refine W_region ?_
        refine wl_q (r_assign (.int _ _) rfl) rfl rfl ?_
        refine wl_nil ?_
        refine thenN ?_
        refine W_block ?_
        refine W_loop (σ := Nat × StV × List Body) [4, 5, 7, 8] (fun (j, q, m) => [(11, .int .i64 (j : Int))]) (fun (j, q, m) w' => (j ≤ n8 ∧ StoreIs 28 q.A q.n q.c q.p q.er q.em (m)) ∧ Mem w [] [(some b1, bc (bodyCells b) 28), (some b4, bc [.slice r.A r.n r.c, .map r.p] 31), r.er, r.em, e8, (some b9, bc [.slice q.A q.n q.c, .map q.p] 31), q.er, q.em, e] w') (fun (j, q, m) => n8 - j) (0, ⟨A15, n15, c15, p15, er15, em15⟩, (addM (removeM (addsM xs) b.key).1 b).1) (agC rfl agN) (⟨⟨by omega, hs15⟩, M15⟩) ?_
        rintro ⟨j, q, m⟩ ρ16 w16 ⟨⟨hj3, hq⟩, hM16⟩
        refine W_seq ?_
        refine W_seq ?_
        refine W_region ?_
        refine wl_q (r_move (.int _ _) rfl) rfl rfl ?_
        refine wl_q (r_move (.slice _ _ _) rfl) rfl rfl ?_
        refine wl_q (r_lenS Try.underlying22 rfl) rfl rfl ?_
        refine wl_q (r_bin (.bool (decide _)) rfl rfl rfl) rfl rfl ?_
        refine wl_nil ?_
        refine thenN ?_
        refine W_condD rfl (fun h62 => ?_) (fun h62 => ?_)
        · skip
          obtain ⟨x4, hx4⟩ := getSome (xs := allR xs) (k := j) (by have := hR8.1; simpa using this) (by omega)
          refine W_skip ?_
          refine thenN ?_
          refine W_seq ?_
          refine W_block ?_
          refine W_region ?_
          refine wl_q (r_move (.pointer _) rfl) rfl rfl ?_
          refine wl_q (r_move (.slice _ _ _) rfl) rfl rfl ?_
          refine wl_q (r_move (.int _ _) rfl) rfl rfl ?_
          refine wl_q (r_idxR (j) sl22 rfl rfl rfl ((hR8.rd hM16 (nthMem (i := 4) rfl)).below_len (mapGet bodyCells hx4)) ((hR8.rd hM16 (nthMem (i := 4) rfl)).someK (mapGet bodyCells hx4))) rfl rfl ?_
          refine wl_q (r_fieldAddrE 0 fld28_0 (hR8.rd hM16 (nthMem (i := 4) rfl)) (Nat.lt_of_le_of_lt (Nat.zero_le _) ((hR8.rd hM16 (nthMem (i := 4) rfl)).below_len (mapGet bodyCells hx4))) rfl) rfl rfl ?_
          refine wl_q (r_ldE (o := 0) (.int _ _) one24 (hR8.rd hM16 (nthMem (i := 4) rfl)) (mapGet bodyCells hx4) rfl rfl) rfl rfl ?_
          refine wl_cal cal19 rfl rfl rfl ?_
          refine (store_Remove _ _ _ _ _ _ _ _ _ hq (hM16.ownSeg 5 3) x4.key).mono ?_
          rintro _ w17 ⟨v17, rfl, ⟨rfl, A17, n17, c17, p17, er17, em17, hs17, hM17⟩⟩
          refine ⟨_, rfl, ?_⟩
          have M17 : Mem _ _ [_, _, _, _, _, _, _, _, _] _ := hM16.seg 5 3 hM17
          refine wl_nil ?_
          refine blkN ?_
          refine thenN ?_
          refine W_region ?_
          refine wl_q (r_move (.int _ _) rfl) rfl rfl ?_
          refine wl_q (r_add rfl rfl (by omega) (by omega)) rfl rfl ?_
          refine wl_q (r_assign (.int _ _) rfl) rfl rfl ?_
          refine wl_nil ?_
          refine roundN (j + 1, ⟨A17, n17, c17, p17, er17, em17⟩, (removeM m x4.key).1) (agC rfl agN) (akC rfl (akC rfl (akC rfl (akC rfl akN)))) ?_ ?_
          · exact ⟨⟨by omega, hs17⟩, M17⟩
          · (show n8 - (j + 1) < n8 - j; omega)
        · skip
          refine W_exit ?_
          refine thenX ?_
          refine roundX ?_
          refine blkH ?_
          refine thenN ?_
          refine W_seq ?_
          refine W_region ?_
          refine wl_cal cal17 rfl rfl rfl ?_
          refine (store_Bodies _ _ _ _ _ _ _ _ _ hr (hM16.ownSeg 1 3)).mono ?_
          rintro _ w18 ⟨v18, rfl, ⟨A18, n18, c18, e18, rfl, hR18, hM18⟩⟩
          refine ⟨_, rfl, ?_⟩
          have M18 : Mem _ _ [_, _, _, _, _, _, _, _, _, _] _ := hM16.seg 1 3 hM18
          rw [hrel.eq] at hR18
          refine wl_q (r_move (.slice _ _ _) rfl) rfl rfl ?_
          refine wl_cal cal16 rfl rfl rfl ?_
          refine (ref06_Same _ _ _ _ _ (hR18.rd M18 (nthMem (i := 9) rfl)) _ _ _ _ (hR8.rd M18 (nthMem (i := 4) rfl))).mono ?_
          rintro _ w19 ⟨v19, rfl, ⟨rfl, hb19⟩⟩
          refine ⟨_, rfl, ?_⟩
          have M19 := M18.callB hb19
          refine wl_re 74 (.bool true) (bT rfl).symm ?_
          refine wl_q (r_move (.bool true) rfl) rfl rfl ?_
          refine wl_cal cal18 rfl rfl rfl ?_
          refine (store_Len _ _ _ _ _ _ _ _ _ hr (M19.ownSeg 1 3)).mono ?_
          rintro _ w20 ⟨v20, rfl, ⟨rfl, hM20⟩⟩
          refine ⟨_, rfl, ?_⟩
          have M20 : Mem _ _ [_, _, _, _, _, _, _, _, _, _] _ := M19.seg 1 3 hM20
          refine wl_q (r_move (.slice _ _ _) rfl) rfl rfl ?_
          refine wl_q (r_lenS Try.underlying22 rfl) rfl rfl ?_
          refine wl_q (r_bin (.bool (decide _)) rfl rfl rfl) rfl rfl ?_
          refine wl_re 79 (.bool true) (bT (by omega)).symm ?_
          refine wl_q (r_pick true (.bool true) rfl rfl) rfl rfl ?_
          refine wl_q (r_assign (.bool true) rfl) rfl rfl ?_
          refine wl_nil ?_
          refine thenN ?_
          refine W_ret ?_
          skip
          refine fin1 (.bool true) rfl ?_
          exact ⟨rfl, M20.below⟩

end Go.Proofs.Ytaabkkdpjecknaa
