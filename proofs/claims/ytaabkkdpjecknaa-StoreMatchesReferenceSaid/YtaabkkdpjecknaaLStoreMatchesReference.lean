/- Walks of Go functions over the frame of this claim: what each computes, for every input of the stated types (LStoreMatchesReference). -/
import Derived.Test.YtaabkkdpjecknaaTy
import Derived.Test.YtaabkkdpjecknaaAw
import Derived.Test.YtaabkkdpjecknaaMd5
set_option linter.unusedVariables false
set_option linter.unusedSimpArgs false
set_option linter.unnecessarySimpa false
namespace Go.Proofs.Ytaabkkdpjecknaa
open Go.Bil
open Go.RowKit (Below)
open Go.Proofs

set_option maxHeartbeats 16000000 in
theorem law_StoreMatchesReference (w : World) (A : Option Addr) (n c : Nat) (xs : List StepI) (R : Rd w 11 A n (xs.map stepCells)) :
    Calls Try.prog 7 #[.slice A n c] w (fun ex w' => ∃ v, ex = .returned v ∧ (fun v w' => v = .bool true ∧ Below w.heap.size w w') v w') := by
  have hlen : xs.length = n := by simpa using R.len
  have hbd := R.bound
  refine calls_of_W #[.tmp 2] 124 Try.func7 rfl Try.results7 Try.ntmps7 rfl ?_
  have M0 := Mem.refl w
  refine W_seq ?_
  refine W_region ?_
  refine wl_q (r_assign (.bool false) rfl) rfl rfl ?_
  refine wl_nil ?_
  refine thenN ?_
  refine W_seq ?_
  refine W_seq ?_
  refine W_region ?_
  refine wl_cal cal13 rfl rfl rfl ?_
  refine (aw06 _).mono ?_
  rintro _ w1 ⟨v1, rfl, ⟨rfl, hb1⟩⟩
  refine ⟨_, rfl, ?_⟩
  have M1 := M0.callB hb1
  refine wl_q (r_notB false rfl rfl) rfl rfl ?_
  refine wl_q (r_move (.bool false) rfl) rfl rfl ?_
  refine wl_q (r_move (.slice _ _ _) rfl) rfl rfl ?_
  refine wl_q (r_lenS Try.underlying47 rfl) rfl rfl ?_
  refine wl_q (r_bin (.bool (decide _)) rfl rfl rfl) rfl rfl ?_
  refine wl_q (r_pick false (.bool (decide _)) rfl rfl) rfl rfl ?_
  refine wl_nil ?_
  refine thenN ?_
  refine W_condD rfl (fun h24 => ?_) (fun h24 => ?_)
  · skip
    refine W_seq ?_
    refine W_region ?_
    refine wl_cal cal13 rfl rfl rfl ?_
    refine (aw06 _).mono ?_
    rintro _ w2 ⟨v2, rfl, ⟨rfl, hb2⟩⟩
    refine ⟨_, rfl, ?_⟩
    have M2 := M1.callB hb2
    refine wl_q (r_assign (.bool true) rfl) rfl rfl ?_
    refine wl_nil ?_
    refine thenN ?_
    refine W_ret ?_
    refine thenR ?_
    skip
    refine fin1 (.bool true) rfl ?_
    exact ⟨rfl, M2.below⟩
  · skip
    refine W_skip ?_
    refine thenN ?_
    refine W_seq ?_
    refine W_region ?_
    refine wl_alloc zero31 M1 rfl rfl (fun b3 w3 M3 => ?_)
    have M4 := (M3.dummy default).dummy default
    refine wl_nil ?_
    refine thenN ?_
    refine W_seq ?_
    refine W_region ?_
    refine wl_q (r_assign (.slice _ _ _) rfl) rfl rfl ?_
    have M5 := M4.dummy default
    refine wl_nil ?_
    refine thenN ?_
    refine W_seq ?_
    refine W_seq ?_
    refine W_region ?_
    refine wl_q (r_assign (.int _ _) rfl) rfl rfl ?_
    refine wl_nil ?_
    refine thenN ?_
    refine W_block ?_
    refine W_loop (σ := Nat × StV × Row × List Body × List Body) [0, 3] (fun (i, r, q, m, s) => [(4, .slice q.A q.n q.c), (5, .int .i64 (i : Int))]) (fun (i, r, q, m, s) w' => (i ≤ n ∧ StoreIs 28 r.A r.n r.c r.p r.er r.em (m) ∧ RowIs 28 10 q.A q.n q.c (s.map bodyCells) q.e ∧ Rel m s) ∧ Mem w [] [(some b3, bc [.slice r.A r.n r.c, .map r.p] 31), r.er, r.em, q.e] w') (fun (i, r, q, m, s) => n - i) (0, ⟨none, 0, 0, none, (none, default), (none, default)⟩, ⟨none, 0, 0, (none, default)⟩, [], []) (agC rfl (agC rfl agN)) (⟨⟨by omega, (StoreIs.nil 28 default default), (RowIs.nil 28 10 default), Rel.nil⟩, M5⟩) ?_
    rintro ⟨i, r, q, m, s⟩ ρ6 w6 ⟨⟨hi, hr, hq, hrel⟩, hM6⟩
    have hcap := hr.cap
    have hpl := hrel.perm.length_eq
    have hsn : s.length = q.n := by simpa using hq.1
    refine W_seq ?_
    refine W_seq ?_
    refine W_region ?_
    refine wl_q (r_move (.int _ _) rfl) rfl rfl ?_
    refine wl_q (r_move (.slice _ _ _) rfl) rfl rfl ?_
    refine wl_q (r_lenS Try.underlying47 rfl) rfl rfl ?_
    refine wl_q (r_bin (.bool (decide _)) rfl rfl rfl) rfl rfl ?_
    refine wl_nil ?_
    refine thenN ?_
    refine W_condD rfl (fun h29 => ?_) (fun h29 => ?_)
    · skip
      obtain ⟨sb, hsb⟩ := getSome (k := i) hlen (by omega)
      refine W_skip ?_
      refine thenN ?_
      refine W_seq ?_
      refine W_block ?_
      refine W_seq ?_
      refine W_region ?_
      refine wl_q (r_move (.slice _ _ _) rfl) rfl rfl ?_
      refine wl_q (r_move (.int _ _) rfl) rfl rfl ?_
      refine wl_q (r_idxR (i) sl47 rfl rfl rfl ((R.mem hM6).below_len (mapGet stepCells hsb)) ((R.mem hM6).someK (mapGet stepCells hsb))) rfl rfl ?_
      refine wl_q (r_fieldAddrE 1 fld49_1 (R.mem hM6) (Nat.lt_of_le_of_lt (Nat.zero_le _) ((R.mem hM6).below_len (mapGet stepCells hsb))) rfl) rfl rfl ?_
      refine wl_q (r_ldEP (o := 1) _ agg28 (R.mem hM6) (mapGet stepCells hsb) rfl rfl rfl) rfl rfl ?_
      refine wl_re 36 (.agg (bodyCells sb.body).toArray) rfl ?_
      refine wl_alloc zero28 hM6 rfl rfl (fun b7 w7 M7 => ?_)
      refine wl_stW 4 _ agg28 M7 rfl rfl rfl rfl rfl (ones_of rfl) rfl (fun w8 M8 => ?_)
      refine wl_nil ?_
      refine thenN ?_
      refine W_seq ?_
      refine W_region ?_
      refine wl_q (r_assign (.int _ _) rfl) rfl rfl ?_
      refine wl_nil ?_
      refine thenN ?_
      refine W_seq ?_
      refine W_region ?_
      refine wl_q (r_assign (.int _ _) rfl) rfl rfl ?_
      refine wl_nil ?_
      refine thenN ?_
      refine W_seq ?_
      refine W_seq ?_
      refine W_region ?_
      refine wl_q (r_move (.slice _ _ _) rfl) rfl rfl ?_
      refine wl_q (r_move (.int _ _) rfl) rfl rfl ?_
      refine wl_q (r_idxR (i) sl47 rfl rfl rfl ((R.mem M8).below_len (mapGet stepCells hsb)) ((R.mem M8).someK (mapGet stepCells hsb))) rfl rfl ?_
      refine wl_q (r_fieldAddrE 0 fld49_0 (R.mem M8) (Nat.lt_of_le_of_lt (Nat.zero_le _) ((R.mem M8).below_len (mapGet stepCells hsb))) rfl) rfl rfl ?_
      refine wl_q (r_ldE (o := 0) (.int _ _) one3 (R.mem M8) (mapGet stepCells hsb) rfl rfl) rfl rfl ?_
      refine wl_nil ?_
      refine thenN ?_
      refine W_block ?_
      refine W_seq ?_
      refine W_region ?_
      refine wl_q (r_bin (.bool (decide _)) rfl rfl rfl) rfl rfl ?_
      refine wl_q (r_assign (.bool (decide _)) rfl) rfl rfl ?_
      refine wl_nil ?_
      refine thenN ?_
      refine W_condD rfl (fun h74 => ?_) (fun h74 => ?_)
      · skip
        refine W_seq ?_
        refine W_region ?_
        refine wl_q (r_ldW 4 agg28 M8 rfl rfl rfl) rfl rfl ?_
        refine wl_cal cal14 rfl rfl rfl ?_
        refine (store_Add _ _ _ _ _ _ _ _ _ hr (M8.ownSeg 0 3) sb.body).mono ?_
        rintro _ w9 ⟨v9, rfl, ⟨rfl, A9, n9, c9, p9, er9, em9, hs9, hM9⟩⟩
        refine ⟨_, rfl, ?_⟩
        have M9 : Mem _ _ [_, _, _, _, _] _ := M8.seg 0 3 hM9
        refine wl_q (r_assign (.int _ _) rfl) rfl rfl ?_
        refine wl_nil ?_
        refine thenN ?_
        refine W_seq ?_
        refine W_region ?_
        refine wl_q (r_move (.slice _ _ _) rfl) rfl rfl ?_
        refine wl_q (r_ldW 4 agg28 M9 rfl rfl rfl) rfl rfl ?_
        refine wl_cal cal24 rfl rfl rfl ?_
        refine (ref06_Add _ _ _ _ _ _ hq (M9.ownAt (i := 3) rfl) sb.body (by omega)).mono ?_
        rintro _ w10 ⟨v10, rfl, ⟨A10, n10, c10, e10, rfl, hR10, hM10⟩⟩
        refine ⟨_, rfl, ?_⟩
        have M10 : Mem _ _ [_, _, _, _, _] _ := M9.seg 3 1 hM10
        obtain ⟨hrel', hfe⟩ := hrel.add sb.body
        have hn' : (addR s sb.body).1.length = n10 := by simpa using hR10.1
        have hpl' := hrel'.perm.length_eq
        refine wl_q (r_move (.tuple (List.toArray _)) rfl) rfl rfl ?_
        refine wl_q (r_ext (.slice _ _ _) rfl rfl) rfl rfl ?_
        refine wl_q (r_ext (.int _ _) rfl rfl) rfl rfl ?_
        refine wl_q (r_assign (.slice _ _ _) rfl) rfl rfl ?_
        refine wl_q (r_assign (.int _ _) rfl) rfl rfl ?_
        refine wl_nil ?_
        refine thenN ?_
        refine W_region ?_
        refine wl_q (r_move (.slice _ _ _) rfl) rfl rfl ?_
        refine wl_q (r_move (.int _ _) rfl) rfl rfl ?_
        refine wl_q (r_assign (.slice _ _ _) rfl) rfl rfl ?_
        refine wl_q (r_assign (.int _ _) rfl) rfl rfl ?_
        refine wl_nil ?_
        refine blkN ?_
        refine thenN ?_
        refine W_seq ?_
        refine W_region ?_
        refine wl_q (r_move (.int _ _) rfl) rfl rfl ?_
        refine wl_q (r_move (.int _ _) rfl) rfl rfl ?_
        refine wl_q (r_bin (.bool (decide _)) rfl rfl rfl) rfl rfl ?_
        refine wl_re 114 (.bool false) (bF (fun h => h hfe.symm)).symm ?_
        refine wl_q (r_move (.bool false) rfl) rfl rfl ?_
        refine wl_cal cal18 rfl rfl rfl ?_
        refine (store_Len _ _ _ _ _ _ _ _ _ hs9 (M10.ownSeg 0 3)).mono ?_
        rintro _ w11 ⟨v11, rfl, ⟨rfl, hM11⟩⟩
        refine ⟨_, rfl, ?_⟩
        have M11 : Mem _ _ [_, _, _, _, _] _ := M10.seg 0 3 hM11
        refine wl_q (r_move (.slice _ _ _) rfl) rfl rfl ?_
        refine wl_q (r_lenS Try.underlying22 rfl) rfl rfl ?_
        refine wl_q (r_bin (.bool (decide _)) rfl rfl rfl) rfl rfl ?_
        refine wl_re 119 (.bool false) (bF (fun h => h (by omega))).symm ?_
        refine wl_q (r_pick false (.bool false) rfl rfl) rfl rfl ?_
        refine wl_nil ?_
        refine thenN ?_
        refine W_condF rfl ?_
        refine W_skip ?_
        refine blkN ?_
        refine thenN ?_
        refine W_region ?_
        refine wl_q (r_move (.int _ _) rfl) rfl rfl ?_
        refine wl_q (r_add rfl rfl (by omega) (by omega)) rfl rfl ?_
        refine wl_q (r_assign (.int _ _) rfl) rfl rfl ?_
        refine wl_nil ?_
        refine roundN (i + 1, ⟨A9, n9, c9, p9, er9, em9⟩, ⟨A10, n10, c10, e10⟩, (addM m sb.body).1, (addR s sb.body).1) (agC rfl (agC rfl agN)) (akC rfl (akC rfl akN)) ?_ ?_
        · exact ⟨⟨by omega, hs9, hR10, hrel'⟩, M11.keep [true, true, true, true, false]⟩
        · (show n - (i + 1) < n - i; omega)
      · skip
        refine W_seq ?_
        refine W_region ?_
        refine wl_q (r_bin (.bool (decide _)) rfl rfl rfl) rfl rfl ?_
        refine wl_q (r_assign (.bool (decide _)) rfl) rfl rfl ?_
        refine wl_nil ?_
        refine thenN ?_
        refine W_condD rfl (fun h86 => ?_) (fun h86 => ?_)
        · skip
          refine W_seq ?_
          refine W_region ?_
          refine wl_q (r_fieldAddr 0 fld28_0 rfl) rfl rfl ?_
          refine wl_q (r_ld 4 (.int _ _) one24 M8 rfl rfl rfl) rfl rfl ?_
          refine wl_cal cal19 rfl rfl rfl ?_
          refine (store_Remove _ _ _ _ _ _ _ _ _ hr (M8.ownSeg 0 3) sb.body.key).mono ?_
          rintro _ w12 ⟨v12, rfl, ⟨rfl, A12, n12, c12, p12, er12, em12, hs12, hM12⟩⟩
          refine ⟨_, rfl, ?_⟩
          have M12 : Mem _ _ [_, _, _, _, _] _ := M8.seg 0 3 hM12
          refine wl_q (r_assign (.int _ _) rfl) rfl rfl ?_
          refine wl_nil ?_
          refine thenN ?_
          refine W_seq ?_
          refine W_region ?_
          refine wl_q (r_move (.slice _ _ _) rfl) rfl rfl ?_
          refine wl_q (r_fieldAddr 0 fld28_0 rfl) rfl rfl ?_
          refine wl_q (r_ld 4 (.int _ _) one24 M12 rfl rfl rfl) rfl rfl ?_
          refine wl_cal cal25 rfl rfl rfl ?_
          refine (ref06_Remove _ _ _ _ _ _ hq (M12.ownAt (i := 3) rfl) sb.body.key (by omega)).mono ?_
          rintro _ w13 ⟨v13, rfl, ⟨A13, n13, c13, e13, rfl, hR13, hM13⟩⟩
          refine ⟨_, rfl, ?_⟩
          have M13 : Mem _ _ [_, _, _, _, _] _ := M12.seg 3 1 hM13
          obtain ⟨hrel', hfe⟩ := hrel.remove sb.body.key
          have hn' : (removeR s sb.body.key).1.length = n13 := by simpa using hR13.1
          have hpl' := hrel'.perm.length_eq
          refine wl_q (r_move (.tuple (List.toArray _)) rfl) rfl rfl ?_
          refine wl_q (r_ext (.slice _ _ _) rfl rfl) rfl rfl ?_
          refine wl_q (r_ext (.int _ _) rfl rfl) rfl rfl ?_
          refine wl_q (r_assign (.slice _ _ _) rfl) rfl rfl ?_
          refine wl_q (r_assign (.int _ _) rfl) rfl rfl ?_
          refine wl_nil ?_
          refine thenN ?_
          refine W_region ?_
          refine wl_q (r_move (.slice _ _ _) rfl) rfl rfl ?_
          refine wl_q (r_move (.int _ _) rfl) rfl rfl ?_
          refine wl_q (r_assign (.slice _ _ _) rfl) rfl rfl ?_
          refine wl_q (r_assign (.int _ _) rfl) rfl rfl ?_
          refine wl_nil ?_
          refine blkN ?_
          refine thenN ?_
          refine W_seq ?_
          refine W_region ?_
          refine wl_q (r_move (.int _ _) rfl) rfl rfl ?_
          refine wl_q (r_move (.int _ _) rfl) rfl rfl ?_
          refine wl_q (r_bin (.bool (decide _)) rfl rfl rfl) rfl rfl ?_
          refine wl_re 114 (.bool false) (bF (fun h => h hfe.symm)).symm ?_
          refine wl_q (r_move (.bool false) rfl) rfl rfl ?_
          refine wl_cal cal18 rfl rfl rfl ?_
          refine (store_Len _ _ _ _ _ _ _ _ _ hs12 (M13.ownSeg 0 3)).mono ?_
          rintro _ w14 ⟨v14, rfl, ⟨rfl, hM14⟩⟩
          refine ⟨_, rfl, ?_⟩
          have M14 : Mem _ _ [_, _, _, _, _] _ := M13.seg 0 3 hM14
          refine wl_q (r_move (.slice _ _ _) rfl) rfl rfl ?_
          refine wl_q (r_lenS Try.underlying22 rfl) rfl rfl ?_
          refine wl_q (r_bin (.bool (decide _)) rfl rfl rfl) rfl rfl ?_
          refine wl_re 119 (.bool false) (bF (fun h => h (by omega))).symm ?_
          refine wl_q (r_pick false (.bool false) rfl rfl) rfl rfl ?_
          refine wl_nil ?_
          refine thenN ?_
          refine W_condF rfl ?_
          refine W_skip ?_
          refine blkN ?_
          refine thenN ?_
          refine W_region ?_
          refine wl_q (r_move (.int _ _) rfl) rfl rfl ?_
          refine wl_q (r_add rfl rfl (by omega) (by omega)) rfl rfl ?_
          refine wl_q (r_assign (.int _ _) rfl) rfl rfl ?_
          refine wl_nil ?_
          refine roundN (i + 1, ⟨A12, n12, c12, p12, er12, em12⟩, ⟨A13, n13, c13, e13⟩, (removeM m sb.body.key).1, (removeR s sb.body.key).1) (agC rfl (agC rfl agN)) (akC rfl (akC rfl akN)) ?_ ?_
          · exact ⟨⟨by omega, hs12, hR13, hrel'⟩, M14.keep [true, true, true, true, false]⟩
          · (show n - (i + 1) < n - i; omega)
        · skip
          refine W_seq ?_
          refine W_region ?_
          refine wl_q (r_bin (.bool (decide _)) rfl rfl rfl) rfl rfl ?_
          refine wl_q (r_assign (.bool (decide _)) rfl) rfl rfl ?_
          refine wl_nil ?_
          refine thenN ?_
          refine W_condD rfl (fun h100 => ?_) (fun h100 => ?_)
          · skip
            refine W_seq ?_
            refine W_region ?_
            refine wl_q (r_ldW 4 agg28 M8 rfl rfl rfl) rfl rfl ?_
            refine wl_cal cal26 rfl rfl rfl ?_
            refine (store_Set _ _ _ _ _ _ _ _ _ hr (M8.ownSeg 0 3) sb.body).mono ?_
            rintro _ w15 ⟨v15, rfl, ⟨rfl, A15, n15, c15, p15, er15, em15, hs15, hM15⟩⟩
            refine ⟨_, rfl, ?_⟩
            have M15 : Mem _ _ [_, _, _, _, _] _ := M8.seg 0 3 hM15
            refine wl_q (r_assign (.int _ _) rfl) rfl rfl ?_
            refine wl_nil ?_
            refine thenN ?_
            refine W_seq ?_
            refine W_region ?_
            refine wl_q (r_move (.slice _ _ _) rfl) rfl rfl ?_
            refine wl_q (r_ldW 4 agg28 M15 rfl rfl rfl) rfl rfl ?_
            refine wl_cal cal27 rfl rfl rfl ?_
            refine (ref06_Set _ _ _ _ _ _ hq (M15.ownAt (i := 3) rfl) sb.body (by omega)).mono ?_
            rintro _ w16 ⟨v16, rfl, ⟨A16, n16, c16, e16, rfl, hR16, hM16⟩⟩
            refine ⟨_, rfl, ?_⟩
            have M16 : Mem _ _ [_, _, _, _, _] _ := M15.seg 3 1 hM16
            obtain ⟨hrel', hfe⟩ := hrel.set sb.body
            have hn' : (setR s sb.body).1.length = n16 := by simpa using hR16.1
            have hpl' := hrel'.perm.length_eq
            refine wl_q (r_move (.tuple (List.toArray _)) rfl) rfl rfl ?_
            refine wl_q (r_ext (.slice _ _ _) rfl rfl) rfl rfl ?_
            refine wl_q (r_ext (.int _ _) rfl rfl) rfl rfl ?_
            refine wl_q (r_assign (.slice _ _ _) rfl) rfl rfl ?_
            refine wl_q (r_assign (.int _ _) rfl) rfl rfl ?_
            refine wl_nil ?_
            refine thenN ?_
            refine W_region ?_
            refine wl_q (r_move (.slice _ _ _) rfl) rfl rfl ?_
            refine wl_q (r_move (.int _ _) rfl) rfl rfl ?_
            refine wl_q (r_assign (.slice _ _ _) rfl) rfl rfl ?_
            refine wl_q (r_assign (.int _ _) rfl) rfl rfl ?_
            refine wl_nil ?_
            refine blkN ?_
            refine thenN ?_
            refine W_seq ?_
            refine W_region ?_
            refine wl_q (r_move (.int _ _) rfl) rfl rfl ?_
            refine wl_q (r_move (.int _ _) rfl) rfl rfl ?_
            refine wl_q (r_bin (.bool (decide _)) rfl rfl rfl) rfl rfl ?_
            refine wl_re 114 (.bool false) (bF (fun h => h hfe.symm)).symm ?_
            refine wl_q (r_move (.bool false) rfl) rfl rfl ?_
            refine wl_cal cal18 rfl rfl rfl ?_
            refine (store_Len _ _ _ _ _ _ _ _ _ hs15 (M16.ownSeg 0 3)).mono ?_
            rintro _ w17 ⟨v17, rfl, ⟨rfl, hM17⟩⟩
            refine ⟨_, rfl, ?_⟩
            have M17 : Mem _ _ [_, _, _, _, _] _ := M16.seg 0 3 hM17
            refine wl_q (r_move (.slice _ _ _) rfl) rfl rfl ?_
            refine wl_q (r_lenS Try.underlying22 rfl) rfl rfl ?_
            refine wl_q (r_bin (.bool (decide _)) rfl rfl rfl) rfl rfl ?_
            refine wl_re 119 (.bool false) (bF (fun h => h (by omega))).symm ?_
            refine wl_q (r_pick false (.bool false) rfl rfl) rfl rfl ?_
            refine wl_nil ?_
            refine thenN ?_
            refine W_condF rfl ?_
            refine W_skip ?_
            refine blkN ?_
            refine thenN ?_
            refine W_region ?_
            refine wl_q (r_move (.int _ _) rfl) rfl rfl ?_
            refine wl_q (r_add rfl rfl (by omega) (by omega)) rfl rfl ?_
            refine wl_q (r_assign (.int _ _) rfl) rfl rfl ?_
            refine wl_nil ?_
            refine roundN (i + 1, ⟨A15, n15, c15, p15, er15, em15⟩, ⟨A16, n16, c16, e16⟩, (setM m sb.body).1, (setR s sb.body).1) (agC rfl (agC rfl agN)) (akC rfl (akC rfl akN)) ?_ ?_
            · exact ⟨⟨by omega, hs15, hR16, hrel'⟩, M17.keep [true, true, true, true, false]⟩
            · (show n - (i + 1) < n - i; omega)
          · skip
            refine W_seq ?_
            refine W_region ?_
            refine wl_q (r_fieldAddr 0 fld28_0 rfl) rfl rfl ?_
            refine wl_q (r_ld 4 (.int _ _) one24 M8 rfl rfl rfl) rfl rfl ?_
            refine wl_cal cal28 rfl rfl rfl ?_
            refine (store_Get _ _ _ _ _ _ _ _ _ hr (M8.ownSeg 0 3) sb.body.key).mono ?_
            rintro _ w18 ⟨v18, rfl, ⟨⟨x18, rfl, hx18⟩, hM18⟩⟩
            refine ⟨_, rfl, ?_⟩
            have M18 : Mem _ _ [_, _, _, _, _] _ := M8.seg 0 3 hM18
            have hx := hx18
            have hrel' := hrel
            have hn' := hsn
            have hpl' := hpl
            obtain ⟨xg, hxg⟩ : ∃ xg, xg = x18 := ⟨_, rfl⟩
            refine wl_q (r_move (.tuple (List.toArray _)) rfl) rfl rfl ?_
            refine wl_q (r_ext (.agg (List.toArray _)) rfl rfl) rfl rfl ?_
            refine wl_q (r_ext (.int _ _) rfl rfl) rfl rfl ?_
            refine wl_alloc zero28 M18 rfl rfl (fun b19 w19 M19 => ?_)
            refine wl_stW 5 _ agg28 M19 rfl rfl rfl rfl rfl (ones_of rfl) rfl (fun w20 M20 => ?_)
            refine wl_q (r_assign (.int _ _) rfl) rfl rfl ?_
            refine wl_nil ?_
            refine thenN ?_
            refine W_seq ?_
            refine W_region ?_
            refine wl_q (r_move (.int _ _) rfl) rfl rfl ?_
            refine wl_q (r_assign (.int _ _) rfl) rfl rfl ?_
            refine wl_nil ?_
            refine thenN ?_
            refine W_seq ?_
            refine W_region ?_
            refine wl_q (r_move (.slice _ _ _) rfl) rfl rfl ?_
            refine wl_q (r_fieldAddr 0 fld28_0 rfl) rfl rfl ?_
            refine wl_q (r_ld 4 (.int _ _) one24 M20 rfl rfl rfl) rfl rfl ?_
            refine wl_cal cal21 rfl rfl rfl ?_
            refine (ref06_Find _ sb.body.key _ _ _ s (hq.rd M20 (nthMem (i := 3) rfl))).mono ?_
            rintro _ w21 ⟨v21, rfl, ⟨rfl, hb21⟩⟩
            refine ⟨_, rfl, ?_⟩
            have M21 := M20.callB hb21
            refine wl_q (r_assign (.int _ _) rfl) rfl rfl ?_
            refine wl_nil ?_
            refine thenN ?_
            refine W_seq ?_
            refine W_seq ?_
            refine W_region ?_
            refine wl_q (r_move (.int _ _) rfl) rfl rfl ?_
            refine wl_q (r_bin (.bool (decide _)) rfl rfl rfl) rfl rfl ?_
            refine wl_nil ?_
            refine thenN ?_
            refine W_condD rfl (fun h54 => ?_) (fun h54 => ?_)
            · skip
              have hgm : getM m sb.body.key = (nilBody 0, 11) := by rcases hrel.get sb.body.key with ⟨_, h⟩ | ⟨gi, gb, hg1, _⟩; exact h; omega
              have hfe : (11 : Int) = (getM m sb.body.key).2 := by rw [hgm]
              rw [hgm] at hx
              refine W_region ?_
              refine wl_q (r_assign (.int _ _) rfl) rfl rfl ?_
              refine wl_nil ?_
              refine thenN ?_
              refine W_seq ?_
              refine W_draw [(0, 0), (1, 0), (2, 0), (3, 1), (4, 0), (5, 0), (6, 0), (7, 0), (8, 0), (9, 0), (10, 0), (11, 1), (12, 0), (13, 0), (14, 1), (15, 1), (16, 0), (17, 0), (18, 0)] mixed rfl (by kernel_rfl) (fun w22 hb22 hh22 => ?_)
              have M22 := M21.drew hb22 hh22
              refine D_p rfl rfl rfl (fun _ => r_move (.int _ _) rfl) ?_
              refine D_p rfl rfl rfl (fun _ => r_bin (.bool (decide _)) rfl rfl rfl) ?_
              refine D_re 56 (.bool true) (bT h54).symm ?_
              refine D_p rfl rfl rfl (fun _ => r_move (.bool true) rfl) ?_
              refine D_r rfl rfl rfl (r_ldW 5 agg28 M22 rfl rfl rfl) ?_
              refine D_p rfl rfl rfl (fun _ => r_build [] _ struct28 rfl rfl) ?_
              refine D_p rfl rfl rfl (fun _ => r_neA (eqBody _ (nilBody 0)) rfl rfl) ?_
              refine D_re 60 (.bool false) (bF (fun h => h hx)).symm ?_
              refine D_p rfl rfl rfl (fun _ => r_pick true (.bool false) rfl rfl) ?_
              refine D_p rfl rfl rfl (fun _ => r_move (.bool false) rfl) ?_
              refine D_p rfl rfl rfl (fun _ => r_move (.int _ _) rfl) ?_
              refine D_p rfl rfl rfl (fun _ => r_bin (.bool (decide _)) rfl rfl rfl) ?_
              refine D_re 64 (.bool false) (bF (by omega)).symm ?_
              refine D_p rfl rfl rfl (fun _ => r_move (.bool false) rfl) ?_
              refine D_s1 rfl rfl rfl ?_
              refine D_s rfl rfl rfl ?_
              refine D_s rfl rfl rfl ?_
              refine D_s1 rfl rfl rfl ?_
              refine D_s1 rfl rfl rfl ?_
              refine D_s rfl rfl rfl ?_
              refine D_p rfl rfl rfl (fun _ => r_pick false (.bool false) rfl rfl) ?_
              refine D_p rfl rfl rfl (fun _ => r_pick false (.bool false) rfl rfl) ?_
              refine D_nil ?_
              refine thenN ?_
              refine W_condF rfl ?_
              refine W_skip ?_
              refine blkN ?_
              refine thenN ?_
              refine W_seq ?_
              refine W_region ?_
              refine wl_q (r_move (.int _ _) rfl) rfl rfl ?_
              refine wl_q (r_move (.int _ _) rfl) rfl rfl ?_
              refine wl_q (r_bin (.bool (decide _)) rfl rfl rfl) rfl rfl ?_
              refine wl_re 114 (.bool false) (bF (fun h => h hfe.symm)).symm ?_
              refine wl_q (r_move (.bool false) rfl) rfl rfl ?_
              refine wl_cal cal18 rfl rfl rfl ?_
              refine (store_Len _ _ _ _ _ _ _ _ _ hr (M22.ownSeg 0 3)).mono ?_
              rintro _ w23 ⟨v23, rfl, ⟨rfl, hM23⟩⟩
              refine ⟨_, rfl, ?_⟩
              have M23 : Mem _ _ [_, _, _, _, _, _] _ := M22.seg 0 3 hM23
              refine wl_q (r_move (.slice _ _ _) rfl) rfl rfl ?_
              refine wl_q (r_lenS Try.underlying22 rfl) rfl rfl ?_
              refine wl_q (r_bin (.bool (decide _)) rfl rfl rfl) rfl rfl ?_
              refine wl_re 119 (.bool false) (bF (fun h => h (by omega))).symm ?_
              refine wl_q (r_pick false (.bool false) rfl rfl) rfl rfl ?_
              refine wl_nil ?_
              refine thenN ?_
              refine W_condF rfl ?_
              refine W_skip ?_
              refine blkN ?_
              refine thenN ?_
              refine W_region ?_
              refine wl_q (r_move (.int _ _) rfl) rfl rfl ?_
              refine wl_q (r_add rfl rfl (by omega) (by omega)) rfl rfl ?_
              refine wl_q (r_assign (.int _ _) rfl) rfl rfl ?_
              refine wl_nil ?_
              refine roundN (i + 1, r, q, m, s) (agC rfl (agC rfl agN)) (akC rfl (akC rfl akN)) ?_ ?_
              · exact ⟨⟨by omega, hr, hq, hrel'⟩, M23.keep [true, true, true, true, false, false]⟩
              · (show n - (i + 1) < n - i; omega)
            · skip
              rcases hrel.get sb.body.key with ⟨hg1, _⟩ | ⟨gi, gb, hg1, hg2, hg3⟩
              · exact absurd hg1 h54
              have hfe : (0 : Int) = (getM m sb.body.key).2 := by rw [hg3]
              rw [hg3] at hx
              refine W_skip ?_
              refine thenN ?_
              refine W_seq ?_
              refine W_draw [(0, 0), (1, 0), (2, 0), (3, 1), (4, 0), (5, 0), (6, 0), (7, 0), (8, 0), (9, 0), (10, 0), (11, 1), (12, 0), (13, 0), (14, 1), (15, 1), (16, 0), (17, 0), (18, 0)] mixed rfl (by kernel_rfl) (fun w24 hb24 hh24 => ?_)
              have M24 := M21.drew hb24 hh24
              refine D_p rfl rfl rfl (fun _ => r_move (.int _ _) rfl) ?_
              refine D_p rfl rfl rfl (fun _ => r_bin (.bool (decide _)) rfl rfl rfl) ?_
              refine D_re 56 (.bool false) (bF h54).symm ?_
              refine D_p rfl rfl rfl (fun _ => r_move (.bool false) rfl) ?_
              refine D_s1 rfl rfl rfl ?_
              refine D_s rfl rfl rfl ?_
              refine D_s rfl rfl rfl ?_
              refine D_p rfl rfl rfl (fun _ => r_pick false (.bool false) rfl rfl) ?_
              refine D_p rfl rfl rfl (fun _ => r_move (.bool false) rfl) ?_
              refine D_p rfl rfl rfl (fun _ => r_move (.int _ _) rfl) ?_
              refine D_p rfl rfl rfl (fun _ => r_bin (.bool (decide _)) rfl rfl rfl) ?_
              refine D_re 64 (.bool true) (bT (by omega)).symm ?_
              refine D_p rfl rfl rfl (fun _ => r_move (.bool true) rfl) ?_
              refine D_r rfl rfl rfl (r_ldW 5 agg28 M24 rfl rfl rfl) ?_
              refine D_p rfl rfl rfl (fun _ => r_move (.slice _ _ _) rfl) ?_
              refine D_p rfl rfl rfl (fun _ => r_move (.int _ _) rfl) ?_
              refine D_r rfl rfl rfl (r_idxR (gi) sl22 rfl rfl hg1 ((hq.rd M24 (nthMem (i := 3) rfl)).below_len (mapGet bodyCells hg2)) ((hq.rd M24 (nthMem (i := 3) rfl)).someK (mapGet bodyCells hg2))) ?_
              refine D_r rfl rfl rfl (r_ldEA _ agg28 (hq.rd M24 (nthMem (i := 3) rfl)) (mapGet bodyCells hg2) rfl) ?_
              refine D_p rfl rfl rfl (fun _ => r_neA (eqBody _ gb) rfl rfl) ?_
              refine D_re 71 (.bool false) (bF (fun h => h hx)).symm ?_
              refine D_p rfl rfl rfl (fun _ => r_pick true (.bool false) rfl rfl) ?_
              refine D_p rfl rfl rfl (fun _ => r_pick false (.bool false) rfl rfl) ?_
              refine D_nil ?_
              refine thenN ?_
              refine W_condF rfl ?_
              refine W_skip ?_
              refine blkN ?_
              refine thenN ?_
              refine W_seq ?_
              refine W_region ?_
              refine wl_q (r_move (.int _ _) rfl) rfl rfl ?_
              refine wl_q (r_move (.int _ _) rfl) rfl rfl ?_
              refine wl_q (r_bin (.bool (decide _)) rfl rfl rfl) rfl rfl ?_
              refine wl_re 114 (.bool false) (bF (fun h => h hfe.symm)).symm ?_
              refine wl_q (r_move (.bool false) rfl) rfl rfl ?_
              refine wl_cal cal18 rfl rfl rfl ?_
              refine (store_Len _ _ _ _ _ _ _ _ _ hr (M24.ownSeg 0 3)).mono ?_
              rintro _ w25 ⟨v25, rfl, ⟨rfl, hM25⟩⟩
              refine ⟨_, rfl, ?_⟩
              have M25 : Mem _ _ [_, _, _, _, _, _] _ := M24.seg 0 3 hM25
              refine wl_q (r_move (.slice _ _ _) rfl) rfl rfl ?_
              refine wl_q (r_lenS Try.underlying22 rfl) rfl rfl ?_
              refine wl_q (r_bin (.bool (decide _)) rfl rfl rfl) rfl rfl ?_
              refine wl_re 119 (.bool false) (bF (fun h => h (by omega))).symm ?_
              refine wl_q (r_pick false (.bool false) rfl rfl) rfl rfl ?_
              refine wl_nil ?_
              refine thenN ?_
              refine W_condF rfl ?_
              refine W_skip ?_
              refine blkN ?_
              refine thenN ?_
              refine W_region ?_
              refine wl_q (r_move (.int _ _) rfl) rfl rfl ?_
              refine wl_q (r_add rfl rfl (by omega) (by omega)) rfl rfl ?_
              refine wl_q (r_assign (.int _ _) rfl) rfl rfl ?_
              refine wl_nil ?_
              refine roundN (i + 1, r, q, m, s) (agC rfl (agC rfl agN)) (akC rfl (akC rfl akN)) ?_ ?_
              · exact ⟨⟨by omega, hr, hq, hrel'⟩, M25.keep [true, true, true, true, false, false]⟩
              · (show n - (i + 1) < n - i; omega)
    · skip
      refine W_exit ?_
      refine thenX ?_
      refine roundX ?_
      refine blkH ?_
      refine thenN ?_
      refine W_seq ?_
      refine W_region ?_
      refine wl_cal cal17 rfl rfl rfl ?_
      refine (store_Bodies _ _ _ _ _ _ _ _ _ hr (hM6.ownSeg 0 3)).mono ?_
      rintro _ w26 ⟨v26, rfl, ⟨A26, n26, c26, e26, rfl, hR26, hM26⟩⟩
      refine ⟨_, rfl, ?_⟩
      have M26 : Mem _ _ [_, _, _, _, _] _ := hM6.seg 0 3 hM26
      rw [hrel.eq] at hR26
      refine wl_q (r_move (.slice _ _ _) rfl) rfl rfl ?_
      refine wl_cal cal16 rfl rfl rfl ?_
      refine (ref06_Same _ _ _ _ _ (hR26.rd M26 (nthMem (i := 4) rfl)) _ _ _ _ (hq.rd M26 (nthMem (i := 3) rfl))).mono ?_
      rintro _ w27 ⟨v27, rfl, ⟨rfl, hb27⟩⟩
      refine ⟨_, rfl, ?_⟩
      have M27 := M26.callB hb27
      refine wl_re 123 (.bool true) (bT rfl).symm ?_
      refine wl_q (r_assign (.bool true) rfl) rfl rfl ?_
      refine wl_nil ?_
      refine thenN ?_
      refine W_ret ?_
      skip
      refine fin1 (.bool true) rfl ?_
      exact ⟨rfl, M27.below⟩

end Go.Proofs.Ytaabkkdpjecknaa
