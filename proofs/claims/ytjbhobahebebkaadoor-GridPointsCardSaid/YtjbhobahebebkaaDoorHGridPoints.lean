import Derived.Test.YtjbhobahebebkaaDoorK5
import Derived.Test.YtjbhobahebebkaaDoorK25
import Derived.Test.YtjbhobahebebkaaDoorRows
import Derived.Test.YtjbhobahebebkaaDoorK26
import Derived.Test.YtjbhobahebebkaaDoorTie
import Derived.Test.YtjbhobahebebkaaDoorCards
import Derived.WalkKit
import Derived.ProofKit
import Derived.OpenShut
import Derived.ShutString
import Derived.ChangeOld
import Derived.Below
import Derived.SizedLaws
/- Walks of Go functions over the frame of this claim: what each computes, for every input of the stated types (LGridPoints). -/
set_option linter.unusedVariables false
set_option linter.unusedSimpArgs false
set_option linter.unnecessarySimpa false
namespace Go.Proofs.YtjbhobahebebkaaDoor
open Go.Bil
open Go.RowKit (Below)
open Go.Proofs

set_option maxHeartbeats 16000000 in
theorem law_GridPoints (w : World) (F : Rd w 2 (some ⟨0, 0, none⟩) 1 [[.int .u32 73856093, .int .u32 19349663]]) (A : Option Addr) (n c : Nat) (es : List GE) (R : Rd w 5 A n (es.map geCells)) (hes : ∀ x ∈ es, Okx x.2) (x y : Int) (hx : -2147483648 ≤ x ∧ x ≤ 2147483647) (hy : -2147483648 ≤ y ∧ y ≤ 2147483647) :
    Calls Tryd.prog 6 #[.slice A n c, .agg [.int .i32 x, .int .i32 y].toArray] w (fun ex w' => ∃ v, ex = .returned v ∧ (fun v w' => v = .bool true ∧ Below w.heap.size w w') v w') := by
  have hlen : es.length = n := by simpa using R.len
  have hbd := R.bound
  refine calls_of_W #[.tmp 4] 95 Tryd.func6 rfl Tryd.results6 Tryd.ntmps6 rfl ?_
  have M0 := Mem.refl w
  refine W_seq ?_
  refine W_region ?_
  refine wl_box (.agg (List.toArray _)) M0 rfl rfl rfl (fun b1 w1 M1 => ?_)
  refine wl_q (r_assign (.bool false) rfl) rfl rfl ?_
  refine wl_nil ?_
  refine thenN ?_
  refine W_seq ?_
  refine W_seq ?_
  refine W_region ?_
  refine wl_cal cal8 rfl rfl rfl ?_
  refine (aw10 _ (F.mem M1)).mono ?_
  rintro _ w2 ⟨v2, rfl, ⟨rfl, hb2⟩⟩
  refine ⟨_, rfl, ?_⟩
  have M2 := M1.callB hb2
  refine wl_q (r_notB false rfl rfl) rfl rfl ?_
  refine wl_q (r_move (.bool false) rfl) rfl rfl ?_
  refine wl_q (r_move (.slice _ _ _) rfl) rfl rfl ?_
  refine wl_cal cal9 rfl rfl rfl ?_
  refine (ref10_Few _ _ _ _ es (R.mem M2) hes).mono ?_
  rintro _ w3 ⟨v3, rfl, ⟨z, rfl, hzz, hb3⟩⟩
  refine ⟨_, rfl, ?_⟩
  have M3 := M2.callB hb3
  refine wl_q (r_notB _ rfl rfl) rfl rfl ?_
  refine wl_q (r_pick false (.bool _) rfl rfl) rfl rfl ?_
  refine wl_nil ?_
  refine thenN ?_
  refine W_cond _ rfl (fun h19 => ?_) (fun h19 => ?_)
  · skip
    refine W_seq ?_
    refine W_region ?_
    refine wl_cal cal8 rfl rfl rfl ?_
    refine (aw10 _ (F.mem M3)).mono ?_
    rintro _ w4 ⟨v4, rfl, ⟨rfl, hb4⟩⟩
    refine ⟨_, rfl, ?_⟩
    have M4 := M3.callB hb4
    refine wl_q (r_assign (.bool true) rfl) rfl rfl ?_
    refine wl_nil ?_
    refine thenN ?_
    refine W_ret ?_
    refine thenR ?_
    skip
    refine fin1 (.bool true) rfl ?_
    exact ⟨rfl, M4.below⟩
  · skip
    have hn40 : n ≤ 40 := hzz (by simp_all)
    have hnn : es.length * es.length ≤ 40 * 40 := Nat.mul_le_mul (by omega) (by omega)
    refine W_skip ?_
    refine thenN ?_
    refine W_seq ?_
    refine W_region ?_
    refine wl_alloc zeroGr M3 rfl rfl (fun b5 w5 M5 => ?_)
    have M6 := Mem.gridNew (L := [_]) M5
    refine wl_nil ?_
    refine thenN ?_
    refine W_seq ?_
    refine W_region ?_
    refine wl_q (r_move (.slice _ _ _) rfl) rfl rfl ?_
    refine wl_cal cal10 rfl rfl rfl ?_
    refine (law10_fill _ (F.mem M6) b5 (List.replicate 1024 nilRow) 0 noG (grid_noG 42) (by omega) (fun j => by simp [noG]) _ _ _ es (R.mem M6) hes (by omega) (Mem.ownTail (L := [_]) M6) (Mem.awayTail (L := [_]) M6 F) (Mem.awayTail (L := [_]) M6 R)).mono ?_
    rintro _ w7 ⟨v7, rfl, ⟨rfl, rs1, hG1, hM7⟩⟩
    refine ⟨_, rfl, ?_⟩
    have M7 : Mem _ _ ([_] ++ _) _ := Mem.tail (L := [_]) M6 hM7
    refine wl_nil ?_
    refine thenN ?_
    refine W_seq ?_
    refine W_region ?_
    refine wl_q (r_ldW 0 agg24 M7 rfl rfl rfl) rfl rfl ?_
    refine wl_cal cal16 rfl rfl rfl ?_
    refine (grid_At _ (F.mem M7) b5 rs1 (0 + ((n : Nat) : Int)) (fillG es noG) hG1 (Mem.ownTail (L := [_]) M7) (Mem.awayTail (L := [_]) M7 F) (fun j => by have h1 := fill_len es j; omega) x y).mono ?_
    rintro _ w8 ⟨v8, rfl, ⟨q, ksq, rfl, hakq, hksq, hq, hM8⟩⟩
    refine ⟨_, rfl, ?_⟩
    have M8 : Mem _ _ ([_, _] ++ _) _ := Mem.gridGet (L := [_]) M7 hM8
    have hlnq : ksq.length = q.n := by simpa using hq.1
    refine wl_q (r_assign (.slice _ _ _) rfl) rfl rfl ?_
    refine wl_nil ?_
    refine thenN ?_
    refine W_seq ?_
    refine W_region ?_
    refine wl_cal cal13 rfl rfl rfl ?_
    refine (grid_Candidates _ b5 rs1 (0 + ((n : Nat) : Int)) (fillG es noG) (show GridRows 42 rs1 (fillG es noG) from hG1).len (Mem.gridRd (show Mem _ _ ([_, _] ++ _) _ from M8) (show GridRows 42 rs1 (fillG es noG) from hG1).len) (fun j r hr => Mem.rowRd (show Mem _ _ ([_, _] ++ _) _ from M8) (show GridRows 42 rs1 (fillG es noG) from hG1) j r hr) (es.map (·.1)) (keys_fill es) (by first | (simp; done) | (simp; omega))).mono ?_
    rintro _ w9 ⟨v9, rfl, ⟨r, psr, hascr, hpsr, rfl, hr, hM9⟩⟩
    refine ⟨_, rfl, ?_⟩
    have M9 : Mem _ _ ([_, _, _] ++ _) _ := Mem.front (L := [_, _]) (M8.call0 hM9)
    have hcdr : ∀ z, z ∈ psr ↔ candP es z := fun z => (hpsr z).trans cand_fill
    have hfwr := cand_few hascr hcdr
    have hlnr : psr.length = r.n := by simpa using hr.1
    have hqb := hq.2.2.1
    refine wl_q (r_assign (.slice _ _ _) rfl) rfl rfl ?_
    refine wl_nil ?_
    refine thenN ?_
    refine W_seq ?_
    refine W_seq ?_
    refine W_region ?_
    refine wl_q (r_assign (.int _ _) rfl) rfl rfl ?_
    refine wl_nil ?_
    refine thenN ?_
    refine W_block ?_
    refine W_loop (σ := Nat) [0, 3, 6, 7] (fun i => [(8, .int .i64 (i : Int))]) (fun i w' => i ≤ n ∧ Mem w [] ([(some b1, bc [.int .i32 x, .int .i32 y] 24), q.e, r.e] ++ ((some b5, bc (gcells rs1 (0 + ((n : Nat) : Int))) 30) :: rs1.map Row.e)) w') (fun i => n - i) 0 (agC rfl agN) (⟨by omega, M9⟩) ?_
    rintro i ρ10 w10 ⟨hi, hM10⟩
    refine W_seq ?_
    refine W_seq ?_
    refine W_region ?_
    refine wl_q (r_move (.int _ _) rfl) rfl rfl ?_
    refine wl_q (r_move (.slice _ _ _) rfl) rfl rfl ?_
    refine wl_q (r_lenS Tryd.underlying22 rfl) rfl rfl ?_
    refine wl_q (r_bin (.bool (decide _)) rfl rfl rfl) rfl rfl ?_
    refine wl_nil ?_
    refine thenN ?_
    refine W_condD rfl (fun h29 => ?_) (fun h29 => ?_)
    · skip
      obtain ⟨xa, hxa⟩ := getSome (xs := es) (k := i) hlen (by omega)
      refine W_skip ?_
      refine thenN ?_
      refine W_seq ?_
      refine W_block ?_
      refine W_seq ?_
      refine W_draw [(0, 0), (1, 0), (2, 1), (3, 1), (4, 1), (5, 1), (6, 2), (7, 0), (8, 0)] mixed rfl (by kernel_rfl) (fun w11 hb11 hh11 => ?_)
      have M11 := hM10.drew hb11 hh11
      refine D_p rfl rfl rfl (fun _ => r_move (.slice _ _ _) rfl) ?_
      refine D_p rfl rfl rfl (fun _ => r_move (.int _ _) rfl) ?_
      refine D_r rfl rfl rfl (r_idxR (i) sl22 rfl rfl rfl ((R.mem M11).below_len (mapGet geCells hxa)) ((R.mem M11).someK (mapGet geCells hxa))) ?_
      refine D_r rfl rfl rfl (r_fieldAddrE 1 fld49_1 (R.mem M11) (Nat.lt_of_le_of_lt (Nat.zero_le _) ((R.mem M11).below_len (mapGet geCells hxa))) rfl) ?_
      refine D_r rfl rfl rfl (r_ldEP (o := 1) _ agg47 (R.mem M11) (mapGet geCells hxa) rfl rfl rfl) ?_
      refine D_r rfl rfl rfl (r_ldW 0 agg24 M11 rfl rfl rfl) ?_
      refine D_e [true, true, true, true] rfl (by kernel_rfl) ?_
      refine wl_cal cal21 rfl rfl rfl ?_
      refine (ref08_Contains _ xa.2 x y).mono ?_
      rintro _ w12 ⟨v12, rfl, ⟨z2, rfl, hz2, hb12⟩⟩
      refine ⟨_, rfl, ?_⟩
      have M12 := M11.callB hb12
      refine wl_nil (thenN ⟨alN, ?_⟩)
      refine D_p rfl rfl rfl (fun _ => r_notB _ rfl rfl) ?_
      refine D_p rfl rfl rfl (fun _ => r_assign (.bool _) rfl) ?_
      refine D_nil ?_
      refine thenN ?_
      refine W_seq ?_
      refine W_seq ?_
      refine W_region ?_
      refine wl_q (r_assign (.int _ _) rfl) rfl rfl ?_
      refine wl_nil ?_
      refine thenN ?_
      refine W_block ?_
      refine W_loop (σ := Nat) [0, 3, 6, 7, 8] (fun j => [(9, .bool (!z2 || decide (xa.1 ∈ ksq.take j))), (10, .int .i64 (j : Int))]) (fun j w' => j ≤ q.n ∧ Mem w [] ([(some b1, bc [.int .i32 x, .int .i32 y] 24), q.e, r.e] ++ ((some b5, bc (gcells rs1 (0 + ((n : Nat) : Int))) 30) :: rs1.map Row.e)) w') (fun j => q.n - j) 0 (agC (bv rfl (by simp)) (agC rfl agN)) (⟨by omega, M12⟩) ?_
      rintro j ρ13 w13 ⟨hj, hM13⟩
      refine W_seq ?_
      refine W_seq ?_
      refine W_region ?_
      refine wl_q (r_move (.int _ _) rfl) rfl rfl ?_
      refine wl_q (r_move (.slice _ _ _) rfl) rfl rfl ?_
      refine wl_q (r_lenS Tryd.underlying27 rfl) rfl rfl ?_
      refine wl_q (r_bin (.bool (decide _)) rfl rfl rfl) rfl rfl ?_
      refine wl_nil ?_
      refine thenN ?_
      refine W_condD rfl (fun h43 => ?_) (fun h43 => ?_)
      · skip
        obtain ⟨zk, hzk⟩ := getSome (xs := ksq) (k := j) hlnq (by omega)
        refine W_skip ?_
        refine thenN ?_
        refine W_seq ?_
        refine W_block ?_
        refine W_draw [(0, 0), (1, 0), (2, 0), (3, 0), (4, 1), (5, 1), (6, 0), (7, 0), (8, 1), (9, 1), (10, 1), (11, 0), (12, 0), (13, 0)] mixed rfl (by kernel_rfl) (fun w14 hb14 hh14 => ?_)
        have M14 := hM13.drew hb14 hh14
        refine D_p rfl rfl rfl (fun _ => r_move (.bool _) rfl) ?_
        refine D_p rfl rfl rfl (fun _ => r_move (.bool _) rfl) ?_
        refine D_split 47 _ rfl (fun g47 => ?_) (fun g47 => ?_)
        · skip
          refine D_s rfl rfl rfl ?_
          refine D_s rfl rfl rfl ?_
          refine D_s1 rfl rfl rfl ?_
          refine D_s1 rfl rfl rfl ?_
          refine D_s rfl rfl rfl ?_
          refine D_s rfl rfl rfl ?_
          refine D_s1 rfl rfl rfl ?_
          refine D_s1 rfl rfl rfl ?_
          refine D_s1 rfl rfl rfl ?_
          refine D_s rfl rfl rfl ?_
          refine D_p rfl rfl rfl (fun _ => r_pick true (.bool true) rfl rfl) ?_
          refine D_p rfl rfl rfl (fun _ => r_assign (.bool true) rfl) ?_
          refine D_nil ?_
          refine blkN ?_
          refine thenN ?_
          refine W_region ?_
          refine wl_q (r_move (.int _ _) rfl) rfl rfl ?_
          refine wl_q (r_add rfl rfl (by omega) (by omega)) rfl rfl ?_
          refine wl_q (r_assign (.int _ _) rfl) rfl rfl ?_
          refine wl_nil ?_
          refine roundN (j + 1) (agC (bv rfl (by rw [take_snoc hzk]; exact fnd_old g47)) (agC rfl agN)) (akC rfl (akC rfl (akC rfl (akC rfl (akC rfl akN))))) ?_ ?_
          · exact ⟨by omega, M14⟩
          · omega
        · skip
          refine D_p rfl rfl rfl (fun _ => r_move (.slice _ _ _) rfl) ?_
          refine D_p rfl rfl rfl (fun _ => r_move (.int _ _) rfl) ?_
          refine D_r rfl rfl rfl (r_idxR (j) sl27 rfl rfl rfl ((hq.rd M14 (nthMem (i := 1) rfl)).below_len (mapGet keyCell hzk)) ((hq.rd M14 (nthMem (i := 1) rfl)).someK (mapGet keyCell hzk))) ?_
          refine D_r rfl rfl rfl (r_ldE0 (.int _ _) one42 (hq.rd M14 (nthMem (i := 1) rfl)) (mapGet keyCell hzk) rfl) ?_
          refine D_p rfl rfl rfl (fun _ => r_move (.slice _ _ _) rfl) ?_
          refine D_p rfl rfl rfl (fun _ => r_move (.int _ _) rfl) ?_
          refine D_r rfl rfl rfl (r_idxR (i) sl22 rfl rfl rfl ((R.mem M14).below_len (mapGet geCells hxa)) ((R.mem M14).someK (mapGet geCells hxa))) ?_
          refine D_r rfl rfl rfl (r_fieldAddrE 0 fld49_0 (R.mem M14) (Nat.lt_of_le_of_lt (Nat.zero_le _) ((R.mem M14).below_len (mapGet geCells hxa))) rfl) ?_
          refine D_r rfl rfl rfl (r_ldE (o := 0) (.int _ _) one42 (R.mem M14) (mapGet geCells hxa) rfl rfl) ?_
          refine D_p rfl rfl rfl (fun _ => r_bin (.bool (decide _)) rfl rfl rfl) ?_
          refine D_p rfl rfl rfl (fun _ => r_pick false (.bool (decide _)) rfl rfl) ?_
          refine D_p rfl rfl rfl (fun _ => r_assign (.bool (decide _)) rfl) ?_
          refine D_nil ?_
          refine blkN ?_
          refine thenN ?_
          refine W_region ?_
          refine wl_q (r_move (.int _ _) rfl) rfl rfl ?_
          refine wl_q (r_add rfl rfl (by omega) (by omega)) rfl rfl ?_
          refine wl_q (r_assign (.int _ _) rfl) rfl rfl ?_
          refine wl_nil ?_
          refine roundN (j + 1) (agC (bv rfl (by rw [take_snoc hzk]; exact fnd_new g47)) (agC rfl agN)) (akC rfl (akC rfl (akC rfl (akC rfl (akC rfl akN))))) ?_ ?_
          · exact ⟨by omega, M14⟩
          · omega
      · skip
        have htk : ksq.take j = ksq := List.take_of_length_le (by omega)
        refine W_exit ?_
        refine thenX ?_
        refine roundX ?_
        refine blkH ?_
        refine thenN ?_
        refine W_seq ?_
        refine W_region ?_
        refine wl_q (r_move (.bool _) rfl) rfl rfl ?_
        refine wl_q (r_notB _ rfl rfl) rfl rfl ?_
        refine wl_re 60 (.bool false) (bv rfl (by rw [htk]; cases hz3 : z2; rfl; simp [(hksq xa.1).2 (in_keys (List.mem_of_getElem? hxa) (hz2.1 hz3))])) ?_
        refine wl_nil ?_
        refine thenN ?_
        refine W_condF rfl ?_
        refine W_skip ?_
        refine blkN ?_
        refine thenN ?_
        refine W_region ?_
        refine wl_q (r_move (.int _ _) rfl) rfl rfl ?_
        refine wl_q (r_add rfl rfl (by omega) (by omega)) rfl rfl ?_
        refine wl_q (r_assign (.int _ _) rfl) rfl rfl ?_
        refine wl_nil ?_
        refine roundN (i + 1) (agC rfl agN) (akC rfl (akC rfl (akC rfl (akC rfl akN)))) ?_ ?_
        · exact ⟨by omega, hM13⟩
        · omega
    · skip
      refine W_exit ?_
      refine thenX ?_
      refine roundX ?_
      refine blkH ?_
      refine thenN ?_
      refine W_seq ?_
      refine W_seq ?_
      refine W_region ?_
      refine wl_q (r_assign (.int _ _) rfl) rfl rfl ?_
      refine wl_nil ?_
      refine thenN ?_
      refine W_block ?_
      refine W_loop (σ := Nat) [6, 7] (fun i2 => [(11, .int .i64 (i2 : Int))]) (fun i2 w' => i2 ≤ q.n ∧ Mem w [] ([(some b1, bc [.int .i32 x, .int .i32 y] 24), q.e, r.e] ++ ((some b5, bc (gcells rs1 (0 + ((n : Nat) : Int))) 30) :: rs1.map Row.e)) w') (fun i2 => q.n - i2) 0 (agC rfl agN) (⟨by omega, hM10⟩) ?_
      rintro i2 ρ15 w15 ⟨hi2, hM15⟩
      refine W_seq ?_
      refine W_seq ?_
      refine W_region ?_
      refine wl_q (r_move (.int _ _) rfl) rfl rfl ?_
      refine wl_q (r_move (.slice _ _ _) rfl) rfl rfl ?_
      refine wl_q (r_lenS Tryd.underlying27 rfl) rfl rfl ?_
      refine wl_q (r_bin (.bool (decide _)) rfl rfl rfl) rfl rfl ?_
      refine wl_nil ?_
      refine thenN ?_
      refine W_condD rfl (fun h64 => ?_) (fun h64 => ?_)
      · skip
        obtain ⟨zb, hzb⟩ := getSome (xs := ksq) (k := i2) hlnq (by omega)
        refine W_skip ?_
        refine thenN ?_
        refine W_seq ?_
        refine W_block ?_
        refine W_seq ?_
        refine W_region ?_
        refine wl_q (r_assign (.int _ _) rfl) rfl rfl ?_
        refine wl_nil ?_
        refine thenN ?_
        refine W_block ?_
        refine W_loop (σ := Nat) [6, 7, 11] (fun j2 => [(12, .int .i64 (j2 : Int))]) (fun j2 w' => j2 ≤ i2 ∧ Mem w [] ([(some b1, bc [.int .i32 x, .int .i32 y] 24), q.e, r.e] ++ ((some b5, bc (gcells rs1 (0 + ((n : Nat) : Int))) 30) :: rs1.map Row.e)) w') (fun j2 => i2 - j2) 0 (agC rfl agN) (⟨by omega, hM15⟩) ?_
        rintro j2 ρ16 w16 ⟨hj2, hM16⟩
        refine W_seq ?_
        refine W_seq ?_
        refine W_region ?_
        refine wl_q (r_move (.int _ _) rfl) rfl rfl ?_
        refine wl_q (r_move (.int _ _) rfl) rfl rfl ?_
        refine wl_q (r_bin (.bool (decide _)) rfl rfl rfl) rfl rfl ?_
        refine wl_nil ?_
        refine thenN ?_
        refine W_condD rfl (fun h69 => ?_) (fun h69 => ?_)
        · skip
          obtain ⟨za, hza⟩ := getSome (xs := ksq) (k := j2) hlnq (by omega)
          have hab := ascI_at hakq (show j2 < i2 by omega) hza hzb
          refine W_skip ?_
          refine thenN ?_
          refine W_seq ?_
          refine W_block ?_
          refine W_seq ?_
          refine W_draw [(0, 0), (1, 0), (2, 1), (3, 1), (4, 0), (5, 0), (6, 1), (7, 1), (8, 0), (9, 0), (10, 0), (11, 0), (12, 0), (13, 1), (14, 1), (15, 0), (16, 0), (17, 1), (18, 1), (19, 0), (20, 2), (21, 0), (22, 0)] mixed rfl (by kernel_rfl) (fun w17 hb17 hh17 => ?_)
          have M17 := hM16.drew hb17 hh17
          refine D_p rfl rfl rfl (fun _ => r_move (.slice _ _ _) rfl) ?_
          refine D_p rfl rfl rfl (fun _ => r_move (.int _ _) rfl) ?_
          refine D_r rfl rfl rfl (r_idxR (j2) sl27 rfl rfl rfl ((hq.rd M17 (nthMem (i := 1) rfl)).below_len (mapGet keyCell hza)) ((hq.rd M17 (nthMem (i := 1) rfl)).someK (mapGet keyCell hza))) ?_
          refine D_r rfl rfl rfl (r_ldE0 (.int _ _) one42 (hq.rd M17 (nthMem (i := 1) rfl)) (mapGet keyCell hza) rfl) ?_
          refine D_p rfl rfl rfl (fun _ => r_move (.slice _ _ _) rfl) ?_
          refine D_p rfl rfl rfl (fun _ => r_move (.int _ _) rfl) ?_
          refine D_r rfl rfl rfl (r_idxR (i2) sl27 rfl rfl rfl ((hq.rd M17 (nthMem (i := 1) rfl)).below_len (mapGet keyCell hzb)) ((hq.rd M17 (nthMem (i := 1) rfl)).someK (mapGet keyCell hzb))) ?_
          refine D_r rfl rfl rfl (r_ldE0 (.int _ _) one42 (hq.rd M17 (nthMem (i := 1) rfl)) (mapGet keyCell hzb) rfl) ?_
          refine D_p rfl rfl rfl (fun _ => r_bin (.bool (decide _)) rfl rfl rfl) ?_
          refine D_re 80 (.bool false) (bF (by omega)).symm ?_
          refine D_p rfl rfl rfl (fun _ => r_move (.bool false) rfl) ?_
          refine D_p rfl rfl rfl (fun _ => r_move (.slice _ _ _) rfl) ?_
          refine D_p rfl rfl rfl (fun _ => r_move (.slice _ _ _) rfl) ?_
          refine D_p rfl rfl rfl (fun _ => r_move (.int _ _) rfl) ?_
          refine D_r rfl rfl rfl (r_idxR (j2) sl27 rfl rfl rfl ((hq.rd M17 (nthMem (i := 1) rfl)).below_len (mapGet keyCell hza)) ((hq.rd M17 (nthMem (i := 1) rfl)).someK (mapGet keyCell hza))) ?_
          refine D_r rfl rfl rfl (r_ldE0 (.int _ _) one42 (hq.rd M17 (nthMem (i := 1) rfl)) (mapGet keyCell hza) rfl) ?_
          refine D_p rfl rfl rfl (fun _ => r_move (.slice _ _ _) rfl) ?_
          refine D_p rfl rfl rfl (fun _ => r_move (.int _ _) rfl) ?_
          refine D_r rfl rfl rfl (r_idxR (i2) sl27 rfl rfl rfl ((hq.rd M17 (nthMem (i := 1) rfl)).below_len (mapGet keyCell hzb)) ((hq.rd M17 (nthMem (i := 1) rfl)).someK (mapGet keyCell hzb))) ?_
          refine D_r rfl rfl rfl (r_ldE0 (.int _ _) one42 (hq.rd M17 (nthMem (i := 1) rfl)) (mapGet keyCell hzb) rfl) ?_
          refine D_p rfl rfl rfl (fun _ => r_build [(0, .int _ _), (1, .int _ _)] _ struct44 rfl rfl) ?_
          refine D_e [true, true, true, true, true, true, true, true] rfl (by kernel_rfl) ?_
          refine wl_cal cal20 rfl rfl rfl ?_
          refine (law10_has _ (za, zb) _ _ _ psr (hr.rd M17 (nthMem (i := 2) rfl))).mono ?_
          rintro _ w18 ⟨v18, rfl, ⟨rfl, hb18⟩⟩
          refine ⟨_, rfl, ?_⟩
          have M18 := M17.callB hb18
          refine wl_nil (thenN ⟨alN, ?_⟩)
          refine D_re 92 (.bool true) (bT ((hcdr _).2 (at_cand ((hksq za).1 (List.mem_of_getElem? hza)) ((hksq zb).1 (List.mem_of_getElem? hzb)) hab))).symm ?_
          refine D_p rfl rfl rfl (fun _ => r_notB false rfl rfl) ?_
          refine D_p rfl rfl rfl (fun _ => r_pick false (.bool false) rfl rfl) ?_
          refine D_nil ?_
          refine thenN ?_
          refine W_condF rfl ?_
          refine W_skip ?_
          refine blkN ?_
          refine thenN ?_
          refine W_region ?_
          refine wl_q (r_move (.int _ _) rfl) rfl rfl ?_
          refine wl_q (r_add rfl rfl (by omega) (by omega)) rfl rfl ?_
          refine wl_q (r_assign (.int _ _) rfl) rfl rfl ?_
          refine wl_nil ?_
          refine roundN (j2 + 1) (agC rfl agN) (akC rfl (akC rfl (akC rfl akN))) ?_ ?_
          · exact ⟨by omega, M18⟩
          · omega
        · skip
          refine W_exit ?_
          refine thenX ?_
          refine roundX ?_
          refine blkH ?_
          refine blkN ?_
          refine thenN ?_
          refine W_region ?_
          refine wl_q (r_move (.int _ _) rfl) rfl rfl ?_
          refine wl_q (r_add rfl rfl (by omega) (by omega)) rfl rfl ?_
          refine wl_q (r_assign (.int _ _) rfl) rfl rfl ?_
          refine wl_nil ?_
          refine roundN (i2 + 1) (agC rfl agN) (akC rfl (akC rfl akN)) ?_ ?_
          · exact ⟨by omega, hM16⟩
          · omega
      · skip
        refine W_exit ?_
        refine thenX ?_
        refine roundX ?_
        refine blkH ?_
        refine thenN ?_
        refine W_seq ?_
        refine W_region ?_
        refine wl_q (r_assign (.bool true) rfl) rfl rfl ?_
        refine wl_nil ?_
        refine thenN ?_
        refine W_ret ?_
        skip
        refine fin1 (.bool true) rfl ?_
        exact ⟨rfl, hM15.below⟩

end Go.Proofs.YtjbhobahebebkaaDoor

set_option linter.unusedVariables false
set_option linter.unusedSimpArgs false
set_option linter.unnecessarySimpa false
namespace Go.Proofs.YtjbhobahebebkaaDoor
open Go.Bil
open Go.RowKit (Below)
open Go.Proofs

namespace gridPoints
open Go.ChangeShapes Go.WideShapes Go.ChangeAt Go.RowKit
open Go.ChangeMaps (open_string shut_string)
theorem own : ownKnob Tryd.prog.godebug = none := by kernel_rfl
theorem laidOut : laidOutB Tryd.prog = true := by kernel_rfl
set_option maxRecDepth 100000 in
theorem lifted (os : Os) (started : os.Started) (H : Type) (enc : TypeId × Value → H) :
    ReturnsInHanded {} Tryd.checked os 6 .any (fun w args => (Rows.gridPointsSpec.pre enc Tryd.prog Tryd.f6 [] false w args ∧ laidMet Tryd.prog laidL w) ∧ sizedMet enc Tryd.prog Tryd.f6 (OpenSpec.ofChange Rows.gridPointsSpec) false w args) (Rows.gridPointsSpec.post enc Tryd.prog Tryd.f6 false true false false) := by
  refine returnsInHanded_of_change_and (C := Tryd.checked) (X := fun w _ => laidMet Tryd.prog laidL w) (fun _ _ _ hh h => h.of_heap hh) own started (by kernel_rfl) Tryd.func6
    (ChangeSpec.witness_at (enc := enc) (C := Tryd.checked) (os := os) (X := fun w _ => laidMet Tryd.prog laidL w) false (laidWorld os) #[.slice none 0 0, (.agg #[.int .i32 0, .int .i32 0])] 8 rfl (by kernel_rfl) (by kernel_rfl) (by kernel_rfl) (by kernel_rfl) (by kernel_rfl) (laidMet_of_run' 8 (by kernel_rfl) (by kernel_rfl))) ?_
  intro W base args ds gs before hval0 hW hcnd hsz0 hL _
  have hsz : (DataW.weightsEach Tryd.prog (Tryd.f6.params.toList ++ Rows.gridPointsSpec.plain.varTypes Tryd.prog) (ds ++ gs)).all (· ≤ reachBytes) = true := hsz0
  have hval : ∀ (j : Nat) t v, Tryd.f6.params[j]? = some t → args[j]? = some v → Value.okWide Tryd.prog W .any base t v := hval0
  have hW' := hW
  obtain ⟨p, q, hA0, hV, rfl, hfz, hnd⟩ := hW
  have hA : DataW.TrodAll enc Tryd.prog W 0 (fun _ => true) true Tryd.f6.params.toList args.toList ds p := hA0
  rw [Tryd.params6] at hA hval hsz
  obtain ⟨v0, vs0, d0, ds0, p0, q0, hargs, rfl, rfl, h0, r0⟩ := trodAll_cons hA
  obtain ⟨v1, vs1, d1, ds1, p1, q1, rfl, rfl, rfl, h1, r1⟩ := trodAll_cons r0
  obtain ⟨rfl, rfl, rfl⟩ := trodAll_nil r1
  obtain rfl : args = #[v0, v1] := by cases args; simp_all
  obtain ⟨rfl, rfl⟩ := trodVars_none hV
  have k0 := h0
  have lt0 : ∀ x ∈ p0, x.block < W.heap.size := by obtain ⟨m, hm⟩ := k0; exact DataW.trod_lt m _ _ _ hm
  obtain ⟨a0, len0, cap0, rfl⟩ := okWide_slice Tryd.underlying22 (hval 0 22 v0 rfl rfl)
  have y0 := sized_rows hsz (j := 0) (t := 22) rfl rfl sl22 h0
  obtain ⟨ls0, R0, hi0⟩ := open_rows sl22 leaves49 rfl y0 h0
  obtain ⟨xs0, rfl, hx0⟩ := list_of geOf ls0 hi0
  have k1 := h1
  have lt1 : ∀ x ∈ p1, x.block < W.heap.size := by obtain ⟨m, hm⟩ := k1; exact DataW.trod_lt m _ _ _ hm
  obtain ⟨cs1, rfl, hi1⟩ := okWide_agg agg24 leaves24 rfl rfl h1
  obtain ⟨x1, rfl, hx1⟩ := vecOf _ hi1
  clear hA0 hval0 hsz0 hsz
  refine (law_GridPoints W (rdF hL) _ _ _ xs0 R0 hx0 x1.1 x1.2 hx1.1 hx1.2).mono fun e W' ⟨v, he, hv, bel⟩ => ?_
  subst he
  subst hv
  exact ⟨_, rfl, _, _, _, [], _, [], hW', trodAll_mk1 (shut_bool Tryd.underlying4 _), (trodAll_cons_mk (Below.trod laidOut (by kernel_rfl) (of_decide_eq_true (by kernel_rfl)) k0 bel lt0) (trodAll_cons_mk (Below.trod laidOut (by kernel_rfl) (of_decide_eq_true (by kernel_rfl)) k1 bel lt1) trodAll_mk0)), rfl, bel.frame _, fun h => by cases h⟩
theorem over : Rows.gridPointsRow.holds Tryd.pinned (OpenSpec.ofChange Rows.gridPointsSpec) :=
  OpenClaim.holds_of_wide 6 Tryd.f6 rfl rfl rfl rfl rfl rfl rfl ⟨rfl, rfl, rfl, rfl, rfl⟩ rfl rfl rfl rfl rfl (by kernel_rfl) Tryd.func6 (by kernel_rfl)
    (of_decide_eq_true (by kernel_rfl)) (by unfold Func.isWrapper; first | (rw [if_pos (by decide +kernel)]; kernel_rfl) | (rw [if_neg (by decide +kernel)]; exact ⟨rfl, rfl⟩))
    (fun os started H enc _ => lifted os started H enc)
end gridPoints
theorem gridPoints_holds : Rows.GridPointsSaid := gridPoints.over
#print axioms gridPoints_holds
theorem gridPoints_card : Rows.GridPointsCardSaid :=
  Claim7.holds_tied_plain_at .later [] [.data] true (true, "c18748f09deabc37e04f3531794e452193763da30ff121f71e5b9410b62debd6") false
    gridPoints_holds (fun _ h => by cases h) (by kernel_rfl) (fun _ h => by cases h) gridPoints_row_tie rfl ⟨rfl, rfl⟩ (by kernel_rfl) rfl
    (fun f fn hf hfn => by
      obtain rfl : f = 6 := Option.some.inj ((show Tryd.prog.funcNamed "billiard/billiardlaw10.GridPoints" = some 6 by kernel_rfl).symm.trans hf) |>.symm
      obtain rfl : fn = Tryd.f6 := (Option.some.inj (Tryd.func6.symm.trans hfn)).symm
      exact ⟨by kernel_rfl, fun j t ht => by
        rw [Tryd.params6] at ht
        have hm : t ∈ [22, 24] := by simpa using Array.mem_of_getElem? ht
        have hall : ([22, 24].all fun u => !Tryd.prog.wantsStandIn u) = true := by kernel_rfl
        exact (show Tryd.prog.wantsStandIn t = false by simpa using List.all_eq_true.1 hall t hm)⟩)
    (by kernel_rfl)
#print axioms gridPoints_card

end Go.Proofs.YtjbhobahebebkaaDoor
