import Derived.Test.YtjbhobahebebkaaDoorK5
import Derived.Test.YtjbhobahebebkaaDoorK25
import Derived.Test.YtjbhobahebebkaaDoorK3
import Derived.Test.YtjbhobahebebkaaDoorRows
import Derived.Test.YtjbhobahebebkaaDoorK26
import Derived.Test.YtjbhobahebebkaaDoorTie
import Derived.Test.YtjbhobahebebkaaDoorCards
import Derived.WalkKit
import Derived.ProofKit
import Derived.OpenShut
import Derived.ShutString
import Derived.ChangeOld
import Derived.Below
import Derived.SizedLaws
/- Walks of Go functions over the frame of this claim: what each computes, for every input of the stated types (LGridOrder). -/
set_option linter.unusedVariables false
set_option linter.unusedSimpArgs false
set_option linter.unnecessarySimpa false
namespace Go.Proofs.YtjbhobahebebkaaDoor
open Go.Bil
open Go.RowKit (Below)
open Go.Proofs

set_option maxHeartbeats 16000000 in
theorem law_GridOrder (w : World) (F : Rd w 2 (some ⟨0, 0, none⟩) 1 [[.int .u32 73856093, .int .u32 19349663]]) (A : Option Addr) (n c : Nat) (es : List GE) (R : Rd w 5 A n (es.map geCells)) (hes : ∀ x ∈ es, Okx x.2) (hcap : n ≤ c) (f : Nat) (hf : f ≤ 255) (x y : Int) (hx : -2147483648 ≤ x ∧ x ≤ 2147483647) (hy : -2147483648 ≤ y ∧ y ≤ 2147483647) :
    Calls Tryd.prog 5 #[.slice A n c, .int .u8 (f : Int), .agg [.int .i32 x, .int .i32 y].toArray] w (fun ex w' => ∃ v, ex = .returned v ∧ (fun v w' => v = .bool true ∧ Below w.heap.size w w') v w') := by
  have hlen : es.length = n := by simpa using R.len
  have hbd := R.bound
  refine calls_of_W #[.tmp 6] 60 Tryd.func5 rfl Tryd.results5 Tryd.ntmps5 rfl ?_
  have M0 := Mem.refl w
  refine W_seq ?_
  refine W_region ?_
  refine wl_box (.agg (List.toArray _)) M0 rfl rfl rfl (fun b1 w1 M1 => ?_)
  refine wl_q (r_assign (.bool false) rfl) rfl rfl ?_
  refine wl_nil ?_
  refine thenN ?_
  refine W_seq ?_
  refine W_seq ?_
  refine W_region ?_
  refine wl_cal cal8 rfl rfl rfl ?_
  refine (aw10 _ (F.mem M1)).mono ?_
  rintro _ w2 ⟨v2, rfl, ⟨rfl, hb2⟩⟩
  refine ⟨_, rfl, ?_⟩
  have M2 := M1.callB hb2
  refine wl_q (r_notB false rfl rfl) rfl rfl ?_
  refine wl_q (r_move (.bool false) rfl) rfl rfl ?_
  refine wl_q (r_move (.slice _ _ _) rfl) rfl rfl ?_
  refine wl_cal cal9 rfl rfl rfl ?_
  refine (ref10_Few _ _ _ _ es (R.mem M2) hes).mono ?_
  rintro _ w3 ⟨v3, rfl, ⟨z, rfl, hzz, hb3⟩⟩
  refine ⟨_, rfl, ?_⟩
  have M3 := M2.callB hb3
  refine wl_q (r_notB _ rfl rfl) rfl rfl ?_
  refine wl_q (r_pick false (.bool _) rfl rfl) rfl rfl ?_
  refine wl_q (r_move (.bool _) rfl) rfl rfl ?_
  refine wl_split 17 _ rfl (fun g17 => ?_) (fun g17 => ?_)
  · skip
    refine wl_skip rfl rfl ?_
    refine wl_skip rfl rfl ?_
    refine wl_skip rfl rfl ?_
    refine wl_q (r_pick true (.bool true) rfl rfl) rfl rfl ?_
    refine wl_nil ?_
    refine thenN ?_
    refine W_condT rfl ?_
    refine W_seq ?_
    refine W_region ?_
    refine wl_cal cal8 rfl rfl rfl ?_
    refine (aw10 _ (F.mem M3)).mono ?_
    rintro _ w4 ⟨v4, rfl, ⟨rfl, hb4⟩⟩
    refine ⟨_, rfl, ?_⟩
    have M4 := M3.callB hb4
    refine wl_q (r_assign (.bool true) rfl) rfl rfl ?_
    refine wl_nil ?_
    refine thenN ?_
    refine W_ret ?_
    refine thenR ?_
    skip
    refine fin1 (.bool true) rfl ?_
    exact ⟨rfl, M4.below⟩
  · skip
    refine wl_q (r_move (.slice _ _ _) rfl) rfl rfl ?_
    refine wl_q (r_lenS Tryd.underlying22 rfl) rfl rfl ?_
    refine wl_q (r_bin (.bool (decide _)) rfl rfl rfl) rfl rfl ?_
    refine wl_q (r_pick false (.bool (decide _)) rfl rfl) rfl rfl ?_
    refine wl_nil ?_
    refine thenN ?_
    refine W_condD rfl (fun h21 => ?_) (fun h21 => ?_)
    · skip
      refine W_seq ?_
      refine W_region ?_
      refine wl_cal cal8 rfl rfl rfl ?_
      refine (aw10 _ (F.mem M3)).mono ?_
      rintro _ w5 ⟨v5, rfl, ⟨rfl, hb5⟩⟩
      refine ⟨_, rfl, ?_⟩
      have M5 := M3.callB hb5
      refine wl_q (r_assign (.bool true) rfl) rfl rfl ?_
      refine wl_nil ?_
      refine thenN ?_
      refine W_ret ?_
      refine thenR ?_
      skip
      refine fin1 (.bool true) rfl ?_
      exact ⟨rfl, M5.below⟩
    · skip
      have hn40 : n ≤ 40 := hzz (by simp_all)
      have hnn : es.length * es.length ≤ 40 * 40 := Nat.mul_le_mul (by omega) (by omega)
      obtain ⟨kk, hkk⟩ : ∃ kk : Nat, kk = f % n := ⟨_, rfl⟩
      have hkl : kk < n := by rw [hkk]; exact Nat.mod_lt _ (by omega)
      have hl1 := subl (a := kk) (b := n) hlen (by omega)
      have hl2 := subl (a := 0) (b := kk) hlen (by omega)
      have hl3 := subl (a := kk) (b := kk + 1) hlen (by omega)
      have hnm : ((((es.drop kk).take (n - kk)) ++ ((es.drop 0).take (kk - 0))) ++ ((es.drop kk).take ((kk + 1) - kk))).length * ((((es.drop kk).take (n - kk)) ++ ((es.drop 0).take (kk - 0))) ++ ((es.drop kk).take ((kk + 1) - kk))).length ≤ 41 * 41 := Nat.mul_le_mul (by simp only [List.length_append, hl1, hl2, hl3]; omega) (by simp only [List.length_append, hl1, hl2, hl3]; omega)
      refine W_skip ?_
      refine thenN ?_
      refine W_seq ?_
      refine W_region ?_
      refine wl_q (r_move (.int _ _) rfl) rfl rfl ?_
      refine wl_q (r_convK us5 Tryd.underlying3 rfl (w64 _ (by omega) (by omega))) rfl rfl ?_
      refine wl_q (r_move (.slice _ _ _) rfl) rfl rfl ?_
      refine wl_q (r_lenS Tryd.underlying22 rfl) rfl rfl ?_
      refine wl_q (r_rem rfl rfl (by omega)) rfl rfl ?_
      refine wl_re 27 (.int .i64 (kk : Int)) (iE (tmod_nat rfl hkk)) ?_
      refine wl_q (r_assign (.int _ _) rfl) rfl rfl ?_
      refine wl_nil ?_
      refine thenN ?_
      refine W_seq ?_
      refine W_region ?_
      refine wl_alloc zeroGr M3 rfl rfl (fun b6 w6 M6 => ?_)
      have M7 := Mem.gridNew (L := [_]) M6
      refine wl_nil ?_
      refine thenN ?_
      refine W_seq ?_
      refine W_region ?_
      refine wl_alloc zeroGr M7 rfl rfl (fun b8 w8 M8 => ?_)
      have M9 : Mem _ _ ([_, _] ++ _) _ := Mem.front (L := [_]) M8
      have M10 := Mem.gridNew2 (L := [_]) M9
      refine wl_nil ?_
      refine thenN ?_
      refine W_seq ?_
      refine W_region ?_
      refine wl_q (r_move (.slice _ _ _) rfl) rfl rfl ?_
      refine wl_cal cal10 rfl rfl rfl ?_
      refine (law10_fill _ (F.mem M10) b6 (List.replicate 1024 nilRow) 0 noG (grid_noG 42) (by omega) (fun j => by simp [noG]) _ _ _ es (R.mem M10) hes (by omega) (Mem.ownTA (L := [_]) M10) (Mem.awayTail (Mem.asA (L := [_]) M10) F) (Mem.awayTail (Mem.asA (L := [_]) M10) R)).mono ?_
      rintro _ w11 ⟨v11, rfl, ⟨rfl, rs1, hG1, hM11⟩⟩
      refine ⟨_, rfl, ?_⟩
      have M11 : Mem _ _ ([_] ++ _) _ := Mem.tailA (L := [_]) M10 hM11
      refine wl_nil ?_
      refine thenN ?_
      refine W_seq ?_
      refine W_region ?_
      refine wl_q (r_move (.slice _ _ _) rfl) rfl rfl ?_
      refine wl_q (r_move (.int _ _) rfl) rfl rfl ?_
      refine wl_q (r_slice ((kk : Int)) ((n : Int)) sl22 rfl ⟨_, rfl⟩ rfl (by omega) (by omega) (by omega)) rfl rfl ?_
      refine wl_cal cal10 rfl rfl rfl ?_
      refine (law10_fill _ (F.mem M11) b8 (List.replicate 1024 nilRow) 0 noG (grid_noG 42) (by omega) (fun j => by simp [noG]) _ _ _ ((es.drop kk).take (n - kk)) ((Rd.subE R kk n (by omega) (by omega) hcap).mem M11) (fun x hx => hes x (List.mem_of_mem_drop (List.mem_of_mem_take hx))) (by omega) (Mem.ownTB (L := [_]) M11) (Mem.awayTail (Mem.asB (L := [_]) M11) F) (Mem.awayTail (Mem.asB (L := [_]) M11) (Rd.subE R kk n (by omega) (by omega) hcap))).mono ?_
      rintro _ w12 ⟨v12, rfl, ⟨rfl, rs2, hG2, hM12⟩⟩
      refine ⟨_, rfl, ?_⟩
      have M12 : Mem _ _ ([_] ++ _) _ := Mem.tailB (L := [_]) M11 hM12
      refine wl_nil ?_
      refine thenN ?_
      refine W_seq ?_
      refine W_region ?_
      refine wl_q (r_move (.slice _ _ _) rfl) rfl rfl ?_
      refine wl_q (r_move (.int _ _) rfl) rfl rfl ?_
      refine wl_q (r_slice (0) ((kk : Int)) sl22 rfl rfl ⟨_, rfl⟩ (by omega) (by omega) (by omega)) rfl rfl ?_
      refine wl_cal cal10 rfl rfl rfl ?_
      refine (law10_fill _ (F.mem M12) b8 rs2 (0 + (((n - kk) : Nat) : Int)) (fillG ((es.drop kk).take (n - kk)) noG) hG2 (by omega) (fun j => by have h1 := fill_len ((es.drop kk).take (n - kk)) j; simp only [hl1] at h1; omega) _ _ _ ((es.drop 0).take (kk - 0)) ((Rd.subE R 0 kk (by omega) (by omega) hcap).mem M12) (fun x hx => hes x (List.mem_of_mem_drop (List.mem_of_mem_take hx))) (by omega) (Mem.ownTB (L := [_]) M12) (Mem.awayTail (Mem.asB (L := [_]) M12) F) (Mem.awayTail (Mem.asB (L := [_]) M12) (Rd.subE R 0 kk (by omega) (by omega) hcap))).mono ?_
      rintro _ w13 ⟨v13, rfl, ⟨rfl, rs3, hG3, hM13⟩⟩
      refine ⟨_, rfl, ?_⟩
      have M13 : Mem _ _ ([_] ++ _) _ := Mem.tailB (L := [_]) M12 hM13
      rw [fillG_app] at hG3
      refine wl_nil ?_
      refine thenN ?_
      refine W_seq ?_
      refine W_region ?_
      refine wl_q (r_move (.slice _ _ _) rfl) rfl rfl ?_
      refine wl_q (r_move (.int _ _) rfl) rfl rfl ?_
      refine wl_q (r_move (.int _ _) rfl) rfl rfl ?_
      refine wl_q (r_add rfl rfl (by omega) (by omega)) rfl rfl ?_
      refine wl_re 41 (.int .i64 ((kk + 1 : Nat) : Int)) (iE (by omega)) ?_
      refine wl_q (r_slice ((kk : Int)) (((kk + 1 : Nat) : Int)) sl22 rfl ⟨_, rfl⟩ ⟨_, rfl⟩ (by omega) (by omega) (by omega)) rfl rfl ?_
      refine wl_cal cal10 rfl rfl rfl ?_
      refine (law10_fill _ (F.mem M13) b8 rs3 ((0 + (((n - kk) : Nat) : Int)) + (((kk - 0) : Nat) : Int)) (fillG (((es.drop kk).take (n - kk)) ++ ((es.drop 0).take (kk - 0))) noG) hG3 (by omega) (fun j => by have h1 := fill_len (((es.drop kk).take (n - kk)) ++ ((es.drop 0).take (kk - 0))) j; simp only [List.length_append, hl1, hl2] at h1; omega) _ _ _ ((es.drop kk).take ((kk + 1) - kk)) ((Rd.subE R kk (kk + 1) (by omega) (by omega) hcap).mem M13) (fun x hx => hes x (List.mem_of_mem_drop (List.mem_of_mem_take hx))) (by omega) (Mem.ownTB (L := [_]) M13) (Mem.awayTail (Mem.asB (L := [_]) M13) F) (Mem.awayTail (Mem.asB (L := [_]) M13) (Rd.subE R kk (kk + 1) (by omega) (by omega) hcap))).mono ?_
      rintro _ w14 ⟨v14, rfl, ⟨rfl, rs4, hG4, hM14⟩⟩
      refine ⟨_, rfl, ?_⟩
      have M14 : Mem _ _ ([_] ++ _) _ := Mem.tailB (L := [_]) M13 hM14
      rw [fillG_app] at hG4
      refine wl_nil ?_
      refine thenN ?_
      refine W_seq ?_
      refine W_draw [(0, 2), (1, 2), (2, 2), (3, 0), (4, 1), (6, 1), (5, 2), (7, 2), (8, 2), (9, 0), (10, 0), (11, 2), (12, 2), (13, 0), (14, 0), (15, 0), (16, 0)] mixed rfl (by kernel_rfl) (fun w15 hb15 hh15 => ?_)
      have M15 := M14.drew hb15 hh15
      refine D_e [] rfl (by kernel_rfl) ?_
      refine wl_cal cal13 rfl rfl rfl ?_
      refine (grid_Candidates _ b6 rs1 (0 + ((n : Nat) : Int)) (fillG es noG) (show GridRows 42 rs1 (fillG es noG) from hG1).len (Mem.gridRd (Mem.asA (L := [_]) M15) (show GridRows 42 rs1 (fillG es noG) from hG1).len) (fun j r hr => Mem.rowRd (Mem.asA (L := [_]) M15) (show GridRows 42 rs1 (fillG es noG) from hG1) j r hr) (es.map (·.1)) (keys_fill es) (by first | (simp; done) | (simp; omega))).mono ?_
      rintro _ w16 ⟨v16, rfl, ⟨r, psr, hascr, hpsr, rfl, hr, hM16⟩⟩
      refine ⟨_, rfl, ?_⟩
      have M16 : Mem _ _ ([_, _] ++ _) _ := Mem.front (L := [_]) (M15.call0 hM16)
      have hcdr : ∀ z, z ∈ psr ↔ candP es z := fun z => (hpsr z).trans cand_fill
      have hfwr := cand_few hascr hcdr
      have hlnr : psr.length = r.n := by simpa using hr.1
      refine wl_nil (thenN ⟨alN, ?_⟩)
      refine D_e [] rfl (by kernel_rfl) ?_
      refine wl_cal cal13 rfl rfl rfl ?_
      refine (grid_Candidates _ b8 rs4 (((0 + (((n - kk) : Nat) : Int)) + (((kk - 0) : Nat) : Int)) + ((((kk + 1) - kk) : Nat) : Int)) (fillG ((((es.drop kk).take (n - kk)) ++ ((es.drop 0).take (kk - 0))) ++ ((es.drop kk).take ((kk + 1) - kk))) noG) (show GridRows 42 rs4 (fillG ((((es.drop kk).take (n - kk)) ++ ((es.drop 0).take (kk - 0))) ++ ((es.drop kk).take ((kk + 1) - kk))) noG) from hG4).len (Mem.gridRd (Mem.asB (L := [_, _]) M16) (show GridRows 42 rs4 (fillG ((((es.drop kk).take (n - kk)) ++ ((es.drop 0).take (kk - 0))) ++ ((es.drop kk).take ((kk + 1) - kk))) noG) from hG4).len) (fun j r hr => Mem.rowRd (Mem.asB (L := [_, _]) M16) (show GridRows 42 rs4 (fillG ((((es.drop kk).take (n - kk)) ++ ((es.drop 0).take (kk - 0))) ++ ((es.drop kk).take ((kk + 1) - kk))) noG) from hG4) j r hr) (((((es.drop kk).take (n - kk)) ++ ((es.drop 0).take (kk - 0))) ++ ((es.drop kk).take ((kk + 1) - kk))).map (·.1)) (keys_fill ((((es.drop kk).take (n - kk)) ++ ((es.drop 0).take (kk - 0))) ++ ((es.drop kk).take ((kk + 1) - kk)))) (by first | (simp; done) | (simp; omega))).mono ?_
      rintro _ w17 ⟨v17, rfl, ⟨s, pss, hascs, hpss, rfl, hs, hM17⟩⟩
      refine ⟨_, rfl, ?_⟩
      have M17 : Mem _ _ ([_, _, _] ++ _) _ := Mem.front (L := [_, _]) (M16.call0 hM17)
      have hcds : ∀ z, z ∈ pss ↔ candP ((((es.drop kk).take (n - kk)) ++ ((es.drop 0).take (kk - 0))) ++ ((es.drop kk).take ((kk + 1) - kk))) z := fun z => (hpss z).trans cand_fill
      have hfws := cand_few hascs hcds
      have hlns : pss.length = s.n := by simpa using hs.1
      refine wl_nil (thenN ⟨alN, ?_⟩)
      refine D_e [] rfl (by kernel_rfl) ?_
      refine wl_cal cal12 rfl rfl rfl ?_
      refine (same_pairs _ _ _ _ psr (hr.rd M17 (nthMem (i := 1) rfl)) _ _ _ pss (hs.rd M17 (nthMem (i := 2) rfl))).mono ?_
      rintro _ w18 ⟨v18, rfl, ⟨rfl, hb18⟩⟩
      refine ⟨_, rfl, ?_⟩
      have M18 := M17.callB hb18
      refine wl_nil (thenN ⟨alN, ?_⟩)
      refine D_re 46 (.bool true) (bT (cand_uni hascr hascs hcdr hcds (turn2 hlen hkl))).symm ?_
      refine D_p rfl rfl rfl (fun _ => r_move (.bool true) rfl) ?_
      refine D_r rfl rfl rfl (r_ldW 0 agg24 M18 rfl rfl rfl) ?_
      refine D_r rfl rfl rfl (r_ldW 0 agg24 M18 rfl rfl rfl) ?_
      refine D_e [false, true] rfl (by kernel_rfl) ?_
      refine wl_cal cal16 rfl rfl rfl ?_
      refine (grid_At _ (F.mem M18) b6 rs1 (0 + ((n : Nat) : Int)) (fillG es noG) hG1 (Mem.ownTA (L := [_, _, _]) M18) (Mem.awayTail (Mem.asA (L := [_, _, _]) M18) F) (fun j => by have h1 := fill_len es j; omega) x y).mono ?_
      rintro _ w19 ⟨v19, rfl, ⟨q, ksq, rfl, hakq, hksq, hq, hM19⟩⟩
      refine ⟨_, rfl, ?_⟩
      have M19 : Mem _ _ ([_, _, _, _] ++ _) _ := Mem.getA (L := [_, _, _]) M18 hM19
      have hlnq : ksq.length = q.n := by simpa using hq.1
      refine wl_nil (thenN ⟨(alC (Yl_of rfl (r_ldW 0 agg24 M19 rfl rfl rfl)) alN), ?_⟩)
      refine D_e [true] rfl (by kernel_rfl) ?_
      refine wl_cal cal16 rfl rfl rfl ?_
      refine (grid_At _ (F.mem M19) b8 rs4 (((0 + (((n - kk) : Nat) : Int)) + (((kk - 0) : Nat) : Int)) + ((((kk + 1) - kk) : Nat) : Int)) (fillG ((((es.drop kk).take (n - kk)) ++ ((es.drop 0).take (kk - 0))) ++ ((es.drop kk).take ((kk + 1) - kk))) noG) hG4 (Mem.ownTB (L := [_, _, _, _]) M19) (Mem.awayTail (Mem.asB (L := [_, _, _, _]) M19) F) (fun j => by have h1 := fill_len ((((es.drop kk).take (n - kk)) ++ ((es.drop 0).take (kk - 0))) ++ ((es.drop kk).take ((kk + 1) - kk))) j; simp only [List.length_append, hl1, hl2, hl3] at h1; omega) x y).mono ?_
      rintro _ w20 ⟨v20, rfl, ⟨q2, ksq2, rfl, hakq2, hksq2, hq2, hM20⟩⟩
      refine ⟨_, rfl, ?_⟩
      have M20 : Mem _ _ ([_, _, _, _, _] ++ _) _ := Mem.getB (L := [_, _, _, _]) M19 hM20
      have hlnq2 : ksq2.length = q2.n := by simpa using hq2.1
      refine wl_nil (thenN ⟨alN, ?_⟩)
      refine D_e [] rfl (by kernel_rfl) ?_
      refine wl_cal cal15 rfl rfl rfl ?_
      refine (same_keys _ _ _ _ ksq (hq.rd M20 (nthMem (i := 3) rfl)) _ _ _ ksq2 (hq2.rd M20 (nthMem (i := 4) rfl))).mono ?_
      rintro _ w21 ⟨v21, rfl, ⟨rfl, hb21⟩⟩
      refine ⟨_, rfl, ?_⟩
      have M21 := M20.callB hb21
      refine wl_nil (thenN ⟨alN, ?_⟩)
      refine D_re 52 (.bool true) (bT (ascI_unique hakq hakq2 (fun z => (hksq z).trans ((at_congr (turn2 hlen hkl)).trans (hksq2 z).symm)))).symm ?_
      refine D_p rfl rfl rfl (fun _ => r_pick true (.bool true) rfl rfl) ?_
      refine D_p rfl rfl rfl (fun _ => r_move (.bool true) rfl) ?_
      refine D_e [] rfl (by kernel_rfl) ?_
      refine wl_cal cal11 rfl rfl rfl ?_
      refine (grid_Len _ b8 rs4 (((0 + (((n - kk) : Nat) : Int)) + (((kk - 0) : Nat) : Int)) + ((((kk + 1) - kk) : Nat) : Int)) (fillG ((((es.drop kk).take (n - kk)) ++ ((es.drop 0).take (kk - 0))) ++ ((es.drop kk).take ((kk + 1) - kk))) noG) hG4 (Mem.ownTB (L := [_, _, _, _, _]) M21)).mono ?_
      rintro _ w22 ⟨v22, rfl, ⟨rfl, hM22⟩⟩
      refine ⟨_, rfl, ?_⟩
      have M22 : Mem _ _ ([_, _, _, _, _] ++ _) _ := Mem.tailB (L := [_, _, _, _, _]) M21 hM22
      refine wl_nil (thenN ⟨alN, ?_⟩)
      refine D_e [] rfl (by kernel_rfl) ?_
      refine wl_cal cal11 rfl rfl rfl ?_
      refine (grid_Len _ b6 rs1 (0 + ((n : Nat) : Int)) (fillG es noG) hG1 (Mem.ownTA (L := [_, _, _, _, _]) M22)).mono ?_
      rintro _ w23 ⟨v23, rfl, ⟨rfl, hM23⟩⟩
      refine ⟨_, rfl, ?_⟩
      have M23 : Mem _ _ ([_, _, _, _, _] ++ _) _ := Mem.tailA (L := [_, _, _, _, _]) M22 hM23
      refine wl_nil (thenN ⟨alN, ?_⟩)
      refine D_p rfl rfl rfl (fun _ => r_add rfl rfl (by omega) (by omega)) ?_
      refine D_p rfl rfl rfl (fun _ => r_bin (.bool (decide _)) rfl rfl rfl) ?_
      refine D_re 58 (.bool true) (bT (by omega)).symm ?_
      refine D_p rfl rfl rfl (fun _ => r_pick true (.bool true) rfl rfl) ?_
      refine D_p rfl rfl rfl (fun _ => r_assign (.bool true) rfl) ?_
      refine D_nil ?_
      refine thenN ?_
      refine W_ret ?_
      skip
      refine fin1 (.bool true) rfl ?_
      exact ⟨rfl, M23.below⟩

end Go.Proofs.YtjbhobahebebkaaDoor

set_option linter.unusedVariables false
set_option linter.unusedSimpArgs false
set_option linter.unnecessarySimpa false
namespace Go.Proofs.YtjbhobahebebkaaDoor
open Go.Bil
open Go.RowKit (Below)
open Go.Proofs

namespace gridOrder
open Go.ChangeShapes Go.WideShapes Go.ChangeAt Go.RowKit
open Go.ChangeMaps (open_string shut_string)
theorem own : ownKnob Tryd.prog.godebug = none := by kernel_rfl
theorem laidOut : laidOutB Tryd.prog = true := by kernel_rfl
set_option maxRecDepth 100000 in
theorem lifted (os : Os) (started : os.Started) (H : Type) (enc : TypeId × Value → H) :
    ReturnsInHanded {} Tryd.checked os 5 .any (fun w args => (Rows.gridOrderSpec.pre enc Tryd.prog Tryd.f5 [] false w args ∧ laidMet Tryd.prog laidL w) ∧ sizedMet enc Tryd.prog Tryd.f5 (OpenSpec.ofChange Rows.gridOrderSpec) false w args) (Rows.gridOrderSpec.post enc Tryd.prog Tryd.f5 false true false false) := by
  refine returnsInHanded_of_change_and (C := Tryd.checked) (X := fun w _ => laidMet Tryd.prog laidL w) (fun _ _ _ hh h => h.of_heap hh) own started (by kernel_rfl) Tryd.func5
    (ChangeSpec.witness_at (enc := enc) (C := Tryd.checked) (os := os) (X := fun w _ => laidMet Tryd.prog laidL w) false (laidWorld os) #[.slice none 0 0, .int .u8 0, (.agg #[.int .i32 0, .int .i32 0])] 8 rfl (by kernel_rfl) (by kernel_rfl) (by kernel_rfl) (by kernel_rfl) (by kernel_rfl) (laidMet_of_run' 8 (by kernel_rfl) (by kernel_rfl))) ?_
  intro W base args ds gs before hval0 hW hcnd hsz0 hL _
  have hsz : (DataW.weightsEach Tryd.prog (Tryd.f5.params.toList ++ Rows.gridOrderSpec.plain.varTypes Tryd.prog) (ds ++ gs)).all (· ≤ reachBytes) = true := hsz0
  have hval : ∀ (j : Nat) t v, Tryd.f5.params[j]? = some t → args[j]? = some v → Value.okWide Tryd.prog W .any base t v := hval0
  have hW' := hW
  obtain ⟨p, q, hA0, hV, rfl, hfz, hnd⟩ := hW
  have hA : DataW.TrodAll enc Tryd.prog W 0 (fun _ => true) true Tryd.f5.params.toList args.toList ds p := hA0
  rw [Tryd.params5] at hA hval hsz
  obtain ⟨v0, vs0, d0, ds0, p0, q0, hargs, rfl, rfl, h0, r0⟩ := trodAll_cons hA
  obtain ⟨v1, vs1, d1, ds1, p1, q1, rfl, rfl, rfl, h1, r1⟩ := trodAll_cons r0
  obtain ⟨v2, vs2, d2, ds2, p2, q2, rfl, rfl, rfl, h2, r2⟩ := trodAll_cons r1
  obtain ⟨rfl, rfl, rfl⟩ := trodAll_nil r2
  obtain rfl : args = #[v0, v1, v2] := by cases args; simp_all
  obtain ⟨rfl, rfl⟩ := trodVars_none hV
  have k0 := h0
  have lt0 : ∀ x ∈ p0, x.block < W.heap.size := by obtain ⟨m, hm⟩ := k0; exact DataW.trod_lt m _ _ _ hm
  obtain ⟨a0, len0, cap0, rfl⟩ := okWide_slice Tryd.underlying22 (hval 0 22 v0 rfl rfl)
  have y0 := sized_rows hsz (j := 0) (t := 22) rfl rfl sl22 h0
  obtain ⟨ls0, R0, hi0⟩ := open_rows sl22 leaves49 rfl y0 h0
  have cp0 := rows_cap sl22 h0
  obtain ⟨xs0, rfl, hx0⟩ := list_of geOf ls0 hi0
  obtain ⟨a1, rfl, rfl, rfl, w1⟩ := open_int Tryd.underlying5 (hval 1 5 v1 rfl rfl) h1
  have b1 : 0 ≤ a1 ∧ a1 ≤ 255 := wf_int w1
  have k2 := h2
  have lt2 : ∀ x ∈ p2, x.block < W.heap.size := by obtain ⟨m, hm⟩ := k2; exact DataW.trod_lt m _ _ _ hm
  obtain ⟨cs2, rfl, hi2⟩ := okWide_agg agg24 leaves24 rfl rfl h2
  obtain ⟨x2, rfl, hx2⟩ := vecOf _ hi2
  clear hA0 hval0 hsz0 hsz
  obtain ⟨t1, rfl⟩ := Int.eq_ofNat_of_zero_le b1.1
  refine (law_GridOrder W (rdF hL) _ _ _ xs0 R0 hx0 cp0 t1 (by omega) x2.1 x2.2 hx2.1 hx2.2).mono fun e W' ⟨v, he, hv, bel⟩ => ?_
  subst he
  subst hv
  exact ⟨_, rfl, _, _, _, [], _, [], hW', trodAll_mk1 (shut_bool Tryd.underlying4 _), (trodAll_cons_mk (Below.trod laidOut (by kernel_rfl) (of_decide_eq_true (by kernel_rfl)) k0 bel lt0) (trodAll_cons_mk (shut_int Tryd.underlying5 w1) (trodAll_cons_mk (Below.trod laidOut (by kernel_rfl) (of_decide_eq_true (by kernel_rfl)) k2 bel lt2) trodAll_mk0))), rfl, bel.frame _, fun h => by cases h⟩
theorem over : Rows.gridOrderRow.holds Tryd.pinned (OpenSpec.ofChange Rows.gridOrderSpec) :=
  OpenClaim.holds_of_wide 5 Tryd.f5 rfl rfl rfl rfl rfl rfl rfl ⟨rfl, rfl, rfl, rfl, rfl⟩ rfl rfl rfl rfl rfl (by kernel_rfl) Tryd.func5 (by kernel_rfl)
    (of_decide_eq_true (by kernel_rfl)) (by unfold Func.isWrapper; first | (rw [if_pos (by decide +kernel)]; kernel_rfl) | (rw [if_neg (by decide +kernel)]; exact ⟨rfl, rfl⟩))
    (fun os started H enc _ => lifted os started H enc)
end gridOrder
theorem gridOrder_holds : Rows.GridOrderSaid := gridOrder.over
#print axioms gridOrder_holds
theorem gridOrder_card : Rows.GridOrderCardSaid :=
  Claim7.holds_tied_plain_at .later [] [.data] true (true, "c18748f09deabc37e04f3531794e452193763da30ff121f71e5b9410b62debd6") false
    gridOrder_holds (fun _ h => by cases h) (by kernel_rfl) (fun _ h => by cases h) gridOrder_row_tie rfl ⟨rfl, rfl⟩ (by kernel_rfl) rfl
    (fun f fn hf hfn => by
      obtain rfl : f = 5 := Option.some.inj ((show Tryd.prog.funcNamed "billiard/billiardlaw10.GridOrder" = some 5 by kernel_rfl).symm.trans hf) |>.symm
      obtain rfl : fn = Tryd.f5 := (Option.some.inj (Tryd.func5.symm.trans hfn)).symm
      exact ⟨by kernel_rfl, fun j t ht => by
        rw [Tryd.params5] at ht
        have hm : t ∈ [22, 5, 24] := by simpa using Array.mem_of_getElem? ht
        have hall : ([22, 5, 24].all fun u => !Tryd.prog.wantsStandIn u) = true := by kernel_rfl
        exact (show Tryd.prog.wantsStandIn t = false by simpa using List.all_eq_true.1 hall t hm)⟩)
    (by kernel_rfl)
#print axioms gridOrder_card

end Go.Proofs.YtjbhobahebebkaaDoor
