/- Walks of Go functions over the frame of this claim: what each computes, for every input of the stated types (St). -/
import Derived.Test.YtaabkkdpjecknaaTy
import Derived.Test.YtaabkkdpjecknaaR6
import Derived.Test.YtaabkkdpjecknaaBd
set_option linter.unusedVariables false
set_option linter.unusedSimpArgs false
set_option linter.unnecessarySimpa false
namespace Go.Proofs.Ytaabkkdpjecknaa
open Go.Bil
open Go.RowKit (Below)
open Go.Proofs

set_option maxHeartbeats 4000000 in
theorem store_AddNil (w : World) (x : Body) :
    Calls Try.prog 14 #[.pointer none, (.agg (bodyCells x).toArray)] w (fun ex w' => ∃ v, ex = .returned v ∧ (fun v w' => v = .int .i64 1 ∧ Below w.heap.size w w') v w') := by
  refine calls_of_W #[.tmp 4] 62 Try.func14 rfl Try.results14 Try.ntmps14 rfl ?_
  have M0 := Mem.refl w
  refine W_seq ?_
  refine W_region ?_
  refine wl_box (.agg (List.toArray _)) M0 rfl rfl rfl (fun b1 w1 M1 => ?_)
  refine wl_q (r_assign (.int _ _) rfl) rfl rfl ?_
  refine wl_nil ?_
  refine thenN ?_
  refine W_seq ?_
  refine W_seq ?_
  refine W_region ?_
  refine wl_q (r_move (.pointer _) rfl) rfl rfl ?_
  refine wl_q (r_eqPtrNil true Try.underlying45 rfl rfl) rfl rfl ?_
  refine wl_nil ?_
  refine thenN ?_
  refine W_condT rfl ?_
  refine W_seq ?_
  refine W_region ?_
  refine wl_q (r_assign (.int _ _) rfl) rfl rfl ?_
  refine wl_nil ?_
  refine thenN ?_
  refine W_ret ?_
  refine thenR ?_
  skip
  refine fin1 (.int _ _) rfl ?_
  exact ⟨rfl, M1.below⟩

set_option maxHeartbeats 4000000 in
theorem store_LenNil (w : World) :
    Calls Try.prog 18 #[.pointer none] w (fun ex w' => ∃ v, ex = .returned v ∧ (fun v w' => v = .int .i64 0 ∧ Below w.heap.size w w') v w') := by
  refine calls_of_W #[.tmp 2] 10 Try.func18 rfl Try.results18 Try.ntmps18 rfl ?_
  have M0 := Mem.refl w
  refine W_seq ?_
  refine W_region ?_
  refine wl_q (r_assign (.int _ _) rfl) rfl rfl ?_
  refine wl_nil ?_
  refine thenN ?_
  refine W_seq ?_
  refine W_seq ?_
  refine W_region ?_
  refine wl_q (r_move (.pointer _) rfl) rfl rfl ?_
  refine wl_q (r_eqPtrNil true Try.underlying45 rfl rfl) rfl rfl ?_
  refine wl_nil ?_
  refine thenN ?_
  refine W_condT rfl ?_
  refine W_seq ?_
  refine W_region ?_
  refine wl_q (r_assign (.int _ _) rfl) rfl rfl ?_
  refine wl_nil ?_
  refine thenN ?_
  refine W_ret ?_
  refine thenR ?_
  skip
  refine fin1 (.int _ _) rfl ?_
  exact ⟨rfl, M0.below⟩

set_option maxHeartbeats 4000000 in
theorem store_Add (w : World) (b : Nat) (A : Option Addr) (n c : Nat) (p : Option Nat) (er em : Ent) (m : List Body) (hs : StoreIs 28 A n c p er em m) (hO : Own [(some b, bc [.slice A n c, .map p] 31), er, em] w) (x : Body) :
    Calls Try.prog 14 #[.pointer (some ⟨b, 0, none⟩), (.agg (bodyCells x).toArray)] w (fun ex w' => ∃ v, ex = .returned v ∧ (fun v w' => v = .int .i64 (addM m x).2 ∧ ∃ A' n' c' p' er' em', StoreIs 28 A' n' c' p' er' em' (addM m x).1 ∧ Mem w (blks [(some b, bc [.slice A n c, .map p] 31), er, em]) [(some b, bc [.slice A' n' c', .map p'] 31), er', em'] w') v w') := by
  have hlen : m.length = n := by simpa using hs.row.1
  have hcap := hs.cap
  refine calls_of_W #[.tmp 4] 62 Try.func14 rfl Try.results14 Try.ntmps14 rfl ?_
  have M0 := hO.mem
  refine W_seq ?_
  refine W_region ?_
  refine wl_box (.agg (List.toArray _)) M0 rfl rfl rfl (fun b1 w1 M1 => ?_)
  refine wl_q (r_assign (.int _ _) rfl) rfl rfl ?_
  refine wl_nil ?_
  refine thenN ?_
  refine W_seq ?_
  refine W_seq ?_
  refine W_region ?_
  refine wl_q (r_move (.pointer _) rfl) rfl rfl ?_
  refine wl_q (r_eqPtrNil false Try.underlying45 rfl rfl) rfl rfl ?_
  refine wl_nil ?_
  refine thenN ?_
  refine W_condF rfl ?_
  refine W_skip ?_
  refine thenN ?_
  refine W_seq ?_
  refine W_seq ?_
  refine W_region ?_
  refine wl_q (r_ldW 3 agg28 M1 rfl rfl rfl) rfl rfl ?_
  refine wl_cal cal41 rfl rfl rfl ?_
  refine (body_Check _ x).mono ?_
  rintro _ w2 ⟨v2, rfl, ⟨rfl, hb2⟩⟩
  refine ⟨_, rfl, ?_⟩
  have M2 := M1.callB hb2
  refine wl_q (r_assign (.int _ _) rfl) rfl rfl ?_
  refine wl_nil ?_
  refine thenN ?_
  refine W_seq ?_
  refine W_region ?_
  refine wl_q (r_move (.int _ _) rfl) rfl rfl ?_
  refine wl_q (r_bin (.bool (decide _)) rfl rfl rfl) rfl rfl ?_
  refine wl_nil ?_
  refine thenN ?_
  refine W_condD rfl (fun h13 => ?_) (fun h13 => ?_)
  · skip
    refine W_seq ?_
    refine W_region ?_
    refine wl_q (r_move (.int _ _) rfl) rfl rfl ?_
    refine wl_q (r_assign (.int _ _) rfl) rfl rfl ?_
    refine wl_nil ?_
    refine thenN ?_
    refine W_ret ?_
    refine thenR ?_
    skip
    refine fin1 (.int _ _) rfl ?_
    have ha : addM m x = (m, check x) := by unfold addM; rw [if_pos h13]
    exact ⟨by rw [ha], A, n, c, p, er, em, by rw [ha]; exact hs, M2.keep [true, true, true, false]⟩
  · skip
    refine W_skip ?_
    refine thenN ?_
    refine W_seq ?_
    refine W_seq ?_
    refine W_draw [(0, 0), (1, 0), (2, 0), (3, 1), (4, 0), (5, 1), (6, 1), (7, 0), (8, 0), (9, 0), (10, 0), (11, 0)] mixed rfl (by kernel_rfl) (fun w3 hb3 hh3 => ?_)
    have M3 := M2.drew hb3 hh3
    refine D_p rfl rfl rfl (fun _ => r_move (.pointer _) rfl) ?_
    refine D_p rfl rfl rfl (fun _ => r_nilCheck rfl) ?_
    refine D_p rfl rfl rfl (fun _ => r_fieldAddr 1 fld31_1 rfl) ?_
    refine D_r rfl rfl rfl (r_ld 0 (.map _) one29 M3 rfl rfl rfl) ?_
    refine D_p rfl rfl rfl (fun _ => r_fieldAddr 0 fld28_0 rfl) ?_
    refine D_r rfl rfl rfl (r_ld 3 (.int _ _) one24 M3 rfl rfl rfl) ?_
    refine D_r rfl rfl rfl (r_lookup (enc := (Value.int .i64)) 0 2 map29 zv3 M3 rfl hs.map rfl rfl) ?_
    refine D_p rfl rfl rfl (fun _ => r_move (.tuple (List.toArray _)) rfl) ?_
    refine D_p rfl rfl rfl (fun _ => r_ext (.int _ _) rfl rfl) ?_
    refine D_p rfl rfl rfl (fun _ => r_ext (.bool _) rfl rfl) ?_
    refine D_p rfl rfl rfl (fun _ => r_assign (.int _ _) rfl) ?_
    refine D_p rfl rfl rfl (fun _ => r_assign (.bool _) rfl) ?_
    refine D_nil ?_
    refine thenN ?_
    refine W_seq ?_
    refine W_region ?_
    refine wl_q (r_move (.bool _) rfl) rfl rfl ?_
    refine wl_nil ?_
    refine thenN ?_
    refine W_cond _ rfl (fun h25 => ?_) (fun h25 => ?_)
    · skip
      have hf : 0 ≤ findI x.key m := by rw [isSome_idx] at h25; exact of_decide_eq_true h25
      refine W_seq ?_
      refine W_region ?_
      refine wl_q (r_assign (.int _ _) rfl) rfl rfl ?_
      refine wl_nil ?_
      refine thenN ?_
      refine W_ret ?_
      refine thenR ?_
      skip
      refine fin1 (.int _ _) rfl ?_
      have ha : addM m x = (m, 10) := by unfold addM; rw [if_neg h13, if_pos hf]
      exact ⟨by rw [ha], A, n, c, p, er, em, by rw [ha]; exact hs, M3.keep [true, true, true, false]⟩
    · skip
      have hf : ¬ (0 ≤ findI x.key m) := fun h => by rw [isSome_idx, decide_eq_true h] at h25; simp at h25
      refine W_skip ?_
      refine thenN ?_
      refine W_seq ?_
      refine W_seq ?_
      refine W_region ?_
      refine wl_q (r_move (.pointer _) rfl) rfl rfl ?_
      refine wl_q (r_nilCheck rfl) rfl rfl ?_
      refine wl_q (r_fieldAddr 0 fld31_0 rfl) rfl rfl ?_
      refine wl_q (r_ld 0 (.slice _ _ _) one22 M3 rfl rfl rfl) rfl rfl ?_
      refine wl_q (r_lenS Try.underlying22 rfl) rfl rfl ?_
      refine wl_q (r_bin (.bool (decide _)) rfl rfl rfl) rfl rfl ?_
      refine wl_nil ?_
      refine thenN ?_
      refine W_condD rfl (fun h31 => ?_) (fun h31 => ?_)
      · skip
        refine W_seq ?_
        refine W_region ?_
        refine wl_q (r_assign (.int _ _) rfl) rfl rfl ?_
        refine wl_nil ?_
        refine thenN ?_
        refine W_ret ?_
        refine thenR ?_
        skip
        refine fin1 (.int _ _) rfl ?_
        have ha : addM m x = (m, 12) := by unfold addM; rw [if_neg h13, if_neg hf, if_pos (by omega)]
        exact ⟨by rw [ha], A, n, c, p, er, em, by rw [ha]; exact hs, M3.keep [true, true, true, false]⟩
      · skip
        refine W_skip ?_
        refine thenN ?_
        refine W_seq ?_
        refine W_seq ?_
        refine W_region ?_
        refine wl_q (r_move (.pointer _) rfl) rfl rfl ?_
        refine wl_q (r_nilCheck rfl) rfl rfl ?_
        refine wl_q (r_fieldAddr 1 fld31_1 rfl) rfl rfl ?_
        refine wl_q (r_ld 0 (.map _) one29 M3 rfl rfl rfl) rfl rfl ?_
        refine wl_q (r_eqMapNil _ Try.underlying29 rfl rfl) rfl rfl ?_
        refine wl_nil ?_
        refine thenN ?_
        refine W_cond _ rfl (fun h36 => ?_) (fun h36 => ?_)
        · skip
          have hpn : p = none := by cases p <;> simp_all
          have hnone : ∀ k, idx m k = (fun _ => none) k := fun k => by subst hpn; rcases hs.map with ⟨_, _, h⟩ | ⟨_, _, h, _⟩; exact h k; cases h
          refine W_region ?_
          refine wl_q (r_move (.pointer _) rfl) rfl rfl ?_
          refine wl_makeMap M3 rfl rfl (fun b4 w4 M4 => ?_)
          have M5 := M4.replace (i := 2) (Nat.le_of_ble_eq_true rfl)
          refine wl_q (r_nilCheck rfl) rfl rfl ?_
          refine wl_q (r_fieldAddr 1 fld31_1 rfl) rfl rfl ?_
          refine wl_st 0 (.map _) one29 M5 rfl rfl rfl rfl rfl rfl (fun w6 M6 => ?_)
          refine wl_nil ?_
          refine thenN ?_
          refine W_seq ?_
          refine W_draw [(0, 0), (1, 0), (2, 0), (3, 1), (4, 0), (5, 1), (6, 0), (7, 0), (8, 0), (9, 1), (10, 0), (11, 2)] mixed rfl (by kernel_rfl) (fun w7 hb7 hh7 => ?_)
          have M7 := M6.drew hb7 hh7
          refine D_p rfl rfl rfl (fun _ => r_move (.pointer _) rfl) ?_
          refine D_p rfl rfl rfl (fun _ => r_nilCheck rfl) ?_
          refine D_p rfl rfl rfl (fun _ => r_fieldAddr 1 fld31_1 rfl) ?_
          refine D_r rfl rfl rfl (r_ld 0 (.map _) one29 M7 rfl rfl rfl) ?_
          refine D_p rfl rfl rfl (fun _ => r_fieldAddr 0 fld28_0 rfl) ?_
          refine D_r rfl rfl rfl (r_ld 3 (.int _ _) one24 M7 rfl rfl rfl) ?_
          refine D_p rfl rfl rfl (fun _ => r_move (.pointer _) rfl) ?_
          refine D_p rfl rfl rfl (fun _ => r_nilCheck rfl) ?_
          refine D_p rfl rfl rfl (fun _ => r_fieldAddr 0 fld31_0 rfl) ?_
          refine D_r rfl rfl rfl (r_ld 0 (.slice _ _ _) one22 M7 rfl rfl rfl) ?_
          refine D_p rfl rfl rfl (fun _ => r_lenS Try.underlying22 rfl) ?_
          refine D_e [true, true, true] rfl (by kernel_rfl) ?_
          refine wl_mapUpdate (enc := (Value.int .i64)) 2 map29 M7 rfl rfl ((MapE.empty _ _ b4).congr hnone) rfl rfl rfl rfl (fun e8 w8 hm8 M8 => ?_)
          refine wl_nil (thenN ⟨alN, ?_⟩)
          refine D_nil ?_
          refine thenN ?_
          refine W_seq ?_
          refine W_draw [(0, 0), (1, 0), (2, 0), (3, 0), (4, 1), (5, 1), (6, 2), (7, 2), (8, 0), (9, 0), (10, 2)] mixed rfl (by kernel_rfl) (fun w9 hb9 hh9 => ?_)
          have M9 := M8.drew hb9 hh9
          refine D_p rfl rfl rfl (fun _ => r_move (.pointer _) rfl) ?_
          refine D_p rfl rfl rfl (fun _ => r_move (.pointer _) rfl) ?_
          refine D_p rfl rfl rfl (fun _ => r_nilCheck rfl) ?_
          refine D_p rfl rfl rfl (fun _ => r_fieldAddr 0 fld31_0 rfl) ?_
          refine D_r rfl rfl rfl (r_ld 0 (.slice _ _ _) one22 M9 rfl rfl rfl) ?_
          refine D_r rfl rfl rfl (r_ldW 3 agg28 M9 rfl rfl rfl) ?_
          refine D_e [true, false] rfl (by kernel_rfl) ?_
          refine wl_bslice [.agg (List.toArray _)] _ rfl sl22 M9 rfl rfl rfl rfl (lens_of rfl) (by decide) (fun b10 w10 M10 => ?_)
          refine wl_nil (thenN ⟨(alC (Yl_of rfl (r_ld 0 (.slice _ _ _) one22 M10 rfl rfl rfl)) alN), ?_⟩)
          refine D_e [true] rfl (by kernel_rfl) ?_
          refine wl_append 1 [bodyCells x] sl22 M10 rfl rfl rfl rfl rfl hs.row rfl (by simpa using ⟨bodyCells_len x, bodyCells_one x⟩) (Cells.ofMem 4 M10 rfl) (by omega) (fun A11 c11 e11 w11 M11 hR11 => ?_)
          refine wl_nil (thenN ⟨alN, ?_⟩)
          refine D_p rfl rfl rfl (fun _ => r_nilCheck rfl) ?_
          refine D_p rfl rfl rfl (fun _ => r_fieldAddr 0 fld31_0 rfl) ?_
          refine D_e [] rfl (by kernel_rfl) ?_
          refine wl_st 0 (.slice _ _ _) one22 M11 rfl rfl rfl rfl rfl rfl (fun w12 M12 => ?_)
          refine wl_nil (thenN ⟨alN, ?_⟩)
          refine D_nil ?_
          refine thenN ?_
          refine W_seq ?_
          refine W_region ?_
          refine wl_q (r_assign (.int _ _) rfl) rfl rfl ?_
          refine wl_nil ?_
          refine thenN ?_
          refine W_ret ?_
          skip
          refine fin1 (.int _ _) rfl ?_
          have ha : addM m x = (m ++ [x], 0) := by unfold addM; rw [if_neg h13, if_neg hf, if_neg (by omega)]
          have hall := addM_ok (x := x) ⟨hs.keys, hs.cap, hs.ok⟩
          rw [ha] at hall
          obtain ⟨hk', hc', ho'⟩ := hall
          have hix := idx_snoc hs.keys (x := x) (by omega)
          rw [hlen] at hix
          exact ⟨by rw [ha], _, _, _, _, _, _, by rw [ha]; exact ⟨(by simpa using hR11), (hm8.congr hix), hk', hc', ho'⟩, M12.keep [true, true, true, false, false]⟩
        · skip
          have hps : p.isSome = true := by cases p <;> simp_all
          refine W_skip ?_
          refine thenN ?_
          refine W_seq ?_
          refine W_draw [(0, 0), (1, 0), (2, 0), (3, 1), (4, 0), (5, 1), (6, 0), (7, 0), (8, 0), (9, 1), (10, 0), (11, 2)] mixed rfl (by kernel_rfl) (fun w13 hb13 hh13 => ?_)
          have M13 := M3.drew hb13 hh13
          refine D_p rfl rfl rfl (fun _ => r_move (.pointer _) rfl) ?_
          refine D_p rfl rfl rfl (fun _ => r_nilCheck rfl) ?_
          refine D_p rfl rfl rfl (fun _ => r_fieldAddr 1 fld31_1 rfl) ?_
          refine D_r rfl rfl rfl (r_ld 0 (.map _) one29 M13 rfl rfl rfl) ?_
          refine D_p rfl rfl rfl (fun _ => r_fieldAddr 0 fld28_0 rfl) ?_
          refine D_r rfl rfl rfl (r_ld 3 (.int _ _) one24 M13 rfl rfl rfl) ?_
          refine D_p rfl rfl rfl (fun _ => r_move (.pointer _) rfl) ?_
          refine D_p rfl rfl rfl (fun _ => r_nilCheck rfl) ?_
          refine D_p rfl rfl rfl (fun _ => r_fieldAddr 0 fld31_0 rfl) ?_
          refine D_r rfl rfl rfl (r_ld 0 (.slice _ _ _) one22 M13 rfl rfl rfl) ?_
          refine D_p rfl rfl rfl (fun _ => r_lenS Try.underlying22 rfl) ?_
          refine D_e [true, true, true] rfl (by kernel_rfl) ?_
          refine wl_mapUpdate (enc := (Value.int .i64)) 2 map29 M13 rfl rfl hs.map hps rfl rfl rfl (fun e14 w14 hm14 M14 => ?_)
          refine wl_nil (thenN ⟨alN, ?_⟩)
          refine D_nil ?_
          refine thenN ?_
          refine W_seq ?_
          refine W_draw [(0, 0), (1, 0), (2, 0), (3, 0), (4, 1), (5, 1), (6, 2), (7, 2), (8, 0), (9, 0), (10, 2)] mixed rfl (by kernel_rfl) (fun w15 hb15 hh15 => ?_)
          have M15 := M14.drew hb15 hh15
          refine D_p rfl rfl rfl (fun _ => r_move (.pointer _) rfl) ?_
          refine D_p rfl rfl rfl (fun _ => r_move (.pointer _) rfl) ?_
          refine D_p rfl rfl rfl (fun _ => r_nilCheck rfl) ?_
          refine D_p rfl rfl rfl (fun _ => r_fieldAddr 0 fld31_0 rfl) ?_
          refine D_r rfl rfl rfl (r_ld 0 (.slice _ _ _) one22 M15 rfl rfl rfl) ?_
          refine D_r rfl rfl rfl (r_ldW 3 agg28 M15 rfl rfl rfl) ?_
          refine D_e [true, false] rfl (by kernel_rfl) ?_
          refine wl_bslice [.agg (List.toArray _)] _ rfl sl22 M15 rfl rfl rfl rfl (lens_of rfl) (by decide) (fun b16 w16 M16 => ?_)
          refine wl_nil (thenN ⟨(alC (Yl_of rfl (r_ld 0 (.slice _ _ _) one22 M16 rfl rfl rfl)) alN), ?_⟩)
          refine D_e [true] rfl (by kernel_rfl) ?_
          refine wl_append 1 [bodyCells x] sl22 M16 rfl rfl rfl rfl rfl hs.row rfl (by simpa using ⟨bodyCells_len x, bodyCells_one x⟩) (Cells.ofMem 4 M16 rfl) (by omega) (fun A17 c17 e17 w17 M17 hR17 => ?_)
          refine wl_nil (thenN ⟨alN, ?_⟩)
          refine D_p rfl rfl rfl (fun _ => r_nilCheck rfl) ?_
          refine D_p rfl rfl rfl (fun _ => r_fieldAddr 0 fld31_0 rfl) ?_
          refine D_e [] rfl (by kernel_rfl) ?_
          refine wl_st 0 (.slice _ _ _) one22 M17 rfl rfl rfl rfl rfl rfl (fun w18 M18 => ?_)
          refine wl_nil (thenN ⟨alN, ?_⟩)
          refine D_nil ?_
          refine thenN ?_
          refine W_seq ?_
          refine W_region ?_
          refine wl_q (r_assign (.int _ _) rfl) rfl rfl ?_
          refine wl_nil ?_
          refine thenN ?_
          refine W_ret ?_
          skip
          refine fin1 (.int _ _) rfl ?_
          have ha : addM m x = (m ++ [x], 0) := by unfold addM; rw [if_neg h13, if_neg hf, if_neg (by omega)]
          have hall := addM_ok (x := x) ⟨hs.keys, hs.cap, hs.ok⟩
          rw [ha] at hall
          obtain ⟨hk', hc', ho'⟩ := hall
          have hix := idx_snoc hs.keys (x := x) (by omega)
          rw [hlen] at hix
          exact ⟨by rw [ha], _, _, _, _, _, _, by rw [ha]; exact ⟨(by simpa using hR17), (hm14.congr hix), hk', hc', ho'⟩, M18.keep [true, true, true, false, false]⟩

set_option maxHeartbeats 4000000 in
theorem store_Len (w : World) (b : Nat) (A : Option Addr) (n c : Nat) (p : Option Nat) (er em : Ent) (m : List Body) (hs : StoreIs 28 A n c p er em m) (hO : Own [(some b, bc [.slice A n c, .map p] 31), er, em] w) :
    Calls Try.prog 18 #[.pointer (some ⟨b, 0, none⟩)] w (fun ex w' => ∃ v, ex = .returned v ∧ (fun v w' => v = .int .i64 (m.length : Int) ∧ Mem w (blks [(some b, bc [.slice A n c, .map p] 31), er, em]) [(some b, bc [.slice A n c, .map p] 31), er, em] w') v w') := by
  have hlen : m.length = n := by simpa using hs.row.1
  have hcap := hs.cap
  refine calls_of_W #[.tmp 2] 10 Try.func18 rfl Try.results18 Try.ntmps18 rfl ?_
  have M0 := hO.mem
  refine W_seq ?_
  refine W_region ?_
  refine wl_q (r_assign (.int _ _) rfl) rfl rfl ?_
  refine wl_nil ?_
  refine thenN ?_
  refine W_seq ?_
  refine W_seq ?_
  refine W_region ?_
  refine wl_q (r_move (.pointer _) rfl) rfl rfl ?_
  refine wl_q (r_eqPtrNil false Try.underlying45 rfl rfl) rfl rfl ?_
  refine wl_nil ?_
  refine thenN ?_
  refine W_condF rfl ?_
  refine W_skip ?_
  refine thenN ?_
  refine W_seq ?_
  refine W_region ?_
  refine wl_q (r_move (.pointer _) rfl) rfl rfl ?_
  refine wl_q (r_nilCheck rfl) rfl rfl ?_
  refine wl_q (r_fieldAddr 0 fld31_0 rfl) rfl rfl ?_
  refine wl_q (r_ld 0 (.slice _ _ _) one22 M0 rfl rfl rfl) rfl rfl ?_
  refine wl_q (r_lenS Try.underlying22 rfl) rfl rfl ?_
  refine wl_q (r_assign (.int _ _) rfl) rfl rfl ?_
  refine wl_nil ?_
  refine thenN ?_
  refine W_ret ?_
  skip
  refine fin1 (.int _ _) rfl ?_
  exact ⟨iE (by omega), M0⟩

set_option maxHeartbeats 4000000 in
theorem store_Get (w : World) (b : Nat) (A : Option Addr) (n c : Nat) (p : Option Nat) (er em : Ent) (m : List Body) (hs : StoreIs 28 A n c p er em m) (hO : Own [(some b, bc [.slice A n c, .map p] 31), er, em] w) (key : Int) :
    Calls Try.prog 28 #[.pointer (some ⟨b, 0, none⟩), .int .u32 key] w (fun ex w' => ∃ v, ex = .returned v ∧ (fun v w' => (∃ x, v = .tuple #[.agg (bodyCells x).toArray, .int .i64 (getM m key).2] ∧ x = (getM m key).1) ∧ Mem w (blks [(some b, bc [.slice A n c, .map p] 31), er, em]) [(some b, bc [.slice A n c, .map p] 31), er, em] w') v w') := by
  have hlen : m.length = n := by simpa using hs.row.1
  have hcap := hs.cap
  refine calls_of_W #[.cell 4 28, .tmp 5] 30 Try.func28 rfl Try.results28 Try.ntmps28 rfl ?_
  have M0 := hO.mem
  refine W_seq ?_
  refine W_region ?_
  refine wl_alloc zero28 M0 rfl rfl (fun b1 w1 M1 => ?_)
  refine wl_q (r_assign (.int _ _) rfl) rfl rfl ?_
  refine wl_nil ?_
  refine thenN ?_
  refine W_seq ?_
  refine W_seq ?_
  refine W_region ?_
  refine wl_q (r_move (.pointer _) rfl) rfl rfl ?_
  refine wl_q (r_eqPtrNil false Try.underlying45 rfl rfl) rfl rfl ?_
  refine wl_nil ?_
  refine thenN ?_
  refine W_condF rfl ?_
  refine W_skip ?_
  refine thenN ?_
  refine W_seq ?_
  refine W_region ?_
  refine wl_q (r_move (.pointer _) rfl) rfl rfl ?_
  refine wl_q (r_nilCheck rfl) rfl rfl ?_
  refine wl_q (r_fieldAddr 1 fld31_1 rfl) rfl rfl ?_
  refine wl_q (r_ld 0 (.map _) one29 M1 rfl rfl rfl) rfl rfl ?_
  refine wl_q (r_move (.int _ _) rfl) rfl rfl ?_
  refine wl_q (r_lookup (enc := (Value.int .i64)) 0 2 map29 zv3 M1 rfl hs.map rfl rfl) rfl rfl ?_
  refine wl_q (r_move (.tuple (List.toArray _)) rfl) rfl rfl ?_
  refine wl_q (r_ext (.int _ _) rfl rfl) rfl rfl ?_
  refine wl_q (r_ext (.bool _) rfl rfl) rfl rfl ?_
  refine wl_q (r_assign (.int _ _) rfl) rfl rfl ?_
  refine wl_q (r_assign (.bool _) rfl) rfl rfl ?_
  refine wl_nil ?_
  refine thenN ?_
  refine W_seq ?_
  refine W_seq ?_
  refine W_region ?_
  refine wl_q (r_move (.bool _) rfl) rfl rfl ?_
  refine wl_q (r_notB _ rfl rfl) rfl rfl ?_
  refine wl_nil ?_
  refine thenN ?_
  refine W_cond _ rfl (fun h21 => ?_) (fun h21 => ?_)
  · skip
    have hi : idx m key = none := by cases h : idx m key <;> simp_all
    refine W_seq ?_
    refine W_region ?_
    refine wl_q (r_build [] _ struct28 rfl rfl) rfl rfl ?_
    refine wl_stW 3 _ agg28 M1 rfl rfl rfl rfl rfl (ones_of rfl) rfl (fun w2 M2 => ?_)
    refine wl_q (r_assign (.int _ _) rfl) rfl rfl ?_
    refine wl_nil ?_
    refine thenN ?_
    refine W_ret ?_
    refine thenR ?_
    skip
    refine finC2 (v2 := .int _ _) 3 agg28 M2 rfl rfl rfl rfl ?_
    exact ⟨⟨⟨0, 0, 0, 0, 0, 0, 0, 0, 0, 0⟩, by rw [getM_none hi]; rfl, by rw [getM_none hi]⟩, M2.keep [true, true, true, false]⟩
  · skip
    rcases idx_cases key m with ⟨hi, _⟩ | ⟨i, bi, hbi, hbk, hi⟩
    · simp [hi] at h21
    refine W_skip ?_
    refine thenN ?_
    refine W_seq ?_
    refine W_region ?_
    refine wl_q (r_move (.pointer _) rfl) rfl rfl ?_
    refine wl_q (r_nilCheck rfl) rfl rfl ?_
    refine wl_q (r_fieldAddr 0 fld31_0 rfl) rfl rfl ?_
    refine wl_q (r_ld 0 (.slice _ _ _) one22 M1 rfl rfl rfl) rfl rfl ?_
    refine wl_q (r_move (.int _ _) rfl) rfl rfl ?_
    refine wl_q (r_idxR (i) sl22 rfl rfl (by rw [hi]; rfl) ((hs.row.rd M1 (nthMem (i := 1) rfl)).below_len (mapGet bodyCells hbi)) ((hs.row.rd M1 (nthMem (i := 1) rfl)).someK (mapGet bodyCells hbi))) rfl rfl ?_
    refine wl_q (r_ldEA _ agg28 (hs.row.rd M1 (nthMem (i := 1) rfl)) (mapGet bodyCells hbi) rfl) rfl rfl ?_
    refine wl_stW 3 _ agg28 M1 rfl rfl rfl rfl rfl (ones_of rfl) rfl (fun w3 M3 => ?_)
    refine wl_q (r_assign (.int _ _) rfl) rfl rfl ?_
    refine wl_nil ?_
    refine thenN ?_
    refine W_ret ?_
    skip
    refine finC2 (v2 := .int _ _) 3 agg28 M3 rfl rfl rfl rfl ?_
    exact ⟨⟨bi, by rw [getM_some hi hbi], by rw [getM_some hi hbi]⟩, M3.keep [true, true, true, false]⟩

set_option maxHeartbeats 4000000 in
theorem store_Set (w : World) (b : Nat) (A : Option Addr) (n c : Nat) (p : Option Nat) (er em : Ent) (m : List Body) (hs : StoreIs 28 A n c p er em m) (hO : Own [(some b, bc [.slice A n c, .map p] 31), er, em] w) (x : Body) :
    Calls Try.prog 26 #[.pointer (some ⟨b, 0, none⟩), (.agg (bodyCells x).toArray)] w (fun ex w' => ∃ v, ex = .returned v ∧ (fun v w' => v = .int .i64 (setM m x).2 ∧ ∃ A' n' c' p' er' em', StoreIs 28 A' n' c' p' er' em' (setM m x).1 ∧ Mem w (blks [(some b, bc [.slice A n c, .map p] 31), er, em]) [(some b, bc [.slice A' n' c', .map p'] 31), er', em'] w') v w') := by
  have hlen : m.length = n := by simpa using hs.row.1
  have hcap := hs.cap
  refine calls_of_W #[.tmp 4] 34 Try.func26 rfl Try.results26 Try.ntmps26 rfl ?_
  have M0 := hO.mem
  refine W_seq ?_
  refine W_region ?_
  refine wl_box (.agg (List.toArray _)) M0 rfl rfl rfl (fun b1 w1 M1 => ?_)
  refine wl_q (r_assign (.int _ _) rfl) rfl rfl ?_
  refine wl_nil ?_
  refine thenN ?_
  refine W_seq ?_
  refine W_seq ?_
  refine W_region ?_
  refine wl_q (r_move (.pointer _) rfl) rfl rfl ?_
  refine wl_q (r_eqPtrNil false Try.underlying45 rfl rfl) rfl rfl ?_
  refine wl_nil ?_
  refine thenN ?_
  refine W_condF rfl ?_
  refine W_skip ?_
  refine thenN ?_
  refine W_seq ?_
  refine W_seq ?_
  refine W_region ?_
  refine wl_q (r_ldW 3 agg28 M1 rfl rfl rfl) rfl rfl ?_
  refine wl_cal cal41 rfl rfl rfl ?_
  refine (body_Check _ x).mono ?_
  rintro _ w2 ⟨v2, rfl, ⟨rfl, hb2⟩⟩
  refine ⟨_, rfl, ?_⟩
  have M2 := M1.callB hb2
  refine wl_q (r_assign (.int _ _) rfl) rfl rfl ?_
  refine wl_nil ?_
  refine thenN ?_
  refine W_seq ?_
  refine W_region ?_
  refine wl_q (r_move (.int _ _) rfl) rfl rfl ?_
  refine wl_q (r_bin (.bool (decide _)) rfl rfl rfl) rfl rfl ?_
  refine wl_nil ?_
  refine thenN ?_
  refine W_condD rfl (fun h13 => ?_) (fun h13 => ?_)
  · skip
    refine W_seq ?_
    refine W_region ?_
    refine wl_q (r_move (.int _ _) rfl) rfl rfl ?_
    refine wl_q (r_assign (.int _ _) rfl) rfl rfl ?_
    refine wl_nil ?_
    refine thenN ?_
    refine W_ret ?_
    refine thenR ?_
    skip
    refine fin1 (.int _ _) rfl ?_
    have ha : setM m x = (m, check x) := by unfold setM; rw [if_pos h13]
    exact ⟨by rw [ha], A, n, c, p, er, em, by rw [ha]; exact hs, M2.keep [true, true, true, false]⟩
  · skip
    refine W_skip ?_
    refine thenN ?_
    refine W_seq ?_
    refine W_draw [(0, 0), (1, 0), (2, 0), (3, 1), (4, 0), (5, 1), (6, 1), (7, 0), (8, 0), (9, 0), (10, 0), (11, 0)] mixed rfl (by kernel_rfl) (fun w3 hb3 hh3 => ?_)
    have M3 := M2.drew hb3 hh3
    refine D_p rfl rfl rfl (fun _ => r_move (.pointer _) rfl) ?_
    refine D_p rfl rfl rfl (fun _ => r_nilCheck rfl) ?_
    refine D_p rfl rfl rfl (fun _ => r_fieldAddr 1 fld31_1 rfl) ?_
    refine D_r rfl rfl rfl (r_ld 0 (.map _) one29 M3 rfl rfl rfl) ?_
    refine D_p rfl rfl rfl (fun _ => r_fieldAddr 0 fld28_0 rfl) ?_
    refine D_r rfl rfl rfl (r_ld 3 (.int _ _) one24 M3 rfl rfl rfl) ?_
    refine D_r rfl rfl rfl (r_lookup (enc := (Value.int .i64)) 0 2 map29 zv3 M3 rfl hs.map rfl rfl) ?_
    refine D_p rfl rfl rfl (fun _ => r_move (.tuple (List.toArray _)) rfl) ?_
    refine D_p rfl rfl rfl (fun _ => r_ext (.int _ _) rfl rfl) ?_
    refine D_p rfl rfl rfl (fun _ => r_ext (.bool _) rfl rfl) ?_
    refine D_p rfl rfl rfl (fun _ => r_assign (.int _ _) rfl) ?_
    refine D_p rfl rfl rfl (fun _ => r_assign (.bool _) rfl) ?_
    refine D_nil ?_
    refine thenN ?_
    refine W_seq ?_
    refine W_seq ?_
    refine W_region ?_
    refine wl_q (r_move (.bool _) rfl) rfl rfl ?_
    refine wl_q (r_notB _ rfl rfl) rfl rfl ?_
    refine wl_nil ?_
    refine thenN ?_
    refine W_cond _ rfl (fun h26 => ?_) (fun h26 => ?_)
    · skip
      have hi : idx m x.key = none := by cases h : idx m x.key <;> simp_all
      refine W_seq ?_
      refine W_region ?_
      refine wl_q (r_assign (.int _ _) rfl) rfl rfl ?_
      refine wl_nil ?_
      refine thenN ?_
      refine W_ret ?_
      refine thenR ?_
      skip
      refine fin1 (.int _ _) rfl ?_
      have ha : setM m x = (m, 11) := by unfold setM; rw [if_neg h13, if_pos (by rw [findI_of_idx, hi]; decide)]
      exact ⟨by rw [ha], A, n, c, p, er, em, by rw [ha]; exact hs, M3.keep [true, true, true, false]⟩
    · skip
      rcases idx_cases x.key m with ⟨hi, _⟩ | ⟨i, bi, hbi, hbk, hi⟩
      · simp [hi] at h26
      refine W_skip ?_
      refine thenN ?_
      refine W_seq ?_
      refine W_draw [(0, 0), (1, 0), (2, 0), (3, 1), (4, 0), (5, 1), (6, 1), (7, 2)] mixed rfl (by kernel_rfl) (fun w4 hb4 hh4 => ?_)
      have M4 := M3.drew hb4 hh4
      refine D_p rfl rfl rfl (fun _ => r_move (.pointer _) rfl) ?_
      refine D_p rfl rfl rfl (fun _ => r_nilCheck rfl) ?_
      refine D_p rfl rfl rfl (fun _ => r_fieldAddr 0 fld31_0 rfl) ?_
      refine D_r rfl rfl rfl (r_ld 0 (.slice _ _ _) one22 M4 rfl rfl rfl) ?_
      refine D_p rfl rfl rfl (fun _ => r_move (.int _ _) rfl) ?_
      refine D_r rfl rfl rfl (r_ldW 3 agg28 M4 rfl rfl rfl) ?_
      refine D_r rfl rfl rfl (r_idxR (i) sl22 rfl rfl (by rw [hi]; rfl) ((hs.row.rd M4 (nthMem (i := 1) rfl)).below_len (mapGet bodyCells hbi)) ((hs.row.rd M4 (nthMem (i := 1) rfl)).someK (mapGet bodyCells hbi))) ?_
      refine D_e [true, true, true] rfl (by kernel_rfl) ?_
      refine wl_stRW 1 _ agg28 M4 rfl hs.row (mapGet bodyCells hbi) rfl rfl rfl rfl (ones_of rfl) (fun e5 w5 hR5 M5 => ?_)
      have hQ5 := hR5.mapSet (f := bodyCells) (x := x) rfl
      refine wl_nil (thenN ⟨alN, ?_⟩)
      refine D_nil ?_
      refine thenN ?_
      refine W_seq ?_
      refine W_region ?_
      refine wl_q (r_assign (.int _ _) rfl) rfl rfl ?_
      refine wl_nil ?_
      refine thenN ?_
      refine W_ret ?_
      skip
      refine fin1 (.int _ _) rfl ?_
      have ha : setM m x = (m.set i x, 0) := by unfold setM; rw [if_neg h13, findI_of_idx, hi]; simp only []; rw [if_neg (by omega), Int.toNat_natCast]
      exact ⟨by rw [ha], _, _, _, _, _, _, by rw [ha]; exact hs.put hbi hbk.symm (by omega) hQ5, M5.keep [true, true, true, false]⟩

set_option maxHeartbeats 4000000 in
theorem store_Remove (w : World) (b : Nat) (A : Option Addr) (n c : Nat) (p : Option Nat) (er em : Ent) (m : List Body) (hs : StoreIs 28 A n c p er em m) (hO : Own [(some b, bc [.slice A n c, .map p] 31), er, em] w) (key : Int) :
    Calls Try.prog 19 #[.pointer (some ⟨b, 0, none⟩), .int .u32 key] w (fun ex w' => ∃ v, ex = .returned v ∧ (fun v w' => v = .int .i64 (removeM m key).2 ∧ ∃ A' n' c' p' er' em', StoreIs 28 A' n' c' p' er' em' (removeM m key).1 ∧ Mem w (blks [(some b, bc [.slice A n c, .map p] 31), er, em]) [(some b, bc [.slice A' n' c', .map p'] 31), er', em'] w') v w') := by
  have hlen : m.length = n := by simpa using hs.row.1
  have hcap := hs.cap
  refine calls_of_W #[.tmp 4] 67 Try.func19 rfl Try.results19 Try.ntmps19 rfl ?_
  have M0 := hO.mem
  refine W_seq ?_
  refine W_region ?_
  refine wl_q (r_assign (.int _ _) rfl) rfl rfl ?_
  refine wl_nil ?_
  refine thenN ?_
  refine W_seq ?_
  refine W_seq ?_
  refine W_region ?_
  refine wl_q (r_move (.pointer _) rfl) rfl rfl ?_
  refine wl_q (r_eqPtrNil false Try.underlying45 rfl rfl) rfl rfl ?_
  refine wl_nil ?_
  refine thenN ?_
  refine W_condF rfl ?_
  refine W_skip ?_
  refine thenN ?_
  refine W_seq ?_
  refine W_region ?_
  refine wl_q (r_move (.pointer _) rfl) rfl rfl ?_
  refine wl_q (r_nilCheck rfl) rfl rfl ?_
  refine wl_q (r_fieldAddr 1 fld31_1 rfl) rfl rfl ?_
  refine wl_q (r_ld 0 (.map _) one29 M0 rfl rfl rfl) rfl rfl ?_
  refine wl_q (r_move (.int _ _) rfl) rfl rfl ?_
  refine wl_q (r_lookup (enc := (Value.int .i64)) 0 2 map29 zv3 M0 rfl hs.map rfl rfl) rfl rfl ?_
  refine wl_q (r_move (.tuple (List.toArray _)) rfl) rfl rfl ?_
  refine wl_q (r_ext (.int _ _) rfl rfl) rfl rfl ?_
  refine wl_q (r_ext (.bool _) rfl rfl) rfl rfl ?_
  refine wl_q (r_assign (.int _ _) rfl) rfl rfl ?_
  refine wl_q (r_assign (.bool _) rfl) rfl rfl ?_
  refine wl_nil ?_
  refine thenN ?_
  refine W_seq ?_
  refine W_seq ?_
  refine W_region ?_
  refine wl_q (r_move (.bool _) rfl) rfl rfl ?_
  refine wl_q (r_notB _ rfl rfl) rfl rfl ?_
  refine wl_nil ?_
  refine thenN ?_
  refine W_cond _ rfl (fun h20 => ?_) (fun h20 => ?_)
  · skip
    have hi : idx m key = none := by cases h : idx m key <;> simp_all
    refine W_seq ?_
    refine W_region ?_
    refine wl_q (r_assign (.int _ _) rfl) rfl rfl ?_
    refine wl_nil ?_
    refine thenN ?_
    refine W_ret ?_
    refine thenR ?_
    skip
    refine fin1 (.int _ _) rfl ?_
    have ha : removeM m key = (m, 11) := by unfold removeM; rw [if_pos (by rw [findI_of_idx, hi]; decide)]
    exact ⟨by rw [ha], A, n, c, p, er, em, by rw [ha]; exact hs, M0.keep [true, true, true]⟩
  · skip
    rcases idx_cases key m with ⟨hi, _⟩ | ⟨i, bi, hbi, hbk, hi⟩
    · simp [hi] at h20
    have hilt : i < m.length := (List.getElem?_eq_some_iff.1 hbi).1
    obtain ⟨bl, hbl⟩ := getSome (xs := m) (k := n - 1) rfl (by omega)
    have hps : p.isSome = true := hs.map.isSome hi
    refine W_skip ?_
    refine thenN ?_
    refine W_seq ?_
    refine W_region ?_
    refine wl_q (r_move (.pointer _) rfl) rfl rfl ?_
    refine wl_q (r_nilCheck rfl) rfl rfl ?_
    refine wl_q (r_fieldAddr 0 fld31_0 rfl) rfl rfl ?_
    refine wl_q (r_ld 0 (.slice _ _ _) one22 M0 rfl rfl rfl) rfl rfl ?_
    refine wl_q (r_lenS Try.underlying22 rfl) rfl rfl ?_
    refine wl_q (r_sub rfl rfl (by omega) (by omega)) rfl rfl ?_
    refine wl_q (r_assign (.int _ _) rfl) rfl rfl ?_
    refine wl_nil ?_
    refine thenN ?_
    refine W_seq ?_
    refine W_draw [(0, 0), (1, 0), (2, 0), (3, 1), (4, 0), (5, 0), (6, 0), (7, 0), (8, 1), (9, 0), (10, 1), (11, 1), (12, 1), (13, 2)] mixed rfl (by kernel_rfl) (fun w1 hb1 hh1 => ?_)
    have M1 := M0.drew hb1 hh1
    refine D_p rfl rfl rfl (fun _ => r_move (.pointer _) rfl) ?_
    refine D_p rfl rfl rfl (fun _ => r_nilCheck rfl) ?_
    refine D_p rfl rfl rfl (fun _ => r_fieldAddr 0 fld31_0 rfl) ?_
    refine D_r rfl rfl rfl (r_ld 0 (.slice _ _ _) one22 M1 rfl rfl rfl) ?_
    refine D_p rfl rfl rfl (fun _ => r_move (.int _ _) rfl) ?_
    refine D_p rfl rfl rfl (fun _ => r_move (.pointer _) rfl) ?_
    refine D_p rfl rfl rfl (fun _ => r_nilCheck rfl) ?_
    refine D_p rfl rfl rfl (fun _ => r_fieldAddr 0 fld31_0 rfl) ?_
    refine D_r rfl rfl rfl (r_ld 0 (.slice _ _ _) one22 M1 rfl rfl rfl) ?_
    refine D_p rfl rfl rfl (fun _ => r_move (.int _ _) rfl) ?_
    refine D_r rfl rfl rfl (r_idxR (n - 1) sl22 rfl rfl (by omega) ((hs.row.rd M1 (nthMem (i := 1) rfl)).below_len (mapGet bodyCells hbl)) ((hs.row.rd M1 (nthMem (i := 1) rfl)).someK (mapGet bodyCells hbl))) ?_
    refine D_r rfl rfl rfl (r_ldEA _ agg28 (hs.row.rd M1 (nthMem (i := 1) rfl)) (mapGet bodyCells hbl) rfl) ?_
    refine D_r rfl rfl rfl (r_idxR (i) sl22 rfl rfl (by rw [hi]; rfl) ((hs.row.rd M1 (nthMem (i := 1) rfl)).below_len (mapGet bodyCells hbi)) ((hs.row.rd M1 (nthMem (i := 1) rfl)).someK (mapGet bodyCells hbi))) ?_
    refine D_e [true, true, true, true, true] rfl (by kernel_rfl) ?_
    refine wl_stRW 1 _ agg28 M1 rfl hs.row (mapGet bodyCells hbi) rfl rfl rfl rfl (ones_of rfl) (fun e2 w2 hR2 M2 => ?_)
    have hQ2 := hR2.mapSet (f := bodyCells) (x := bl) rfl
    refine wl_nil (thenN ⟨alN, ?_⟩)
    refine D_nil ?_
    refine thenN ?_
    refine W_seq ?_
    refine W_draw [(0, 0), (1, 0), (2, 0), (3, 1), (4, 0), (5, 0), (6, 0), (7, 1), (8, 0), (9, 1), (10, 1), (11, 1), (12, 0), (13, 2)] mixed rfl (by kernel_rfl) (fun w3 hb3 hh3 => ?_)
    have M3 := M2.drew hb3 hh3
    refine D_p rfl rfl rfl (fun _ => r_move (.pointer _) rfl) ?_
    refine D_p rfl rfl rfl (fun _ => r_nilCheck rfl) ?_
    refine D_p rfl rfl rfl (fun _ => r_fieldAddr 1 fld31_1 rfl) ?_
    refine D_r rfl rfl rfl (r_ld 0 (.map _) one29 M3 rfl rfl rfl) ?_
    refine D_p rfl rfl rfl (fun _ => r_move (.pointer _) rfl) ?_
    refine D_p rfl rfl rfl (fun _ => r_nilCheck rfl) ?_
    refine D_p rfl rfl rfl (fun _ => r_fieldAddr 0 fld31_0 rfl) ?_
    refine D_r rfl rfl rfl (r_ld 0 (.slice _ _ _) one22 M3 rfl rfl rfl) ?_
    refine D_p rfl rfl rfl (fun _ => r_move (.int _ _) rfl) ?_
    refine D_r rfl rfl rfl (r_idxR (i) sl22 rfl rfl (by rw [hi]; rfl) ((hQ2.rd M3 (nthMem (i := 1) rfl)).below_len (mapGet bodyCells (by rw [List.getElem?_set_self hilt] : (m.set i bl)[i]? = some bl))) ((hQ2.rd M3 (nthMem (i := 1) rfl)).someK (mapGet bodyCells (by rw [List.getElem?_set_self hilt] : (m.set i bl)[i]? = some bl)))) ?_
    refine D_r rfl rfl rfl (r_fieldAddrE 0 fld28_0 (hQ2.rd M3 (nthMem (i := 1) rfl)) (Nat.lt_of_le_of_lt (Nat.zero_le _) ((hQ2.rd M3 (nthMem (i := 1) rfl)).below_len (mapGet bodyCells (by rw [List.getElem?_set_self hilt] : (m.set i bl)[i]? = some bl)))) rfl) ?_
    refine D_r rfl rfl rfl (r_ldE (o := 0) (.int _ _) one24 (hQ2.rd M3 (nthMem (i := 1) rfl)) (mapGet bodyCells (by rw [List.getElem?_set_self hilt] : (m.set i bl)[i]? = some bl)) rfl rfl) ?_
    refine D_p rfl rfl rfl (fun _ => r_move (.int _ _) rfl) ?_
    refine D_e [true, true, true, true, true] rfl (by kernel_rfl) ?_
    refine wl_mapUpdate (enc := (Value.int .i64)) 2 map29 M3 rfl rfl hs.map hps rfl rfl rfl (fun e4 w4 hm4 M4 => ?_)
    refine wl_nil (thenN ⟨alN, ?_⟩)
    refine D_nil ?_
    refine thenN ?_
    refine W_seq ?_
    refine W_region ?_
    refine wl_q (r_move (.pointer _) rfl) rfl rfl ?_
    refine wl_q (r_move (.pointer _) rfl) rfl rfl ?_
    refine wl_q (r_nilCheck rfl) rfl rfl ?_
    refine wl_q (r_fieldAddr 0 fld31_0 rfl) rfl rfl ?_
    refine wl_q (r_ld 0 (.slice _ _ _) one22 M4 rfl rfl rfl) rfl rfl ?_
    refine wl_q (r_move (.int _ _) rfl) rfl rfl ?_
    refine wl_q (r_slice (0) (((n : Int) - 1)) sl22 rfl rfl ⟨_, rfl⟩ (by decide) (by omega) (by have := hs.row.slice; omega)) rfl rfl ?_
    refine wl_q (r_nilCheck rfl) rfl rfl ?_
    refine wl_q (r_fieldAddr 0 fld31_0 rfl) rfl rfl ?_
    refine wl_st 0 (.slice _ _ _) one22 M4 rfl rfl rfl rfl rfl rfl (fun w5 M5 => ?_)
    refine wl_nil ?_
    refine thenN ?_
    refine W_seq ?_
    refine W_region ?_
    refine wl_q (r_move (.pointer _) rfl) rfl rfl ?_
    refine wl_q (r_nilCheck rfl) rfl rfl ?_
    refine wl_q (r_fieldAddr 1 fld31_1 rfl) rfl rfl ?_
    refine wl_q (r_ld 0 (.map _) one29 M5 rfl rfl rfl) rfl rfl ?_
    refine wl_q (r_move (.int _ _) rfl) rfl rfl ?_
    refine wl_delete (enc := (Value.int .i64)) 2 map29 M5 rfl rfl hm4 hps rfl rfl (fun e6 w6 hm6 M6 => ?_)
    refine wl_nil ?_
    refine thenN ?_
    refine W_seq ?_
    refine W_region ?_
    refine wl_q (r_assign (.int _ _) rfl) rfl rfl ?_
    refine wl_nil ?_
    refine thenN ?_
    refine W_ret ?_
    skip
    refine fin1 (.int _ _) rfl ?_
    have ha : removeM m key = (cutM m i, 0) := by unfold removeM; rw [findI_of_idx, hi]; simp only []; rw [if_neg (by omega), Int.toNat_natCast]
    have hn1 : ((n : Int) - 1).toNat = n - 1 := by omega
    exact ⟨by rw [ha], _, _, _, _, _, _, by rw [ha]; exact hs.cut hbi hbk (by rw [hlen]; exact hbl) (by rw [hi]; rfl) (by omega) hQ2 hm6, M6.keep [true, true, true]⟩

end Go.Proofs.Ytaabkkdpjecknaa
