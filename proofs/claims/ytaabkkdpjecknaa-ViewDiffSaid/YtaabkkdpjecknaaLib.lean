/- Walks of Go functions over the frame of this claim: what each computes, for every input of the stated types (Lib). -/
import Derived.Test.YtaabkkdpjecknaaTy
import Derived.Test.YtaabkkdpjecknaaR6
import Derived.Test.YtaabkkdpjecknaaBd
set_option linter.unusedVariables false
set_option linter.unusedSimpArgs false
set_option linter.unnecessarySimpa false
namespace Go.Proofs.Ytaabkkdpjecknaa
open Go.Bil
open Go.RowKit (Below)
open Go.Proofs

set_option maxHeartbeats 4000000 in
theorem cmp_isNaN32 (w : World) (x : Int) :
    Calls Try.prog 66 #[.int .u32 x] w (fun ex w' => ∃ v, ex = .returned v ∧ (fun v w' => v = .bool false ∧ w' = w) v w') := by
  refine calls_of_W #[.tmp 2] 6 Try.func66 rfl Try.results66 Try.ntmps66 rfl ?_
  have M0 := Mem.refl w
  refine W_seq ?_
  refine W_region ?_
  refine wl_q (r_assign (.bool false) rfl) rfl rfl ?_
  refine wl_nil ?_
  refine thenN ?_
  refine W_seq ?_
  refine W_region ?_
  refine wl_q (r_move (.int _ _) rfl) rfl rfl ?_
  refine wl_q (r_move (.int _ _) rfl) rfl rfl ?_
  refine wl_q (r_bin (.bool (decide _)) rfl rfl rfl) rfl rfl ?_
  refine wl_q (r_assign (.bool (decide _)) rfl) rfl rfl ?_
  refine wl_nil ?_
  refine thenN ?_
  refine W_ret ?_
  skip
  refine fin1 (.bool (decide _)) rfl ?_
  exact ⟨(bF (by omega)).symm, rfl⟩

set_option maxHeartbeats 4000000 in
theorem cmp_Compare32 (w : World) (x y : Int) :
    Calls Try.prog 46 #[.int .u32 x, .int .u32 y] w (fun ex w' => ∃ v, ex = .returned v ∧ (fun v w' => v = .int .i64 (cmpI x y) ∧ w' = w) v w') := by
  refine calls_of_W #[.tmp 4] 20 Try.func46 rfl Try.results46 Try.ntmps46 rfl ?_
  have M0 := Mem.refl w
  refine W_seq ?_
  refine W_region ?_
  refine wl_q (r_assign (.int _ _) rfl) rfl rfl ?_
  refine wl_nil ?_
  refine thenN ?_
  refine W_seq ?_
  refine W_region ?_
  refine wl_q (r_move (.int _ _) rfl) rfl rfl ?_
  refine wl_cal cal66 rfl rfl rfl ?_
  refine (cmp_isNaN32 _ _).mono ?_
  rintro _ w1 ⟨v1, rfl, ⟨rfl, rfl⟩⟩
  refine ⟨_, rfl, ?_⟩
  have M1 : Mem _ _ [] _ := M0
  refine wl_q (r_assign (.bool false) rfl) rfl rfl ?_
  refine wl_nil ?_
  refine thenN ?_
  refine W_seq ?_
  refine W_region ?_
  refine wl_q (r_move (.int _ _) rfl) rfl rfl ?_
  refine wl_cal cal66 rfl rfl rfl ?_
  refine (cmp_isNaN32 _ _).mono ?_
  rintro _ w2 ⟨v2, rfl, ⟨rfl, rfl⟩⟩
  refine ⟨_, rfl, ?_⟩
  have M2 : Mem _ _ [] _ := M1
  refine wl_q (r_assign (.bool false) rfl) rfl rfl ?_
  refine wl_nil ?_
  refine thenN ?_
  refine W_seq ?_
  refine W_seq ?_
  refine W_region ?_
  refine wl_q (r_move (.bool false) rfl) rfl rfl ?_
  refine wl_nil ?_
  refine thenN ?_
  refine W_condF rfl ?_
  refine W_skip ?_
  refine thenN ?_
  refine W_seq ?_
  refine W_seq ?_
  refine W_region ?_
  refine wl_q (r_move (.bool false) rfl) rfl rfl ?_
  refine wl_nil ?_
  refine thenN ?_
  refine W_condF rfl ?_
  refine W_skip ?_
  refine thenN ?_
  refine W_seq ?_
  refine W_seq ?_
  refine W_region ?_
  refine wl_q (r_move (.int _ _) rfl) rfl rfl ?_
  refine wl_q (r_move (.int _ _) rfl) rfl rfl ?_
  refine wl_q (r_bin (.bool (decide _)) rfl rfl rfl) rfl rfl ?_
  refine wl_nil ?_
  refine thenN ?_
  refine W_condD rfl (fun h16 => ?_) (fun h16 => ?_)
  · skip
    refine W_seq ?_
    refine W_region ?_
    refine wl_q (r_assign (.int _ _) rfl) rfl rfl ?_
    refine wl_nil ?_
    refine thenN ?_
    refine W_ret ?_
    refine thenR ?_
    skip
    refine fin1 (.int _ _) rfl ?_
    exact ⟨iE (by unfold cmpI; (repeat' split) <;> omega), rfl⟩
  · skip
    refine W_skip ?_
    refine thenN ?_
    refine W_seq ?_
    refine W_seq ?_
    refine W_region ?_
    refine wl_q (r_move (.int _ _) rfl) rfl rfl ?_
    refine wl_q (r_move (.int _ _) rfl) rfl rfl ?_
    refine wl_q (r_bin (.bool (decide _)) rfl rfl rfl) rfl rfl ?_
    refine wl_nil ?_
    refine thenN ?_
    refine W_condD rfl (fun h19 => ?_) (fun h19 => ?_)
    · skip
      refine W_seq ?_
      refine W_region ?_
      refine wl_q (r_assign (.int _ _) rfl) rfl rfl ?_
      refine wl_nil ?_
      refine thenN ?_
      refine W_ret ?_
      refine thenR ?_
      skip
      refine fin1 (.int _ _) rfl ?_
      exact ⟨iE (by unfold cmpI; (repeat' split) <;> omega), rfl⟩
    · skip
      refine W_skip ?_
      refine thenN ?_
      refine W_seq ?_
      refine W_region ?_
      refine wl_q (r_assign (.int _ _) rfl) rfl rfl ?_
      refine wl_nil ?_
      refine thenN ?_
      refine W_ret ?_
      skip
      refine fin1 (.int _ _) rfl ?_
      exact ⟨iE (by unfold cmpI; (repeat' split) <;> omega), rfl⟩

set_option maxHeartbeats 4000000 in
theorem store_Bodies1 (a b : Body) (w : World) :
    Calls Try.prog 45 #[(.agg (bodyCells a).toArray), (.agg (bodyCells b).toArray)] w (fun ex w' => ∃ v, ex = .returned v ∧ (fun v w' => v = .int .i64 (cmpI a.key b.key) ∧ ∃ os, w' = Go.Sort.grow w os) v w') := by
  refine calls_of_W #[.tmp 4] 10 Try.func45 rfl Try.results45 Try.ntmps45 rfl ?_
  have M0 := Mem.refl w
  refine W_seq ?_
  refine W_region ?_
  refine wl_boxE (.agg (List.toArray _)) M0 rfl rfl rfl (fun M1 => ?_)
  refine wl_boxE (.agg (List.toArray _)) M1 rfl rfl rfl (fun M2 => ?_)
  refine wl_q (r_assign (.int _ _) rfl) rfl rfl ?_
  refine wl_nil ?_
  refine thenN ?_
  refine W_seq ?_
  refine W_region ?_
  refine wl_q (r_fieldAddr 0 fld28_0 rfl) rfl rfl ?_
  refine wl_q (r_ld 0 (.int _ _) one24 M2 rfl rfl rfl) rfl rfl ?_
  refine wl_q (r_fieldAddr 0 fld28_0 rfl) rfl rfl ?_
  refine wl_q (r_ld 1 (.int _ _) one24 M2 rfl rfl rfl) rfl rfl ?_
  refine wl_cal cal46 rfl rfl rfl ?_
  refine (cmp_Compare32 _ _ _).mono ?_
  rintro _ w3 ⟨v3, rfl, ⟨rfl, rfl⟩⟩
  refine ⟨_, rfl, ?_⟩
  have M3 : Mem _ _ [_, _] _ := M2
  refine wl_q (r_assign (.int _ _) rfl) rfl rfl ?_
  refine wl_nil ?_
  refine thenN ?_
  refine W_ret ?_
  skip
  refine fin1 (.int _ _) rfl ?_
  exact ⟨rfl, grow2 _ _ _⟩

set_option maxHeartbeats 4000000 in
theorem slices_CloneB (w : World) (A : Option Addr) (n c : Nat) (ls : List (List Value)) (R : Rd w 10 A n ls) (h1 : ∀ y ∈ ls, ∀ u ∈ y, one u = true) (hn : n ≤ 1048576) :
    Calls Try.prog 43 #[.slice A n c] w (fun ex w' => ∃ v, ex = .returned v ∧ (fun v w' => ∃ A' n' c' e, v = .slice A' n' c' ∧ RowIs 28 10 A' n' c' ls e ∧ Mem w [] [e] w' ∧ A'.isSome = A.isSome) v w') := by
  refine calls_of_W #[.tmp 2] 8 Try.func43 rfl Try.results43 Try.ntmps43 rfl ?_
  have M0 := Mem.refl w
  refine W_seq ?_
  refine W_region ?_
  refine wl_q (r_assign (.slice _ _ _) rfl) rfl rfl ?_
  refine wl_nil ?_
  refine thenN ?_
  refine W_seq ?_
  refine W_seq ?_
  refine W_region ?_
  refine wl_q (r_move (.slice _ _ _) rfl) rfl rfl ?_
  refine wl_q (r_eqSliceNil _ Try.underlying22 rfl rfl) rfl rfl ?_
  refine wl_nil ?_
  refine thenN ?_
  refine W_cond _ rfl (fun h4 => ?_) (fun h4 => ?_)
  · skip
    refine W_seq ?_
    refine W_region ?_
    refine wl_q (r_assign (.slice _ _ _) rfl) rfl rfl ?_
    refine wl_nil ?_
    refine thenN ?_
    refine W_ret ?_
    refine thenR ?_
    skip
    refine fin1 (.slice _ _ _) rfl ?_
    have hA : A = none := by cases A <;> simp_all
    have hl : ls = [] := by
      rcases Nat.eq_zero_or_pos n with h | h
      · subst h; exact List.eq_nil_of_length_eq_zero R.len
      · have := R.some h; rw [hA] at this; cases this
    subst hA; subst hl
    exact ⟨_, _, _, _, rfl, RowIs.nil 28 10 default, M0.dummy default, rfl⟩
  · skip
    refine W_skip ?_
    refine thenN ?_
    refine W_seq ?_
    refine W_region ?_
    refine wl_bslice [] [] rfl sl22 M0 rfl rfl rfl rfl (lens_of rfl) (by decide) (fun b1 w1 M1 => ?_)
    refine wl_q (r_move (.slice _ _ _) rfl) rfl rfl ?_
    refine wl_appendR 0 ls sl22 M1 rfl rfl rfl rfl rfl (RowIs.empty b1) (R.mem M1) h1 (by omega) (fun A2 c2 e2 w2 M2 hR2 hA2 => ?_)
    have hAA := hA2
    refine wl_q (r_assign (.slice _ _ _) rfl) rfl rfl ?_
    refine wl_nil ?_
    refine thenN ?_
    refine W_ret ?_
    skip
    refine fin1 (.slice _ _ _) rfl ?_
    refine ⟨_, _, _, _, rfl, by simpa using hR2, M2, ?_⟩
    rw [hAA rfl]; cases A <;> simp_all

set_option maxHeartbeats 4000000 in
theorem maps_CloneK (w : World) (p : Option Nat) (f : Int → Option Int) (e : Ent) (hm : MapE .u32 (Value.int .i64) f p e) (hO : Own [e] w) :
    Calls Try.prog 47 #[.map p] w (fun ex w' => ∃ v, ex = .returned v ∧ (fun v w' => ∃ p' e', v = .map p' ∧ MapE .u32 (Value.int .i64) f p' e' ∧ Mem w (blks [e]) [e, e'] w') v w') := by
  refine calls_of_W #[.tmp 2] 9 Try.func47 rfl Try.results47 Try.ntmps47 rfl ?_
  have M0 := hO.mem
  refine W_seq ?_
  refine W_region ?_
  refine wl_q (r_assign (.map _) rfl) rfl rfl ?_
  refine wl_nil ?_
  refine thenN ?_
  refine W_seq ?_
  refine W_seq ?_
  refine W_region ?_
  refine wl_q (r_move (.map _) rfl) rfl rfl ?_
  refine wl_q (r_eqMapNil _ Try.underlying29 rfl rfl) rfl rfl ?_
  refine wl_nil ?_
  refine thenN ?_
  refine W_cond _ rfl (fun h4 => ?_) (fun h4 => ?_)
  · skip
    have hpn : p = none := by cases p <;> simp_all
    have hf : ∀ k, f k = none := fun k => by subst hpn; rcases hm with ⟨_, _, h⟩ | ⟨_, _, h, _⟩; exact h k; cases h
    refine W_seq ?_
    refine W_region ?_
    refine wl_q (r_assign (.map _) rfl) rfl rfl ?_
    refine wl_nil ?_
    refine thenN ?_
    refine W_ret ?_
    refine thenR ?_
    skip
    refine fin1 (.map _) rfl ?_
    exact ⟨none, (none, default), rfl, (MapE.nil _ _ default).congr hf, M0.dummy default⟩
  · skip
    have hps : p.isSome = true := by cases p <;> simp_all
    refine W_skip ?_
    refine thenN ?_
    refine W_seq ?_
    refine W_region ?_
    refine wl_q (r_move (.map _) rfl) rfl rfl ?_
    refine wl_q (r_makeIface nifc29 rfl) rfl rfl ?_
    refine wl_mapsClone 0 clones67 M0 rfl hm hps rfl rfl rfl (fun b1 e1 w1 hm1 M1 => ?_)
    refine wl_q (r_assert (.map _) nifc29 rfl) rfl rfl ?_
    refine wl_q (r_assign (.map _) rfl) rfl rfl ?_
    refine wl_nil ?_
    refine thenN ?_
    refine W_ret ?_
    skip
    refine fin1 (.map _) rfl ?_
    exact ⟨_, _, rfl, hm1, M1⟩

set_option maxHeartbeats 4000000 in
theorem store_Clone (w : World) (b : Nat) (A : Option Addr) (n c : Nat) (p : Option Nat) (er em : Ent) (m : List Body) (hs : StoreIs 28 A n c p er em m) (hO : Own [(some b, bc [.slice A n c, .map p] 31), er, em] w) :
    Calls Try.prog 23 #[.pointer (some ⟨b, 0, none⟩)] w (fun ex w' => ∃ v, ex = .returned v ∧ (fun v w' => ∃ b' A' n' c' p' er' em', v = .pointer (some ⟨b', 0, none⟩) ∧ StoreIs 28 A' n' c' p' er' em' m ∧ Mem w (blks [(some b, bc [.slice A n c, .map p] 31), er, em]) [(some b, bc [.slice A n c, .map p] 31), er, em, (some b', bc [.slice A' n' c', .map p'] 31), er', em'] w') v w') := by
  have hlen : m.length = n := by simpa using hs.row.1
  have hcap := hs.cap
  refine calls_of_W #[.tmp 2] 17 Try.func23 rfl Try.results23 Try.ntmps23 rfl ?_
  have M0 := hO.mem
  refine W_seq ?_
  refine W_region ?_
  refine wl_q (r_assign (.pointer _) rfl) rfl rfl ?_
  refine wl_nil ?_
  refine thenN ?_
  refine W_seq ?_
  refine W_seq ?_
  refine W_region ?_
  refine wl_q (r_move (.pointer _) rfl) rfl rfl ?_
  refine wl_q (r_eqPtrNil false Try.underlying45 rfl rfl) rfl rfl ?_
  refine wl_nil ?_
  refine thenN ?_
  refine W_condF rfl ?_
  refine W_skip ?_
  refine thenN ?_
  refine W_seq ?_
  refine W_draw [(0, 0), (1, 0), (2, 0), (3, 1), (5, 0), (6, 0), (7, 0), (8, 1), (4, 2), (9, 2), (10, 0), (11, 2), (12, 0)] mixed rfl (by kernel_rfl) (fun w1 hb1 hh1 => ?_)
  have M1 := M0.drew hb1 hh1
  refine D_p rfl rfl rfl (fun _ => r_move (.pointer _) rfl) ?_
  refine D_p rfl rfl rfl (fun _ => r_nilCheck rfl) ?_
  refine D_p rfl rfl rfl (fun _ => r_fieldAddr 0 fld31_0 rfl) ?_
  refine D_r rfl rfl rfl (r_ld 0 (.slice _ _ _) one22 M1 rfl rfl rfl) ?_
  refine D_p rfl rfl rfl (fun _ => r_move (.pointer _) rfl) ?_
  refine D_p rfl rfl rfl (fun _ => r_nilCheck rfl) ?_
  refine D_p rfl rfl rfl (fun _ => r_fieldAddr 1 fld31_1 rfl) ?_
  refine D_r rfl rfl rfl (r_ld 0 (.map _) one29 M1 rfl rfl rfl) ?_
  refine D_e [false, true] rfl (by kernel_rfl) ?_
  refine wl_cal cal43 rfl rfl rfl ?_
  refine (slices_CloneB _ _ _ _ _ (hs.row.rd M1 (nthMem (i := 1) rfl)) (bodies_one m) (by omega)).mono ?_
  rintro _ w2 ⟨v2, rfl, ⟨A2, n2, c2, e2, rfl, hR2, hM2, _⟩⟩
  refine ⟨_, rfl, ?_⟩
  have M2 : Mem _ _ [_, _, _, _] _ := M1.call0 hM2
  refine wl_nil (thenN ⟨(alC (Yl_of rfl (r_ld 0 (.map _) one29 M2 rfl rfl rfl)) alN), ?_⟩)
  refine D_e [true] rfl (by kernel_rfl) ?_
  refine wl_cal cal47 rfl rfl rfl ?_
  refine (maps_CloneK _ _ _ _ hs.map (M2.ownAt (i := 2) rfl)).mono ?_
  rintro _ w3 ⟨v3, rfl, ⟨p3, e3, rfl, hm3, hM3⟩⟩
  refine ⟨_, rfl, ?_⟩
  have M3 : Mem _ _ [_, _, _, _, _] _ := M2.seg 2 1 hM3
  refine wl_nil (thenN ⟨alN, ?_⟩)
  refine D_p rfl rfl rfl (fun _ => r_build [(0, .slice _ _ _), (1, .map _)] _ struct31 rfl rfl) ?_
  refine D_e [] rfl (by kernel_rfl) ?_
  refine wl_box (.agg (List.toArray _)) M3 rfl rfl rfl (fun b4 w4 M4 => ?_)
  refine wl_nil (thenN ⟨alN, ?_⟩)
  refine D_p rfl rfl rfl (fun _ => r_assign (.pointer _) rfl) ?_
  refine D_nil ?_
  refine thenN ?_
  refine W_ret ?_
  skip
  refine fin1 (.pointer _) rfl ?_
  exact ⟨_, _, _, _, _, _, _, rfl, ⟨hR2, hm3, hs.keys, hs.cap, hs.ok⟩, M4.perm ((List.perm_append_comm (l₁ := [_, _]) (l₂ := [_])).append_left [_, _, _])⟩

end Go.Proofs.Ytaabkkdpjecknaa
