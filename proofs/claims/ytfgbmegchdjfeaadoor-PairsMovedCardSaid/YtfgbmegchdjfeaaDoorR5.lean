/- Walks of Go functions over the frame of this claim: what each computes, for every input of the stated types (R5). -/
import Derived.Test.YtfgbmegchdjfeaaDoorTy
set_option linter.unusedVariables false
set_option linter.unusedSimpArgs false
set_option linter.unnecessarySimpa false
namespace Go.Proofs.YtfgbmegchdjfeaaDoor
open Go.Bil
open Go.RowKit (Below)
open Go.Proofs

set_option maxHeartbeats 4000000 in
theorem ref05_In (w : World) (n l : Int) (h0 : 0 ≤ l) (h1 : l ≤ 2147483647) :
    Calls Tryd.prog 73 #[.int .i32 n, .int .i32 l] w (fun ex w' => ∃ v, ex = .returned v ∧ (fun v w' => v = .bool (decide (inR n l)) ∧ Below w.heap.size w w') v w') := by
  have hneg : IntKind.i32.wrap (-l) = -l := wr32 _ (by omega) (by omega)
  refine calls_of_W #[.tmp 4] 14 Tryd.func73 rfl Tryd.results73 Tryd.ntmps73 rfl ?_
  have M0 := Mem.refl w
  refine W_seq ?_
  refine W_region ?_
  refine wl_q (r_assign (.bool false) rfl) rfl rfl ?_
  refine wl_nil ?_
  refine thenN ?_
  refine W_seq ?_
  refine W_region ?_
  refine wl_q (r_move (.int _ _) rfl) rfl rfl ?_
  refine wl_q (r_move (.int _ _) rfl) rfl rfl ?_
  refine wl_q (r_neg rfl) rfl rfl ?_
  refine wl_re 7 (.int .i32 (-l)) (iE hneg) ?_
  refine wl_q (r_bin (.bool (decide _)) rfl rfl rfl) rfl rfl ?_
  refine wl_q (r_move (.bool (decide _)) rfl) rfl rfl ?_
  refine wl_splitD 9 rfl (fun g9 => ?_) (fun g9 => ?_)
  · skip
    refine wl_q (r_move (.int _ _) rfl) rfl rfl ?_
    refine wl_q (r_move (.int _ _) rfl) rfl rfl ?_
    refine wl_q (r_bin (.bool (decide _)) rfl rfl rfl) rfl rfl ?_
    refine wl_q (r_pick true (.bool (decide _)) rfl rfl) rfl rfl ?_
    refine wl_q (r_assign (.bool (decide _)) rfl) rfl rfl ?_
    refine wl_nil ?_
    refine thenN ?_
    refine W_ret ?_
    skip
    refine fin1 (.bool (decide _)) rfl ?_
    exact ⟨by unfold inR; first | exact bF (by omega) | exact bD (by omega), M0.below⟩
  · skip
    refine wl_skip rfl rfl ?_
    refine wl_skip rfl rfl ?_
    refine wl_skip rfl rfl ?_
    refine wl_q (r_pick false (.bool false) rfl rfl) rfl rfl ?_
    refine wl_q (r_assign (.bool false) rfl) rfl rfl ?_
    refine wl_nil ?_
    refine thenN ?_
    refine W_ret ?_
    skip
    refine fin1 (.bool false) rfl ?_
    exact ⟨by unfold inR; first | exact bF (by omega) | exact bD (by omega), M0.below⟩

set_option maxHeartbeats 4000000 in
theorem ref05_Check (w : World) (b : Body) :
    Calls Tryd.prog 59 #[(.agg (bodyCells b).toArray)] w (fun ex w' => ∃ v, ex = .returned v ∧ (fun v w' => v = .int .i64 (check b) ∧ Below w.heap.size w w') v w') := by
  refine calls_of_W #[.tmp 2] 63 Tryd.func59 rfl Tryd.results59 Tryd.ntmps59 rfl ?_
  have M0 := Mem.refl w
  refine W_seq ?_
  refine W_region ?_
  refine wl_box (.agg (List.toArray _)) M0 rfl rfl rfl (fun b1 w1 M1 => ?_)
  refine wl_q (r_assign (.int _ _) rfl) rfl rfl ?_
  refine wl_nil ?_
  refine thenN ?_
  refine W_seq ?_
  refine W_seq ?_
  refine W_region ?_
  refine wl_q (r_fieldAddr 1 fld49_1 rfl) rfl rfl ?_
  refine wl_q (r_ld 0 (.int _ _) one21 M1 rfl rfl rfl) rfl rfl ?_
  refine wl_q (r_bin (.bool (decide _)) rfl rfl rfl) rfl rfl ?_
  refine wl_q (r_move (.bool (decide _)) rfl) rfl rfl ?_
  refine wl_splitD 6 rfl (fun g6 => ?_) (fun g6 => ?_)
  · skip
    refine wl_skip rfl rfl ?_
    refine wl_skip rfl rfl ?_
    refine wl_skip rfl rfl ?_
    refine wl_q (r_pick true (.bool true) rfl rfl) rfl rfl ?_
    refine wl_nil ?_
    refine thenN ?_
    refine W_condT rfl ?_
    refine W_seq ?_
    refine W_region ?_
    refine wl_q (r_assign (.int _ _) rfl) rfl rfl ?_
    refine wl_nil ?_
    refine thenN ?_
    refine W_ret ?_
    refine thenR ?_
    skip
    refine fin1 (.int _ _) rfl ?_
    exact ⟨iE (by unfold check; unfold inR at *; (repeat' split) <;> omega), M1.below⟩
  · skip
    refine wl_q (r_fieldAddr 1 fld49_1 rfl) rfl rfl ?_
    refine wl_q (r_ld 0 (.int _ _) one21 M1 rfl rfl rfl) rfl rfl ?_
    refine wl_q (r_bin (.bool (decide _)) rfl rfl rfl) rfl rfl ?_
    refine wl_q (r_pick false (.bool (decide _)) rfl rfl) rfl rfl ?_
    refine wl_nil ?_
    refine thenN ?_
    refine W_condD rfl (fun h10 => ?_) (fun h10 => ?_)
    · skip
      refine W_seq ?_
      refine W_region ?_
      refine wl_q (r_assign (.int _ _) rfl) rfl rfl ?_
      refine wl_nil ?_
      refine thenN ?_
      refine W_ret ?_
      refine thenR ?_
      skip
      refine fin1 (.int _ _) rfl ?_
      exact ⟨iE (by unfold check; unfold inR at *; (repeat' split) <;> omega), M1.below⟩
    · skip
      refine W_skip ?_
      refine thenN ?_
      refine W_seq ?_
      refine W_seq ?_
      refine W_region ?_
      refine wl_q (r_fieldAddr 2 fld49_2 rfl) rfl rfl ?_
      refine wl_q (r_fieldAddr 0 fld47_0 rfl) rfl rfl ?_
      refine wl_q (r_ld 0 (.int _ _) one21 M1 rfl rfl rfl) rfl rfl ?_
      refine wl_cal cal73 rfl rfl rfl ?_
      refine (ref05_In _ _ _ (by omega) (by omega)).mono ?_
      rintro _ w2 ⟨v2, rfl, ⟨rfl, hb2⟩⟩
      refine ⟨_, rfl, ?_⟩
      have M2 := M1.callB hb2
      refine wl_q (r_not rfl) rfl rfl ?_
      refine wl_q (r_move (.bool (decide _)) rfl) rfl rfl ?_
      refine wl_splitD 16 rfl (fun g16 => ?_) (fun g16 => ?_)
      · skip
        refine wl_skip rfl rfl ?_
        refine wl_skip rfl rfl ?_
        refine wl_skip rfl rfl ?_
        refine wl_skip rfl rfl ?_
        refine wl_skip rfl rfl ?_
        refine wl_q (r_pick true (.bool true) rfl rfl) rfl rfl ?_
        refine wl_nil ?_
        refine thenN ?_
        refine W_condT rfl ?_
        refine W_seq ?_
        refine W_region ?_
        refine wl_q (r_assign (.int _ _) rfl) rfl rfl ?_
        refine wl_nil ?_
        refine thenN ?_
        refine W_ret ?_
        refine thenR ?_
        skip
        refine fin1 (.int _ _) rfl ?_
        exact ⟨iE (by unfold check; unfold inR at *; (repeat' split) <;> omega), M2.below⟩
      · skip
        refine wl_q (r_fieldAddr 2 fld49_2 rfl) rfl rfl ?_
        refine wl_q (r_fieldAddr 1 fld47_1 rfl) rfl rfl ?_
        refine wl_q (r_ld 0 (.int _ _) one21 M2 rfl rfl rfl) rfl rfl ?_
        refine wl_cal cal73 rfl rfl rfl ?_
        refine (ref05_In _ _ _ (by omega) (by omega)).mono ?_
        rintro _ w3 ⟨v3, rfl, ⟨rfl, hb3⟩⟩
        refine ⟨_, rfl, ?_⟩
        have M3 := M2.callB hb3
        refine wl_q (r_not rfl) rfl rfl ?_
        refine wl_q (r_pick false (.bool (decide _)) rfl rfl) rfl rfl ?_
        refine wl_nil ?_
        refine thenN ?_
        refine W_condD rfl (fun h22 => ?_) (fun h22 => ?_)
        · skip
          refine W_seq ?_
          refine W_region ?_
          refine wl_q (r_assign (.int _ _) rfl) rfl rfl ?_
          refine wl_nil ?_
          refine thenN ?_
          refine W_ret ?_
          refine thenR ?_
          skip
          refine fin1 (.int _ _) rfl ?_
          exact ⟨iE (by unfold check; unfold inR at *; (repeat' split) <;> omega), M3.below⟩
        · skip
          refine W_skip ?_
          refine thenN ?_
          refine W_seq ?_
          refine W_seq ?_
          refine W_region ?_
          refine wl_q (r_fieldAddr 4 fld49_3 rfl) rfl rfl ?_
          refine wl_q (r_ld 0 (.int _ _) one21 M3 rfl rfl rfl) rfl rfl ?_
          refine wl_q (r_bin (.bool (decide _)) rfl rfl rfl) rfl rfl ?_
          refine wl_q (r_move (.bool (decide _)) rfl) rfl rfl ?_
          refine wl_splitD 26 rfl (fun g26 => ?_) (fun g26 => ?_)
          · skip
            refine wl_skip rfl rfl ?_
            refine wl_skip rfl rfl ?_
            refine wl_skip rfl rfl ?_
            refine wl_q (r_pick true (.bool true) rfl rfl) rfl rfl ?_
            refine wl_nil ?_
            refine thenN ?_
            refine W_condT rfl ?_
            refine W_seq ?_
            refine W_region ?_
            refine wl_q (r_assign (.int _ _) rfl) rfl rfl ?_
            refine wl_nil ?_
            refine thenN ?_
            refine W_ret ?_
            refine thenR ?_
            skip
            refine fin1 (.int _ _) rfl ?_
            exact ⟨iE (by unfold check; unfold inR at *; (repeat' split) <;> omega), M3.below⟩
          · skip
            refine wl_q (r_fieldAddr 4 fld49_3 rfl) rfl rfl ?_
            refine wl_q (r_ld 0 (.int _ _) one21 M3 rfl rfl rfl) rfl rfl ?_
            refine wl_q (r_bin (.bool (decide _)) rfl rfl rfl) rfl rfl ?_
            refine wl_q (r_pick false (.bool (decide _)) rfl rfl) rfl rfl ?_
            refine wl_nil ?_
            refine thenN ?_
            refine W_condD rfl (fun h30 => ?_) (fun h30 => ?_)
            · skip
              refine W_seq ?_
              refine W_region ?_
              refine wl_q (r_assign (.int _ _) rfl) rfl rfl ?_
              refine wl_nil ?_
              refine thenN ?_
              refine W_ret ?_
              refine thenR ?_
              skip
              refine fin1 (.int _ _) rfl ?_
              exact ⟨iE (by unfold check; unfold inR at *; (repeat' split) <;> omega), M3.below⟩
            · skip
              refine W_skip ?_
              refine thenN ?_
              refine W_seq ?_
              refine W_seq ?_
              refine W_region ?_
              refine wl_q (r_fieldAddr 5 fld49_4 rfl) rfl rfl ?_
              refine wl_q (r_ld 0 (.int _ _) one21 M3 rfl rfl rfl) rfl rfl ?_
              refine wl_q (r_bin (.bool (decide _)) rfl rfl rfl) rfl rfl ?_
              refine wl_q (r_move (.bool (decide _)) rfl) rfl rfl ?_
              refine wl_splitD 34 rfl (fun g34 => ?_) (fun g34 => ?_)
              · skip
                refine wl_skip rfl rfl ?_
                refine wl_skip rfl rfl ?_
                refine wl_skip rfl rfl ?_
                refine wl_q (r_pick true (.bool true) rfl rfl) rfl rfl ?_
                refine wl_nil ?_
                refine thenN ?_
                refine W_condT rfl ?_
                refine W_seq ?_
                refine W_region ?_
                refine wl_q (r_assign (.int _ _) rfl) rfl rfl ?_
                refine wl_nil ?_
                refine thenN ?_
                refine W_ret ?_
                refine thenR ?_
                skip
                refine fin1 (.int _ _) rfl ?_
                exact ⟨iE (by unfold check; unfold inR at *; (repeat' split) <;> omega), M3.below⟩
              · skip
                refine wl_q (r_fieldAddr 5 fld49_4 rfl) rfl rfl ?_
                refine wl_q (r_ld 0 (.int _ _) one21 M3 rfl rfl rfl) rfl rfl ?_
                refine wl_q (r_bin (.bool (decide _)) rfl rfl rfl) rfl rfl ?_
                refine wl_q (r_pick false (.bool (decide _)) rfl rfl) rfl rfl ?_
                refine wl_nil ?_
                refine thenN ?_
                refine W_condD rfl (fun h38 => ?_) (fun h38 => ?_)
                · skip
                  refine W_seq ?_
                  refine W_region ?_
                  refine wl_q (r_assign (.int _ _) rfl) rfl rfl ?_
                  refine wl_nil ?_
                  refine thenN ?_
                  refine W_ret ?_
                  refine thenR ?_
                  skip
                  refine fin1 (.int _ _) rfl ?_
                  exact ⟨iE (by unfold check; unfold inR at *; (repeat' split) <;> omega), M3.below⟩
                · skip
                  refine W_skip ?_
                  refine thenN ?_
                  refine W_seq ?_
                  refine W_seq ?_
                  refine W_region ?_
                  refine wl_q (r_fieldAddr 6 fld49_5 rfl) rfl rfl ?_
                  refine wl_q (r_fieldAddr 0 fld47_0 rfl) rfl rfl ?_
                  refine wl_q (r_ld 0 (.int _ _) one21 M3 rfl rfl rfl) rfl rfl ?_
                  refine wl_cal cal73 rfl rfl rfl ?_
                  refine (ref05_In _ _ _ (by omega) (by omega)).mono ?_
                  rintro _ w4 ⟨v4, rfl, ⟨rfl, hb4⟩⟩
                  refine ⟨_, rfl, ?_⟩
                  have M4 := M3.callB hb4
                  refine wl_q (r_not rfl) rfl rfl ?_
                  refine wl_q (r_move (.bool (decide _)) rfl) rfl rfl ?_
                  refine wl_splitD 44 rfl (fun g44 => ?_) (fun g44 => ?_)
                  · skip
                    refine wl_skip rfl rfl ?_
                    refine wl_skip rfl rfl ?_
                    refine wl_skip rfl rfl ?_
                    refine wl_skip rfl rfl ?_
                    refine wl_skip rfl rfl ?_
                    refine wl_q (r_pick true (.bool true) rfl rfl) rfl rfl ?_
                    refine wl_nil ?_
                    refine thenN ?_
                    refine W_condT rfl ?_
                    refine W_seq ?_
                    refine W_region ?_
                    refine wl_q (r_assign (.int _ _) rfl) rfl rfl ?_
                    refine wl_nil ?_
                    refine thenN ?_
                    refine W_ret ?_
                    refine thenR ?_
                    skip
                    refine fin1 (.int _ _) rfl ?_
                    exact ⟨iE (by unfold check; unfold inR at *; (repeat' split) <;> omega), M4.below⟩
                  · skip
                    refine wl_q (r_fieldAddr 6 fld49_5 rfl) rfl rfl ?_
                    refine wl_q (r_fieldAddr 1 fld47_1 rfl) rfl rfl ?_
                    refine wl_q (r_ld 0 (.int _ _) one21 M4 rfl rfl rfl) rfl rfl ?_
                    refine wl_cal cal73 rfl rfl rfl ?_
                    refine (ref05_In _ _ _ (by omega) (by omega)).mono ?_
                    rintro _ w5 ⟨v5, rfl, ⟨rfl, hb5⟩⟩
                    refine ⟨_, rfl, ?_⟩
                    have M5 := M4.callB hb5
                    refine wl_q (r_not rfl) rfl rfl ?_
                    refine wl_q (r_pick false (.bool (decide _)) rfl rfl) rfl rfl ?_
                    refine wl_nil ?_
                    refine thenN ?_
                    refine W_condD rfl (fun h50 => ?_) (fun h50 => ?_)
                    · skip
                      refine W_seq ?_
                      refine W_region ?_
                      refine wl_q (r_assign (.int _ _) rfl) rfl rfl ?_
                      refine wl_nil ?_
                      refine thenN ?_
                      refine W_ret ?_
                      refine thenR ?_
                      skip
                      refine fin1 (.int _ _) rfl ?_
                      exact ⟨iE (by unfold check; unfold inR at *; (repeat' split) <;> omega), M5.below⟩
                    · skip
                      refine W_skip ?_
                      refine thenN ?_
                      refine W_seq ?_
                      refine W_seq ?_
                      refine W_region ?_
                      refine wl_q (r_fieldAddr 8 fld49_6 rfl) rfl rfl ?_
                      refine wl_q (r_fieldAddr 0 fld47_0 rfl) rfl rfl ?_
                      refine wl_q (r_ld 0 (.int _ _) one21 M5 rfl rfl rfl) rfl rfl ?_
                      refine wl_cal cal73 rfl rfl rfl ?_
                      refine (ref05_In _ _ _ (by omega) (by omega)).mono ?_
                      rintro _ w6 ⟨v6, rfl, ⟨rfl, hb6⟩⟩
                      refine ⟨_, rfl, ?_⟩
                      have M6 := M5.callB hb6
                      refine wl_q (r_not rfl) rfl rfl ?_
                      refine wl_q (r_move (.bool (decide _)) rfl) rfl rfl ?_
                      refine wl_splitD 56 rfl (fun g56 => ?_) (fun g56 => ?_)
                      · skip
                        refine wl_skip rfl rfl ?_
                        refine wl_skip rfl rfl ?_
                        refine wl_skip rfl rfl ?_
                        refine wl_skip rfl rfl ?_
                        refine wl_skip rfl rfl ?_
                        refine wl_q (r_pick true (.bool true) rfl rfl) rfl rfl ?_
                        refine wl_nil ?_
                        refine thenN ?_
                        refine W_condT rfl ?_
                        refine W_seq ?_
                        refine W_region ?_
                        refine wl_q (r_assign (.int _ _) rfl) rfl rfl ?_
                        refine wl_nil ?_
                        refine thenN ?_
                        refine W_ret ?_
                        refine thenR ?_
                        skip
                        refine fin1 (.int _ _) rfl ?_
                        exact ⟨iE (by unfold check; unfold inR at *; (repeat' split) <;> omega), M6.below⟩
                      · skip
                        refine wl_q (r_fieldAddr 8 fld49_6 rfl) rfl rfl ?_
                        refine wl_q (r_fieldAddr 1 fld47_1 rfl) rfl rfl ?_
                        refine wl_q (r_ld 0 (.int _ _) one21 M6 rfl rfl rfl) rfl rfl ?_
                        refine wl_cal cal73 rfl rfl rfl ?_
                        refine (ref05_In _ _ _ (by omega) (by omega)).mono ?_
                        rintro _ w7 ⟨v7, rfl, ⟨rfl, hb7⟩⟩
                        refine ⟨_, rfl, ?_⟩
                        have M7 := M6.callB hb7
                        refine wl_q (r_not rfl) rfl rfl ?_
                        refine wl_q (r_pick false (.bool (decide _)) rfl rfl) rfl rfl ?_
                        refine wl_nil ?_
                        refine thenN ?_
                        refine W_condD rfl (fun h62 => ?_) (fun h62 => ?_)
                        · skip
                          refine W_seq ?_
                          refine W_region ?_
                          refine wl_q (r_assign (.int _ _) rfl) rfl rfl ?_
                          refine wl_nil ?_
                          refine thenN ?_
                          refine W_ret ?_
                          refine thenR ?_
                          skip
                          refine fin1 (.int _ _) rfl ?_
                          exact ⟨iE (by unfold check; unfold inR at *; (repeat' split) <;> omega), M7.below⟩
                        · skip
                          refine W_skip ?_
                          refine thenN ?_
                          refine W_seq ?_
                          refine W_region ?_
                          refine wl_q (r_assign (.int _ _) rfl) rfl rfl ?_
                          refine wl_nil ?_
                          refine thenN ?_
                          refine W_ret ?_
                          skip
                          refine fin1 (.int _ _) rfl ?_
                          exact ⟨iE (by unfold check; unfold inR at *; (repeat' split) <;> omega), M7.below⟩

end Go.Proofs.YtfgbmegchdjfeaaDoor
