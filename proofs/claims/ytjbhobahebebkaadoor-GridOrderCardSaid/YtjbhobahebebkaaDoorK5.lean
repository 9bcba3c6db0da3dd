/- Part of the proof of the laws of this seat: Ty, T10l, T10m, T10n, R5, R6, Bd, Lib. No conditions. -/
import Derived.Test.YtjbhobahebebkaaDoorProg
import Derived.Test.YtjbhobahebebkaaDoorK2
import Derived.Test.YtjbhobahebebkaaDoorK3
import Derived.Test.YtjbhobahebebkaaDoorK4
import Derived.KernelRfl
/- Closed facts on the types and functions of this seat. -/
set_option linter.unusedVariables false
set_option linter.unusedSimpArgs false
namespace Go.Proofs.YtjbhobahebebkaaDoor
open Go.Bil
open Go.Proofs
theorem one42 : oneB Tryd.prog 42 = true := by kernel_rfl
theorem eqI44 : ∀ (d : Nat) (w : World) (x0 x1 y0 y1 : Int), (Op.equalIn (d + 2) 44 (.agg [.int .u32 x0, .int .u32 x1].toArray) (.agg [.int .u32 y0, .int .u32 y1].toArray)).run Tryd.prog w = .ok (decide (x0 = y0 ∧ x1 = y1)) w := fun d w x0 x1 y0 y1 => by
    have h := eq_struct (P := Tryd.prog) (T := 44) (dd := d + 1) (xs := [.int .u32 x0, .int .u32 x1]) (ys := [.int .u32 y0, .int .u32 y1]) (w := w) Tryd.underlying44 (by kernel_rfl) (eqF_cons rfl (part1 one42 rfl) (part1 one42 rfl) (eq_int (dd := d + 0) Tryd.underlying42) (eqF_cons rfl (part1 one42 rfl) (part1 one42 rfl) (eq_int (dd := d + 0) Tryd.underlying42) (eqF_nil)))
    refine h.trans (congrArg (fun r => Result.ok r w) ?_)
    simp only [Bool.decide_and, Bool.and_true, Bool.and_assoc]
theorem eqA44 : ∀ (x0 x1 y0 y1 : Int), EqA Tryd.prog 44 [.int .u32 x0, .int .u32 x1] [.int .u32 y0, .int .u32 y1] (decide (x0 = y0 ∧ x1 = y1)) := fun x0 x1 y0 y1 => ⟨by kernel_rfl, fun w => eqI44 9998 w x0 x1 y0 y1⟩
theorem agg44 : aggN Tryd.prog 44 = some 2 := by kernel_rfl
theorem cal27 : callOk Tryd.prog 27 = true := by kernel_rfl
theorem cal54 : callOk Tryd.prog 54 = true := by kernel_rfl
theorem sl27 : sliceB Tryd.prog 27 42 1 4 = true := by kernel_rfl
theorem mixed : Tryd.prog.follows .mixedOrders = true := by kernel_rfl
theorem fld56_0 : fldB Tryd.prog 56 0 0 = true := by kernel_rfl
theorem one21 : oneB Tryd.prog 21 = true := by kernel_rfl
theorem fld56_2 : fldB Tryd.prog 56 2 2 = true := by kernel_rfl
theorem fld56_1 : fldB Tryd.prog 56 1 1 = true := by kernel_rfl
theorem fld56_3 : fldB Tryd.prog 56 3 3 = true := by kernel_rfl
theorem fld47_0 : fldB Tryd.prog 47 0 0 = true := by kernel_rfl
theorem fld47_2 : fldB Tryd.prog 47 2 2 = true := by kernel_rfl
theorem fld47_1 : fldB Tryd.prog 47 1 1 = true := by kernel_rfl
theorem fld47_3 : fldB Tryd.prog 47 3 3 = true := by kernel_rfl
theorem agg47 : aggN Tryd.prog 47 = some 4 := by kernel_rfl
theorem cal38 : callOk Tryd.prog 38 = true := by kernel_rfl
theorem zero73 : zeroL Tryd.prog 73 = some [.int .i32 0, .int .i32 0] := by kernel_rfl
theorem fld24_0 : fldB Tryd.prog 24 0 0 = true := by kernel_rfl
theorem fld24_1 : fldB Tryd.prog 24 1 1 = true := by kernel_rfl
theorem struct73 : structB Tryd.prog 73 [.int .i32 0, .int .i32 0] [(0, 1), (1, 1)] := structB_mk Tryd.underlying73 (by kernel_rfl) (by kernel_rfl) (by kernel_rfl)
theorem agg73 : aggN Tryd.prog 73 = some 2 := by kernel_rfl
theorem agg56 : aggN Tryd.prog 56 = some 4 := by kernel_rfl
theorem cal81 : callOk Tryd.prog 81 = true := by kernel_rfl
theorem struct24 : structB Tryd.prog 24 [.int .i32 0, .int .i32 0] [(0, 1), (1, 1)] := structB_mk Tryd.underlying24 (by kernel_rfl) (by kernel_rfl) (by kernel_rfl)
theorem cal33 : callOk Tryd.prog 33 = true := by kernel_rfl
theorem cal66 : callOk Tryd.prog 66 = true := by kernel_rfl
theorem zero4 : zeroL Tryd.prog 4 = some [.bool false] := by kernel_rfl
theorem one4 : oneB Tryd.prog 4 = true := by kernel_rfl
theorem fld73_1 : fldB Tryd.prog 73 1 1 = true := by kernel_rfl
theorem fld73_0 : fldB Tryd.prog 73 0 0 = true := by kernel_rfl
theorem zero81 : zeroL Tryd.prog 81 = some [.slice none 0 0] := by kernel_rfl
theorem cal50 : callOk Tryd.prog 50 = true := by kernel_rfl
theorem cal67 : callOk Tryd.prog 67 = true := by kernel_rfl
theorem one81 : oneB Tryd.prog 81 = true := by kernel_rfl
theorem sl81 : sliceB Tryd.prog 81 73 2 8 = true := by kernel_rfl
theorem us21 : (Tryd.prog.underlying 21).isSome = true := by kernel_rfl
theorem arr91 : arrB Tryd.prog 91 2 42 1 = true := by kernel_rfl
theorem us42 : (Tryd.prog.underlying 42).isSome = true := by kernel_rfl
theorem fld30_1 : fldB Tryd.prog 30 1 1024 = true := by kernel_rfl
theorem one3 : oneB Tryd.prog 3 = true := by kernel_rfl
theorem cal39 : callOk Tryd.prog 39 = true := by kernel_rfl
theorem cal32 : callOk Tryd.prog 32 = true := by kernel_rfl
theorem map80 : mapB Tryd.prog 80 3 4 .i64 = true := by kernel_rfl
theorem zv4 : zeroV Tryd.prog 4 = some (.bool false) := by kernel_rfl
theorem fld30_0 : fldB Tryd.prog 30 0 0 = true := by kernel_rfl
theorem arr28 : arrB Tryd.prog 28 1024 27 1 = true := by kernel_rfl
theorem one27 : oneB Tryd.prog 27 = true := by kernel_rfl
theorem zero44 : zeroL Tryd.prog 44 = some [.int .u32 0, .int .u32 0] := by kernel_rfl
theorem struct44 : structB Tryd.prog 44 [.int .u32 0, .int .u32 0] [(0, 1), (1, 1)] := structB_mk Tryd.underlying44 (by kernel_rfl) (by kernel_rfl) (by kernel_rfl)
theorem sl67 : sliceB Tryd.prog 67 3 1 8 = true := by kernel_rfl
theorem fld44_0 : fldB Tryd.prog 44 0 0 = true := by kernel_rfl
theorem fld44_1 : fldB Tryd.prog 44 1 1 = true := by kernel_rfl
theorem cal45 : callOk Tryd.prog 45 = true := by kernel_rfl
theorem cal44 : callOk Tryd.prog 44 = true := by kernel_rfl
theorem one58 : oneB Tryd.prog 58 = true := by kernel_rfl
theorem cal43 : callOk Tryd.prog 43 = true := by kernel_rfl
theorem one35 : oneB Tryd.prog 35 = true := by kernel_rfl
theorem sl35 : sliceB Tryd.prog 35 44 2 8 = true := by kernel_rfl
theorem cal52 : callOk Tryd.prog 52 = true := by kernel_rfl
theorem cal41 : callOk Tryd.prog 41 = true := by kernel_rfl
theorem cal42 : callOk Tryd.prog 42 = true := by kernel_rfl
theorem agg28 : aggN Tryd.prog 28 = some 1024 := by kernel_rfl
theorem cal24 : callOk Tryd.prog 24 = true := by kernel_rfl
theorem struct59 : structB Tryd.prog 59 [] [] := structB_mk Tryd.underlying59 (by kernel_rfl) (by kernel_rfl) (by kernel_rfl)
theorem cal26 : callOk Tryd.prog 26 = true := by kernel_rfl
theorem cal25 : callOk Tryd.prog 25 = true := by kernel_rfl
end Go.Proofs.YtjbhobahebebkaaDoor

/- Closed facts on the types and functions of this seat. -/
set_option linter.unusedVariables false
set_option linter.unusedSimpArgs false
namespace Go.Proofs.YtjbhobahebebkaaDoor
open Go.Bil
open Go.Proofs
theorem cal61 : callOk Tryd.prog 61 = true := by kernel_rfl
theorem cal76 : callOk Tryd.prog 76 = true := by kernel_rfl
theorem cal85 : callOk Tryd.prog 85 = true := by kernel_rfl
theorem zero3 : zeroL Tryd.prog 3 = some [.int .i64 0] := by kernel_rfl
theorem cal80 : callOk Tryd.prog 80 = true := by kernel_rfl
theorem one123 : oneB Tryd.prog 123 = true := by kernel_rfl
theorem us3 : (Tryd.prog.underlying 3).isSome = true := by kernel_rfl
theorem cal48 : callOk Tryd.prog 48 = true := by kernel_rfl
theorem zero123 : zeroL Tryd.prog 123 = some [.int .u64 0] := by kernel_rfl
theorem cal77 : callOk Tryd.prog 77 = true := by kernel_rfl
theorem cal78 : callOk Tryd.prog 78 = true := by kernel_rfl
theorem us92 : (Tryd.prog.underlying 92).isSome = true := by kernel_rfl
theorem cal55 : callOk Tryd.prog 55 = true := by kernel_rfl
theorem cal56 : callOk Tryd.prog 56 = true := by kernel_rfl
theorem cal57 : callOk Tryd.prog 57 = true := by kernel_rfl
theorem cal58 : callOk Tryd.prog 58 = true := by kernel_rfl
theorem cal59 : callOk Tryd.prog 59 = true := by kernel_rfl
theorem cal60 : callOk Tryd.prog 60 = true := by kernel_rfl
theorem cal62 : callOk Tryd.prog 62 = true := by kernel_rfl
theorem cal63 : callOk Tryd.prog 63 = true := by kernel_rfl
theorem cal47 : callOk Tryd.prog 47 = true := by kernel_rfl
end Go.Proofs.YtjbhobahebebkaaDoor

/- Closed facts on the types and functions of this seat. -/
set_option linter.unusedVariables false
set_option linter.unusedSimpArgs false
namespace Go.Proofs.YtjbhobahebebkaaDoor
open Go.Bil
open Go.Proofs
theorem zv42 : zeroV Tryd.prog 42 = some (.int .u32 0) := by kernel_rfl
theorem cal51 : callOk Tryd.prog 51 = true := by kernel_rfl
theorem us2 : (Tryd.prog.underlying 2).isSome = true := by kernel_rfl
theorem cal40 : callOk Tryd.prog 40 = true := by kernel_rfl
theorem sl22 : sliceB Tryd.prog 22 49 5 20 = true := by kernel_rfl
theorem fld49_1 : fldB Tryd.prog 49 1 1 = true := by kernel_rfl
theorem cal23 : callOk Tryd.prog 23 = true := by kernel_rfl
theorem zero47 : zeroL Tryd.prog 47 = some [.int .i32 0, .int .i32 0, .int .i32 0, .int .i32 0] := by kernel_rfl
theorem fld49_0 : fldB Tryd.prog 49 0 0 = true := by kernel_rfl
theorem struct56 : structB Tryd.prog 56 [.int .i32 0, .int .i32 0, .int .i32 0, .int .i32 0] [(0, 1), (1, 1), (2, 1), (3, 1)] := structB_mk Tryd.underlying56 (by kernel_rfl) (by kernel_rfl) (by kernel_rfl)
theorem cal22 : callOk Tryd.prog 22 = true := by kernel_rfl
theorem agg24 : aggN Tryd.prog 24 = some 2 := by kernel_rfl
theorem cal31 : callOk Tryd.prog 31 = true := by kernel_rfl
theorem cal34 : callOk Tryd.prog 34 = true := by kernel_rfl
theorem cal35 : callOk Tryd.prog 35 = true := by kernel_rfl
theorem cal13 : callOk Tryd.prog 13 = true := by kernel_rfl
theorem cal12 : callOk Tryd.prog 12 = true := by kernel_rfl
theorem cal16 : callOk Tryd.prog 16 = true := by kernel_rfl
theorem cal15 : callOk Tryd.prog 15 = true := by kernel_rfl
theorem cal11 : callOk Tryd.prog 11 = true := by kernel_rfl
end Go.Proofs.YtjbhobahebebkaaDoor

/- Closed facts on the types and functions of this seat. -/
set_option linter.unusedVariables false
set_option linter.unusedSimpArgs false
namespace Go.Proofs.YtjbhobahebebkaaDoor
open Go.Bil
open Go.Proofs
theorem cal8 : callOk Tryd.prog 8 = true := by kernel_rfl
theorem cal9 : callOk Tryd.prog 9 = true := by kernel_rfl
theorem cal10 : callOk Tryd.prog 10 = true := by kernel_rfl
theorem leaves49 : leaves Tryd.prog 4 49 = some [.u32, .i32, .i32, .i32, .i32] := by kernel_rfl
theorem leaves24 : leaves Tryd.prog 3 24 = some [.i32, .i32] := by kernel_rfl
theorem us5 : (Tryd.prog.underlying 5).isSome = true := by kernel_rfl
end Go.Proofs.YtjbhobahebebkaaDoor

/- Walks of Go functions over the frame of this claim: what each computes, for every input of the stated types (R5). -/
set_option linter.unusedVariables false
set_option linter.unusedSimpArgs false
set_option linter.unnecessarySimpa false
namespace Go.Proofs.YtjbhobahebebkaaDoor
open Go.Bil
open Go.RowKit (Below)
open Go.Proofs

end Go.Proofs.YtjbhobahebebkaaDoor

/- Walks of Go functions over the frame of this claim: what each computes, for every input of the stated types (R6). -/
set_option linter.unusedVariables false
set_option linter.unusedSimpArgs false
set_option linter.unnecessarySimpa false
namespace Go.Proofs.YtjbhobahebebkaaDoor
open Go.Bil
open Go.RowKit (Below)
open Go.Proofs

end Go.Proofs.YtjbhobahebebkaaDoor

/- Walks of Go functions over the frame of this claim: what each computes, for every input of the stated types (Bd). -/
set_option linter.unusedVariables false
set_option linter.unusedSimpArgs false
set_option linter.unnecessarySimpa false
namespace Go.Proofs.YtjbhobahebebkaaDoor
open Go.Bil
open Go.RowKit (Below)
open Go.Proofs

end Go.Proofs.YtjbhobahebebkaaDoor

/- Walks of Go functions over the frame of this claim: what each computes, for every input of the stated types (Lib). -/
set_option linter.unusedVariables false
set_option linter.unusedSimpArgs false
set_option linter.unnecessarySimpa false
namespace Go.Proofs.YtjbhobahebebkaaDoor
open Go.Bil
open Go.RowKit (Below)
open Go.Proofs

set_option maxHeartbeats 4000000 in
theorem cmp_isNaN32 (w : World) (x : Int) :
    Calls Tryd.prog 54 #[.int .u32 x] w (fun ex w' => ∃ v, ex = .returned v ∧ (fun v w' => v = .bool false ∧ w' = w) v w') := by
  refine calls_of_W #[.tmp 2] 6 Tryd.func54 rfl Tryd.results54 Tryd.ntmps54 rfl ?_
  have M0 := Mem.refl w
  refine W_seq ?_
  refine W_region ?_
  refine wl_q (r_assign (.bool false) rfl) rfl rfl ?_
  refine wl_nil ?_
  refine thenN ?_
  refine W_seq ?_
  refine W_region ?_
  refine wl_q (r_move (.int _ _) rfl) rfl rfl ?_
  refine wl_q (r_move (.int _ _) rfl) rfl rfl ?_
  refine wl_q (r_bin (.bool (decide _)) rfl rfl rfl) rfl rfl ?_
  refine wl_q (r_assign (.bool (decide _)) rfl) rfl rfl ?_
  refine wl_nil ?_
  refine thenN ?_
  refine W_ret ?_
  skip
  refine fin1 (.bool (decide _)) rfl ?_
  exact ⟨(bF (by omega)).symm, rfl⟩

set_option maxHeartbeats 4000000 in
theorem cmp_Compare32 (w : World) (x y : Int) :
    Calls Tryd.prog 45 #[.int .u32 x, .int .u32 y] w (fun ex w' => ∃ v, ex = .returned v ∧ (fun v w' => v = .int .i64 (cmpI x y) ∧ w' = w) v w') := by
  refine calls_of_W #[.tmp 4] 20 Tryd.func45 rfl Tryd.results45 Tryd.ntmps45 rfl ?_
  have M0 := Mem.refl w
  refine W_seq ?_
  refine W_region ?_
  refine wl_q (r_assign (.int _ _) rfl) rfl rfl ?_
  refine wl_nil ?_
  refine thenN ?_
  refine W_seq ?_
  refine W_region ?_
  refine wl_q (r_move (.int _ _) rfl) rfl rfl ?_
  refine wl_cal cal54 rfl rfl rfl ?_
  refine (cmp_isNaN32 _ _).mono ?_
  rintro _ w1 ⟨v1, rfl, ⟨rfl, rfl⟩⟩
  refine ⟨_, rfl, ?_⟩
  have M1 : Mem _ _ [] _ := M0
  refine wl_q (r_assign (.bool false) rfl) rfl rfl ?_
  refine wl_nil ?_
  refine thenN ?_
  refine W_seq ?_
  refine W_region ?_
  refine wl_q (r_move (.int _ _) rfl) rfl rfl ?_
  refine wl_cal cal54 rfl rfl rfl ?_
  refine (cmp_isNaN32 _ _).mono ?_
  rintro _ w2 ⟨v2, rfl, ⟨rfl, rfl⟩⟩
  refine ⟨_, rfl, ?_⟩
  have M2 : Mem _ _ [] _ := M1
  refine wl_q (r_assign (.bool false) rfl) rfl rfl ?_
  refine wl_nil ?_
  refine thenN ?_
  refine W_seq ?_
  refine W_seq ?_
  refine W_region ?_
  refine wl_q (r_move (.bool false) rfl) rfl rfl ?_
  refine wl_nil ?_
  refine thenN ?_
  refine W_condF rfl ?_
  refine W_skip ?_
  refine thenN ?_
  refine W_seq ?_
  refine W_seq ?_
  refine W_region ?_
  refine wl_q (r_move (.bool false) rfl) rfl rfl ?_
  refine wl_nil ?_
  refine thenN ?_
  refine W_condF rfl ?_
  refine W_skip ?_
  refine thenN ?_
  refine W_seq ?_
  refine W_seq ?_
  refine W_region ?_
  refine wl_q (r_move (.int _ _) rfl) rfl rfl ?_
  refine wl_q (r_move (.int _ _) rfl) rfl rfl ?_
  refine wl_q (r_bin (.bool (decide _)) rfl rfl rfl) rfl rfl ?_
  refine wl_nil ?_
  refine thenN ?_
  refine W_condD rfl (fun h16 => ?_) (fun h16 => ?_)
  · skip
    refine W_seq ?_
    refine W_region ?_
    refine wl_q (r_assign (.int _ _) rfl) rfl rfl ?_
    refine wl_nil ?_
    refine thenN ?_
    refine W_ret ?_
    refine thenR ?_
    skip
    refine fin1 (.int _ _) rfl ?_
    exact ⟨iE (by unfold cmpI; (repeat' split) <;> omega), rfl⟩
  · skip
    refine W_skip ?_
    refine thenN ?_
    refine W_seq ?_
    refine W_seq ?_
    refine W_region ?_
    refine wl_q (r_move (.int _ _) rfl) rfl rfl ?_
    refine wl_q (r_move (.int _ _) rfl) rfl rfl ?_
    refine wl_q (r_bin (.bool (decide _)) rfl rfl rfl) rfl rfl ?_
    refine wl_nil ?_
    refine thenN ?_
    refine W_condD rfl (fun h19 => ?_) (fun h19 => ?_)
    · skip
      refine W_seq ?_
      refine W_region ?_
      refine wl_q (r_assign (.int _ _) rfl) rfl rfl ?_
      refine wl_nil ?_
      refine thenN ?_
      refine W_ret ?_
      refine thenR ?_
      skip
      refine fin1 (.int _ _) rfl ?_
      exact ⟨iE (by unfold cmpI; (repeat' split) <;> omega), rfl⟩
    · skip
      refine W_skip ?_
      refine thenN ?_
      refine W_seq ?_
      refine W_region ?_
      refine wl_q (r_assign (.int _ _) rfl) rfl rfl ?_
      refine wl_nil ?_
      refine thenN ?_
      refine W_ret ?_
      skip
      refine fin1 (.int _ _) rfl ?_
      exact ⟨iE (by unfold cmpI; (repeat' split) <;> omega), rfl⟩

end Go.Proofs.YtjbhobahebebkaaDoor
