/- Part of the proof of the laws of this seat: Srt, R6b, Aw, V7, D7, A7. No conditions. -/
import Derived.Test.YtmcddmhkjcgneaaGreatDoorK5
import Derived.Test.YtmcddmhkjcgneaaGreatDoorK6
/- Walks of Go functions over the frame of this claim: what each computes, for every input of the stated types (Srt). -/
set_option linter.unusedVariables false
set_option linter.unusedSimpArgs false
set_option linter.unnecessarySimpa false
namespace Go.Proofs.YtmcddmhkjcgneaaGreatDoor
open Go.Bil
open Go.RowKit (Below)
open Go.Proofs

end Go.Proofs.YtmcddmhkjcgneaaGreatDoor

/- Walks of Go functions over the frame of this claim: what each computes, for every input of the stated types (R6b). -/
set_option linter.unusedVariables false
set_option linter.unusedSimpArgs false
set_option linter.unnecessarySimpa false
namespace Go.Proofs.YtmcddmhkjcgneaaGreatDoor
open Go.Bil
open Go.RowKit (Below)
open Go.Proofs

set_option maxHeartbeats 4000000 in
theorem ref06_Add (w : World) (A : Option Addr) (n c : Nat) (er : Ent) (s : List Body) (hr : RowIs 32 10 A n c (s.map bodyCells) er) (hO : Own [er] w) (b : Body) (hn : s.length ≤ 1048576) :
    Calls Tryz.prog 71 #[.slice A n c, (.agg (bodyCells b).toArray)] w (fun ex w' => ∃ v, ex = .returned v ∧ (fun v w' => ∃ A' n' c' e', v = .tuple #[.slice A' n' c', .int .i64 (addR s b).2] ∧ RowIs 32 10 A' n' c' ((addR s b).1.map bodyCells) e' ∧ Mem w (blks [er]) [e'] w') v w') := by
  have hlen : s.length = n := by simpa using hr.1
  refine calls_of_W #[.tmp 4, .tmp 5] 26 Tryz.func71 rfl Tryz.results71 Tryz.ntmps71 rfl ?_
  have M0 := hO.mem
  refine W_seq ?_
  refine W_region ?_
  refine wl_box (.agg (List.toArray _)) M0 rfl rfl rfl (fun b1 w1 M1 => ?_)
  refine wl_q (r_assign (.slice _ _ _) rfl) rfl rfl ?_
  refine wl_q (r_assign (.int _ _) rfl) rfl rfl ?_
  refine wl_nil ?_
  refine thenN ?_
  refine W_seq ?_
  refine W_region ?_
  refine wl_q (r_ldW 1 agg32 M1 rfl rfl rfl) rfl rfl ?_
  refine wl_cal cal70 rfl rfl rfl ?_
  refine (ref05_Check _ b).mono ?_
  rintro _ w2 ⟨v2, rfl, ⟨rfl, hb2⟩⟩
  refine ⟨_, rfl, ?_⟩
  have M2 := M1.callB hb2
  refine wl_q (r_assign (.int _ _) rfl) rfl rfl ?_
  refine wl_nil ?_
  refine thenN ?_
  refine W_seq ?_
  refine W_seq ?_
  refine W_region ?_
  refine wl_q (r_move (.int _ _) rfl) rfl rfl ?_
  refine wl_q (r_bin (.bool (decide _)) rfl rfl rfl) rfl rfl ?_
  refine wl_nil ?_
  refine thenN ?_
  refine W_condD rfl (fun h10 => ?_) (fun h10 => ?_)
  · skip
    refine W_seq ?_
    refine W_region ?_
    refine wl_q (r_move (.slice _ _ _) rfl) rfl rfl ?_
    refine wl_q (r_move (.int _ _) rfl) rfl rfl ?_
    refine wl_q (r_assign (.slice _ _ _) rfl) rfl rfl ?_
    refine wl_q (r_assign (.int _ _) rfl) rfl rfl ?_
    refine wl_nil ?_
    refine thenN ?_
    refine W_ret ?_
    refine thenR ?_
    skip
    refine fin2 (.slice _ _ _) (.int _ _) rfl rfl ?_
    have ha : addR s b = (s, check b) := by unfold addR; rw [if_pos h10]
    exact ⟨_, _, _, _, by rw [ha], by rw [ha]; exact hr, M2.keep [true, false]⟩
  · skip
    refine W_skip ?_
    refine thenN ?_
    refine W_seq ?_
    refine W_seq ?_
    refine W_region ?_
    refine wl_q (r_move (.slice _ _ _) rfl) rfl rfl ?_
    refine wl_q (r_fieldAddr 0 fld32_0 rfl) rfl rfl ?_
    refine wl_q (r_ld 1 (.int _ _) one30 M2 rfl rfl rfl) rfl rfl ?_
    refine wl_cal cal48 rfl rfl rfl ?_
    refine (ref06_Find _ b.key _ _ _ s (hr.rd M2 (nthMem (i := 0) rfl))).mono ?_
    rintro _ w3 ⟨v3, rfl, ⟨rfl, hb3⟩⟩
    refine ⟨_, rfl, ?_⟩
    have M3 := M2.callB hb3
    refine wl_q (r_bin (.bool (decide _)) rfl rfl rfl) rfl rfl ?_
    refine wl_nil ?_
    refine thenN ?_
    refine W_condD rfl (fun h17 => ?_) (fun h17 => ?_)
    · skip
      refine W_seq ?_
      refine W_region ?_
      refine wl_q (r_move (.slice _ _ _) rfl) rfl rfl ?_
      refine wl_q (r_assign (.slice _ _ _) rfl) rfl rfl ?_
      refine wl_q (r_assign (.int _ _) rfl) rfl rfl ?_
      refine wl_nil ?_
      refine thenN ?_
      refine W_ret ?_
      refine thenR ?_
      skip
      refine fin2 (.slice _ _ _) (.int _ _) rfl rfl ?_
      have ha : addR s b = (s, 10) := by unfold addR; rw [if_neg h10, if_pos (by omega)]
      exact ⟨_, _, _, _, by rw [ha], by rw [ha]; exact hr, M3.keep [true, false]⟩
    · skip
      refine W_skip ?_
      refine thenN ?_
      refine W_seq ?_
      refine W_seq ?_
      refine W_region ?_
      refine wl_q (r_move (.slice _ _ _) rfl) rfl rfl ?_
      refine wl_q (r_lenS Tryz.underlying22 rfl) rfl rfl ?_
      refine wl_q (r_bin (.bool (decide _)) rfl rfl rfl) rfl rfl ?_
      refine wl_nil ?_
      refine thenN ?_
      refine W_condD rfl (fun h21 => ?_) (fun h21 => ?_)
      · skip
        refine W_seq ?_
        refine W_region ?_
        refine wl_q (r_move (.slice _ _ _) rfl) rfl rfl ?_
        refine wl_q (r_assign (.slice _ _ _) rfl) rfl rfl ?_
        refine wl_q (r_assign (.int _ _) rfl) rfl rfl ?_
        refine wl_nil ?_
        refine thenN ?_
        refine W_ret ?_
        refine thenR ?_
        skip
        refine fin2 (.slice _ _ _) (.int _ _) rfl rfl ?_
        have ha : addR s b = (s, 12) := by unfold addR; rw [if_neg h10, if_neg (by omega), if_pos (by omega)]
        exact ⟨_, _, _, _, by rw [ha], by rw [ha]; exact hr, M3.keep [true, false]⟩
      · skip
        refine W_skip ?_
        refine thenN ?_
        refine W_seq ?_
        refine W_region ?_
        refine wl_q (r_move (.slice _ _ _) rfl) rfl rfl ?_
        refine wl_q (r_ldW 1 agg32 M3 rfl rfl rfl) rfl rfl ?_
        refine wl_cal cal86 rfl rfl rfl ?_
        refine (ref06_Put _ b false _ _ _ s (hr.rd M3 (nthMem (i := 0) rfl)) (by omega)).mono ?_
        rintro _ w4 ⟨v4, rfl, ⟨A4, n4, c4, e4, rfl, hR4, hM4⟩⟩
        refine ⟨_, rfl, ?_⟩
        have M4 : Mem _ _ [_, _, _] _ := M3.call0 hM4
        refine wl_q (r_assign (.slice _ _ _) rfl) rfl rfl ?_
        refine wl_q (r_assign (.int _ _) rfl) rfl rfl ?_
        refine wl_nil ?_
        refine thenN ?_
        refine W_ret ?_
        skip
        refine fin2 (.slice _ _ _) (.int _ _) rfl rfl ?_
        have ha : addR s b = (putB s b false, 0) := by unfold addR; rw [if_neg h10, if_neg (by omega), if_neg (by omega)]
        exact ⟨_, _, _, _, by rw [ha], by rw [ha]; exact hR4, M4.keep [false, false, true]⟩

set_option maxHeartbeats 4000000 in
theorem ref06_All (w : World) (A : Option Addr) (n c : Nat) (xs : List Body) (R : Rd w 10 A n (xs.map bodyCells)) (hn : n ≤ 1048576) :
    Calls Tryz.prog 57 #[.slice A n c] w (fun ex w' => ∃ v, ex = .returned v ∧ (fun v w' => ∃ A' n' c' e, v = .slice A' n' c' ∧ RowIs 32 10 A' n' c' ((allR xs).map bodyCells) e ∧ Mem w [] [e] w') v w') := by
  have hlen : xs.length = n := by simpa using R.len
  have hbd := R.bound
  refine calls_of_W #[.tmp 2] 24 Tryz.func57 rfl Tryz.results57 Tryz.ntmps57 rfl ?_
  have M0 := Mem.refl w
  refine W_seq ?_
  refine W_region ?_
  refine wl_q (r_assign (.slice _ _ _) rfl) rfl rfl ?_
  refine wl_nil ?_
  refine thenN ?_
  refine W_seq ?_
  refine W_region ?_
  refine wl_q (r_assign (.slice _ _ _) rfl) rfl rfl ?_
  have M1 := M0.dummy default
  refine wl_nil ?_
  refine thenN ?_
  refine W_seq ?_
  refine W_seq ?_
  refine W_region ?_
  refine wl_q (r_assign (.int _ _) rfl) rfl rfl ?_
  refine wl_nil ?_
  refine thenN ?_
  refine W_block ?_
  refine W_loop (σ := Nat × Row) [0, 2] (fun (k, r) => [(3, .slice r.A r.n r.c), (4, .int .i64 (k : Int))]) (fun (k, r) w' => (k ≤ n ∧ RowIs 32 10 r.A r.n r.c ((allR (xs.take k)).map bodyCells) r.e) ∧ Mem w [] [r.e] w') (fun (k, r) => n - k) (0, ⟨none, 0, 0, (none, default)⟩) (agC rfl (agC rfl agN)) (⟨⟨by omega, RowIs.nil _ _ _⟩, M1⟩) ?_
  rintro ⟨k, r⟩ ρ2 w2 ⟨⟨hk, hr⟩, hM2⟩
  have hal := allR_len (xs.take k)
  have htl := List.length_take_le k xs
  refine W_seq ?_
  refine W_seq ?_
  refine W_region ?_
  refine wl_q (r_move (.int _ _) rfl) rfl rfl ?_
  refine wl_q (r_move (.slice _ _ _) rfl) rfl rfl ?_
  refine wl_q (r_lenS Tryz.underlying22 rfl) rfl rfl ?_
  refine wl_q (r_bin (.bool (decide _)) rfl rfl rfl) rfl rfl ?_
  refine wl_nil ?_
  refine thenN ?_
  refine W_condD rfl (fun h10 => ?_) (fun h10 => ?_)
  · skip
    obtain ⟨xb, hxb⟩ := getSome (k := k) hlen (by omega)
    refine W_skip ?_
    refine thenN ?_
    refine W_seq ?_
    refine W_block ?_
    refine W_seq ?_
    refine W_region ?_
    refine wl_q (r_move (.slice _ _ _) rfl) rfl rfl ?_
    refine wl_q (r_move (.slice _ _ _) rfl) rfl rfl ?_
    refine wl_q (r_move (.int _ _) rfl) rfl rfl ?_
    refine wl_q (r_idxR (k) sl22 rfl rfl rfl ((R.mem hM2).below_len (mapGet bodyCells hxb)) ((R.mem hM2).someK (mapGet bodyCells hxb))) rfl rfl ?_
    refine wl_q (r_ldEA _ agg32 (R.mem hM2) (mapGet bodyCells hxb) rfl) rfl rfl ?_
    refine wl_cal cal71 rfl rfl rfl ?_
    refine (ref06_Add _ _ _ _ _ _ hr (hM2.ownAt (i := 0) rfl) xb (by omega)).mono ?_
    rintro _ w3 ⟨v3, rfl, ⟨A3, n3, c3, e3, rfl, hR3, hM3⟩⟩
    refine ⟨_, rfl, ?_⟩
    have M3 : Mem _ _ [_] _ := hM2.seg 0 1 hM3
    refine wl_q (r_move (.tuple (List.toArray _)) rfl) rfl rfl ?_
    refine wl_q (r_ext (.slice _ _ _) rfl rfl) rfl rfl ?_
    refine wl_q (r_ext (.int _ _) rfl rfl) rfl rfl ?_
    refine wl_q (r_assign (.slice _ _ _) rfl) rfl rfl ?_
    refine wl_q (r_assign (.int _ _) rfl) rfl rfl ?_
    refine wl_nil ?_
    refine thenN ?_
    refine W_region ?_
    refine wl_q (r_move (.slice _ _ _) rfl) rfl rfl ?_
    refine wl_q (r_assign (.slice _ _ _) rfl) rfl rfl ?_
    refine wl_nil ?_
    refine blkN ?_
    refine thenN ?_
    refine W_region ?_
    refine wl_q (r_move (.int _ _) rfl) rfl rfl ?_
    refine wl_q (r_add rfl rfl (by omega) (by omega)) rfl rfl ?_
    refine wl_q (r_assign (.int _ _) rfl) rfl rfl ?_
    refine wl_nil ?_
    refine roundN (k + 1, ⟨A3, n3, c3, e3⟩) (agC rfl (agC rfl agN)) (akC rfl (akC rfl akN)) ?_ ?_
    · exact ⟨⟨by omega, by rw [allR_snoc hxb]; exact hR3⟩, M3⟩
    · (show n - (k + 1) < n - k; omega)
  · skip
    refine W_exit ?_
    refine thenX ?_
    refine roundX ?_
    refine blkH ?_
    refine thenN ?_
    refine W_seq ?_
    refine W_region ?_
    refine wl_q (r_move (.slice _ _ _) rfl) rfl rfl ?_
    refine wl_q (r_assign (.slice _ _ _) rfl) rfl rfl ?_
    refine wl_nil ?_
    refine thenN ?_
    refine W_ret ?_
    skip
    refine fin1 (.slice _ _ _) rfl ?_
    have hkn : k = n := by omega
    subst hkn
    rw [List.take_of_length_le (by omega)] at hr
    exact ⟨_, _, _, _, rfl, hr, hM2⟩

end Go.Proofs.YtmcddmhkjcgneaaGreatDoor

/- Walks of Go functions over the frame of this claim: what each computes, for every input of the stated types (Aw). -/
set_option linter.unusedVariables false
set_option linter.unusedSimpArgs false
set_option linter.unnecessarySimpa false
namespace Go.Proofs.YtmcddmhkjcgneaaGreatDoor
open Go.Bil
open Go.RowKit (Below)
open Go.Proofs

end Go.Proofs.YtmcddmhkjcgneaaGreatDoor

/- Walks of Go functions over the frame of this claim: what each computes, for every input of the stated types (V7). -/
set_option linter.unusedVariables false
set_option linter.unusedSimpArgs false
set_option linter.unnecessarySimpa false
namespace Go.Proofs.YtmcddmhkjcgneaaGreatDoor
open Go.Bil
open Go.RowKit (Below)
open Go.Proofs

set_option maxHeartbeats 4000000 in
theorem ref07_each (w : World) (A : Option Addr) (n c : Nat) (xs : List Body) (R : Rd w 10 A n (xs.map bodyCells)) :
    Calls Tryz.prog 56 #[.slice A n c] w (fun ex w' => ∃ v, ex = .returned v ∧ (fun v w' => v = .int .i64 (eachI xs) ∧ Below w.heap.size w w') v w') := by
  have hlen : xs.length = n := by simpa using R.len
  have hbd := R.bound
  refine calls_of_W #[.tmp 2] 22 Tryz.func56 rfl Tryz.results56 Tryz.ntmps56 rfl ?_
  have M0 := Mem.refl w
  refine W_seq ?_
  refine W_region ?_
  refine wl_q (r_assign (.int _ _) rfl) rfl rfl ?_
  refine wl_nil ?_
  refine thenN ?_
  refine W_seq ?_
  refine W_seq ?_
  refine W_region ?_
  refine wl_q (r_move (.slice _ _ _) rfl) rfl rfl ?_
  refine wl_q (r_lenS Tryz.underlying22 rfl) rfl rfl ?_
  refine wl_q (r_bin (.bool (decide _)) rfl rfl rfl) rfl rfl ?_
  refine wl_nil ?_
  refine thenN ?_
  refine W_condD rfl (fun h7 => ?_) (fun h7 => ?_)
  · skip
    refine W_seq ?_
    refine W_region ?_
    refine wl_q (r_assign (.int _ _) rfl) rfl rfl ?_
    refine wl_nil ?_
    refine thenN ?_
    refine W_ret ?_
    refine thenR ?_
    skip
    refine fin1 (.int _ _) rfl ?_
    exact ⟨iE (by unfold eachI; rw [if_pos (by omega)]), M0.below⟩
  · skip
    refine W_skip ?_
    refine thenN ?_
    refine W_seq ?_
    refine W_seq ?_
    refine W_region ?_
    refine wl_q (r_assign (.int _ _) rfl) rfl rfl ?_
    refine wl_nil ?_
    refine thenN ?_
    refine W_block ?_
    refine W_loop (σ := Nat) [0] (fun k => [(3, .int .i64 (k : Int))]) (fun k w' => (k ≤ n ∧ ∀ (j : Nat) (c : Body), j < k → xs[j]? = some c → check c = 0) ∧ Mem w [] [] w') (fun k => n - k) 0 (agC rfl agN) (⟨⟨by omega, fun j c hj => by omega⟩, M0⟩) ?_
    rintro k ρ1 w1 ⟨⟨hk, hok⟩, hM1⟩
    refine W_seq ?_
    refine W_seq ?_
    refine W_region ?_
    refine wl_q (r_move (.int _ _) rfl) rfl rfl ?_
    refine wl_q (r_move (.slice _ _ _) rfl) rfl rfl ?_
    refine wl_q (r_lenS Tryz.underlying22 rfl) rfl rfl ?_
    refine wl_q (r_bin (.bool (decide _)) rfl rfl rfl) rfl rfl ?_
    refine wl_nil ?_
    refine thenN ?_
    refine W_condD rfl (fun h11 => ?_) (fun h11 => ?_)
    · skip
      obtain ⟨xb, hxb⟩ := getSome (k := k) hlen (by omega)
      refine W_skip ?_
      refine thenN ?_
      refine W_seq ?_
      refine W_block ?_
      refine W_seq ?_
      refine W_region ?_
      refine wl_q (r_move (.slice _ _ _) rfl) rfl rfl ?_
      refine wl_q (r_move (.int _ _) rfl) rfl rfl ?_
      refine wl_q (r_idxR (k) sl22 rfl rfl rfl ((R.mem hM1).below_len (mapGet bodyCells hxb)) ((R.mem hM1).someK (mapGet bodyCells hxb))) rfl rfl ?_
      refine wl_q (r_ldEA _ agg32 (R.mem hM1) (mapGet bodyCells hxb) rfl) rfl rfl ?_
      refine wl_cal cal70 rfl rfl rfl ?_
      refine (ref05_Check _ xb).mono ?_
      rintro _ w2 ⟨v2, rfl, ⟨rfl, hb2⟩⟩
      refine ⟨_, rfl, ?_⟩
      have M2 := hM1.callB hb2
      refine wl_q (r_assign (.int _ _) rfl) rfl rfl ?_
      refine wl_nil ?_
      refine thenN ?_
      refine W_seq ?_
      refine W_region ?_
      refine wl_q (r_move (.int _ _) rfl) rfl rfl ?_
      refine wl_q (r_bin (.bool (decide _)) rfl rfl rfl) rfl rfl ?_
      refine wl_nil ?_
      refine thenN ?_
      refine W_condD rfl (fun h20 => ?_) (fun h20 => ?_)
      · skip
        refine W_seq ?_
        refine W_region ?_
        refine wl_q (r_move (.int _ _) rfl) rfl rfl ?_
        refine wl_q (r_assign (.int _ _) rfl) rfl rfl ?_
        refine wl_nil ?_
        refine thenN ?_
        refine W_ret ?_
        refine blkR ?_
        refine thenR ?_
        refine roundR ?_
        refine blkR ?_
        refine thenR ?_
        skip
        refine fin1 (.int _ _) rfl ?_
        exact ⟨iE (by unfold eachI; rw [if_neg (by omega), firstBad_at hxb h20 hok]), M2.below⟩
      · skip
        refine W_skip ?_
        refine blkN ?_
        refine thenN ?_
        refine W_region ?_
        refine wl_q (r_move (.int _ _) rfl) rfl rfl ?_
        refine wl_q (r_add rfl rfl (by omega) (by omega)) rfl rfl ?_
        refine wl_q (r_assign (.int _ _) rfl) rfl rfl ?_
        refine wl_nil ?_
        refine roundN (k + 1) (agC rfl agN) (akC rfl akN) ?_ ?_
        · exact ⟨⟨by omega, allNext (p := fun _ c => check c = 0) hok hxb (by omega)⟩, M2⟩
        · omega
    · skip
      refine W_exit ?_
      refine thenX ?_
      refine roundX ?_
      refine blkH ?_
      refine thenN ?_
      refine W_seq ?_
      refine W_region ?_
      refine wl_q (r_assign (.int _ _) rfl) rfl rfl ?_
      refine wl_nil ?_
      refine thenN ?_
      refine W_ret ?_
      skip
      refine fin1 (.int _ _) rfl ?_
      exact ⟨iE (by unfold eachI; rw [if_neg (by omega), firstBad_zero (fun j c hj => hok j c (by have := (List.getElem?_eq_some_iff.1 hj).1; omega) hj)]), hM1.below⟩

set_option maxHeartbeats 4000000 in
theorem ref07_Sort (w : World) (A : Option Addr) (n c : Nat) (xs : List Body) (R : Rd w 10 A n (xs.map bodyCells)) (hn : n ≤ 1048576) :
    Calls Tryz.prog 33 #[.slice A n c] w (fun ex w' => ∃ v, ex = .returned v ∧ (fun v w' => ∃ A' n' c' e, v = .tuple #[.slice A' n' c', .int .i64 (sortV xs).2] ∧ RowIs 32 10 A' n' c' ((sortV xs).1.map bodyCells) e ∧ Mem w [] [e] w') v w') := by
  have hlen : xs.length = n := by simpa using R.len
  have hbd := R.bound
  refine calls_of_W #[.tmp 2, .tmp 3] 19 Tryz.func33 rfl Tryz.results33 Tryz.ntmps33 rfl ?_
  have M0 := Mem.refl w
  refine W_seq ?_
  refine W_region ?_
  refine wl_q (r_assign (.slice _ _ _) rfl) rfl rfl ?_
  refine wl_q (r_assign (.int _ _) rfl) rfl rfl ?_
  refine wl_nil ?_
  refine thenN ?_
  refine W_seq ?_
  refine W_region ?_
  refine wl_q (r_move (.slice _ _ _) rfl) rfl rfl ?_
  refine wl_cal cal56 rfl rfl rfl ?_
  refine (ref07_each _ _ _ _ xs (R.mem M0)).mono ?_
  rintro _ w1 ⟨v1, rfl, ⟨rfl, hb1⟩⟩
  refine ⟨_, rfl, ?_⟩
  have M1 := M0.callB hb1
  refine wl_q (r_assign (.int _ _) rfl) rfl rfl ?_
  refine wl_nil ?_
  refine thenN ?_
  refine W_seq ?_
  refine W_seq ?_
  refine W_region ?_
  refine wl_q (r_move (.int _ _) rfl) rfl rfl ?_
  refine wl_q (r_bin (.bool (decide _)) rfl rfl rfl) rfl rfl ?_
  refine wl_nil ?_
  refine thenN ?_
  refine W_condD rfl (fun h9 => ?_) (fun h9 => ?_)
  · skip
    refine W_seq ?_
    refine W_region ?_
    refine wl_q (r_move (.int _ _) rfl) rfl rfl ?_
    refine wl_q (r_assign (.slice _ _ _) rfl) rfl rfl ?_
    refine wl_q (r_assign (.int _ _) rfl) rfl rfl ?_
    refine wl_nil ?_
    refine thenN ?_
    refine W_ret ?_
    refine thenR ?_
    skip
    refine fin2 (.slice _ _ _) (.int _ _) rfl rfl ?_
    have ha : sortV xs = ([], eachI xs) := by unfold sortV; rw [if_pos h9]
    exact ⟨_, _, _, (none, default), by rw [ha], by rw [ha]; exact RowIs.nil _ _ _, (M1.drop).dummy default⟩
  · skip
    have he : eachI xs = 0 := by omega
    obtain ⟨hs1, hs2⟩ := allR_sort he
    refine W_skip ?_
    refine thenN ?_
    refine W_seq ?_
    refine W_region ?_
    refine wl_q (r_move (.slice _ _ _) rfl) rfl rfl ?_
    refine wl_cal cal57 rfl rfl rfl ?_
    refine (ref06_All _ _ _ _ xs (R.mem M1) (by omega)).mono ?_
    rintro _ w2 ⟨v2, rfl, ⟨A2, n2, c2, e2, rfl, hR2, hM2⟩⟩
    refine ⟨_, rfl, ?_⟩
    have M2 : Mem _ _ [_] _ := M1.call0 hM2
    have hlw : (allR xs).length = n2 := by simpa using hR2.1
    refine wl_q (r_assign (.slice _ _ _) rfl) rfl rfl ?_
    refine wl_nil ?_
    refine thenN ?_
    refine W_seq ?_
    refine W_seq ?_
    refine W_region ?_
    refine wl_q (r_move (.slice _ _ _) rfl) rfl rfl ?_
    refine wl_q (r_lenS Tryz.underlying22 rfl) rfl rfl ?_
    refine wl_q (r_move (.slice _ _ _) rfl) rfl rfl ?_
    refine wl_q (r_lenS Tryz.underlying22 rfl) rfl rfl ?_
    refine wl_q (r_bin (.bool (decide _)) rfl rfl rfl) rfl rfl ?_
    refine wl_nil ?_
    refine thenN ?_
    refine W_condD rfl (fun h17 => ?_) (fun h17 => ?_)
    · skip
      refine W_seq ?_
      refine W_region ?_
      refine wl_q (r_assign (.slice _ _ _) rfl) rfl rfl ?_
      refine wl_q (r_assign (.int _ _) rfl) rfl rfl ?_
      refine wl_nil ?_
      refine thenN ?_
      refine W_ret ?_
      refine thenR ?_
      skip
      refine fin2 (.slice _ _ _) (.int _ _) rfl rfl ?_
      have ha : sortV xs = ([], 10) := by unfold sortV; rw [if_neg (by omega), if_neg (hs2.1 (by omega))]
      exact ⟨_, _, _, (none, default), by rw [ha], by rw [ha]; exact RowIs.nil _ _ _, (M2.drop).dummy default⟩
    · skip
      refine W_skip ?_
      refine thenN ?_
      refine W_seq ?_
      refine W_region ?_
      refine wl_q (r_move (.slice _ _ _) rfl) rfl rfl ?_
      refine wl_q (r_assign (.slice _ _ _) rfl) rfl rfl ?_
      refine wl_q (r_assign (.int _ _) rfl) rfl rfl ?_
      refine wl_nil ?_
      refine thenN ?_
      refine W_ret ?_
      skip
      refine fin2 (.slice _ _ _) (.int _ _) rfl rfl ?_
      have hk : Keys xs := Decidable.by_contra fun h => by have := hs2.2 h; omega
      have ha : sortV xs = (sortB xs, 0) := by unfold sortV; rw [if_neg (by omega), if_pos hk]
      rw [hs1 hk] at *
      exact ⟨_, _, _, _, by rw [ha], by rw [ha]; exact hR2, M2⟩

set_option maxHeartbeats 4000000 in
theorem ref07_Keys (w : World) (A : Option Addr) (n c : Nat) (xs : List Int) (R : Rd w 1 A n (xs.map keyCell)) (B : Option Addr) (m c' : Nat) (ys : List Int) (R' : Rd w 1 B m (ys.map keyCell)) :
    Calls Tryz.prog 49 #[.slice A n c, .slice B m c'] w (fun ex w' => ∃ v, ex = .returned v ∧ (fun v w' => v = .bool (decide (xs = ys)) ∧ Below w.heap.size w w') v w') := by
  have hlen : xs.length = n := by simpa using R.len
  have hbd := R.bound
  have hlen' : ys.length = m := by simpa using R'.len
  have hbd' := R'.bound
  refine calls_of_W #[.tmp 4] 26 Tryz.func49 rfl Tryz.results49 Tryz.ntmps49 rfl ?_
  have M0 := Mem.refl w
  refine W_seq ?_
  refine W_region ?_
  refine wl_q (r_assign (.bool false) rfl) rfl rfl ?_
  refine wl_nil ?_
  refine thenN ?_
  refine W_seq ?_
  refine W_seq ?_
  refine W_region ?_
  refine wl_q (r_move (.slice _ _ _) rfl) rfl rfl ?_
  refine wl_q (r_lenS Tryz.underlying52 rfl) rfl rfl ?_
  refine wl_q (r_move (.slice _ _ _) rfl) rfl rfl ?_
  refine wl_q (r_lenS Tryz.underlying52 rfl) rfl rfl ?_
  refine wl_q (r_bin (.bool (decide _)) rfl rfl rfl) rfl rfl ?_
  refine wl_nil ?_
  refine thenN ?_
  refine W_condD rfl (fun h10 => ?_) (fun h10 => ?_)
  · skip
    refine W_seq ?_
    refine W_region ?_
    refine wl_q (r_assign (.bool false) rfl) rfl rfl ?_
    refine wl_nil ?_
    refine thenN ?_
    refine W_ret ?_
    refine thenR ?_
    skip
    refine fin1 (.bool false) rfl ?_
    exact ⟨bF (fun e => h10 (by rw [← hlen, ← hlen', e])), M0.below⟩
  · skip
    have hnm : n = m := by omega
    refine W_skip ?_
    refine thenN ?_
    refine W_seq ?_
    refine W_seq ?_
    refine W_region ?_
    refine wl_q (r_assign (.int _ _) rfl) rfl rfl ?_
    refine wl_nil ?_
    refine thenN ?_
    refine W_block ?_
    refine W_loop (σ := Nat) [0, 1] (fun k => [(5, .int .i64 (k : Int))]) (fun k w' => (k ≤ n ∧ ∀ (j : Nat) (x : Int), j < k → xs[j]? = some x → ys[j]? = some x) ∧ Mem w [] [] w') (fun k => n - k) 0 (agC rfl agN) (⟨⟨by omega, fun j c hj => by omega⟩, M0⟩) ?_
    rintro k ρ1 w1 ⟨⟨hk, hne⟩, hM1⟩
    refine W_seq ?_
    refine W_seq ?_
    refine W_region ?_
    refine wl_q (r_move (.int _ _) rfl) rfl rfl ?_
    refine wl_q (r_move (.slice _ _ _) rfl) rfl rfl ?_
    refine wl_q (r_lenS Tryz.underlying52 rfl) rfl rfl ?_
    refine wl_q (r_bin (.bool (decide _)) rfl rfl rfl) rfl rfl ?_
    refine wl_nil ?_
    refine thenN ?_
    refine W_condD rfl (fun h14 => ?_) (fun h14 => ?_)
    · skip
      obtain ⟨xb, hxb⟩ := getSome (k := k) hlen (by omega)
      obtain ⟨yb, hyb⟩ := getSome (k := k) hlen' (by omega)
      refine W_skip ?_
      refine thenN ?_
      refine W_seq ?_
      refine W_block ?_
      refine W_seq ?_
      refine W_draw [(0, 0), (1, 0), (2, 1), (3, 1), (4, 0), (5, 0), (6, 1), (7, 1), (8, 0)] mixed rfl (by kernel_rfl) (fun w2 hb2 hh2 => ?_)
      have M2 := hM1.drew hb2 hh2
      refine D_p rfl rfl rfl (fun _ => r_move (.slice _ _ _) rfl) ?_
      refine D_p rfl rfl rfl (fun _ => r_move (.int _ _) rfl) ?_
      refine D_r rfl rfl rfl (r_idxR (k) sl52 rfl rfl rfl ((R.mem M2).below_len (mapGet keyCell hxb)) ((R.mem M2).someK (mapGet keyCell hxb))) ?_
      refine D_r rfl rfl rfl (r_ldE0 (.int _ _) one30 (R.mem M2) (mapGet keyCell hxb) rfl) ?_
      refine D_p rfl rfl rfl (fun _ => r_move (.slice _ _ _) rfl) ?_
      refine D_p rfl rfl rfl (fun _ => r_move (.int _ _) rfl) ?_
      refine D_r rfl rfl rfl (r_idxR (k) sl52 rfl rfl rfl ((R'.mem M2).below_len (mapGet keyCell hyb)) ((R'.mem M2).someK (mapGet keyCell hyb))) ?_
      refine D_r rfl rfl rfl (r_ldE0 (.int _ _) one30 (R'.mem M2) (mapGet keyCell hyb) rfl) ?_
      refine D_p rfl rfl rfl (fun _ => r_bin (.bool (decide _)) rfl rfl rfl) ?_
      refine D_nil ?_
      refine thenN ?_
      refine W_condD rfl (fun h25 => ?_) (fun h25 => ?_)
      · skip
        refine W_seq ?_
        refine W_region ?_
        refine wl_q (r_assign (.bool false) rfl) rfl rfl ?_
        refine wl_nil ?_
        refine thenN ?_
        refine W_ret ?_
        refine blkR ?_
        refine thenR ?_
        refine roundR ?_
        refine blkR ?_
        refine thenR ?_
        skip
        refine fin1 (.bool false) rfl ?_
        exact ⟨bF (fun e => h25 (by rw [e] at hxb; rw [hxb] at hyb; injection hyb)), M2.below⟩
      · skip
        refine W_skip ?_
        refine blkN ?_
        refine thenN ?_
        refine W_region ?_
        refine wl_q (r_move (.int _ _) rfl) rfl rfl ?_
        refine wl_q (r_add rfl rfl (by omega) (by omega)) rfl rfl ?_
        refine wl_q (r_assign (.int _ _) rfl) rfl rfl ?_
        refine wl_nil ?_
        refine roundN (k + 1) (agC rfl agN) (akC rfl (akC rfl akN)) ?_ ?_
        · exact ⟨⟨by omega, allNext (p := fun j x => ys[j]? = some x) hne hxb (by rw [hyb, Decidable.not_not.1 h25])⟩, M2⟩
        · omega
    · skip
      refine W_exit ?_
      refine thenX ?_
      refine roundX ?_
      refine blkH ?_
      refine thenN ?_
      refine W_seq ?_
      refine W_region ?_
      refine wl_q (r_assign (.bool true) rfl) rfl rfl ?_
      refine wl_nil ?_
      refine thenN ?_
      refine W_ret ?_
      skip
      refine fin1 (.bool true) rfl ?_
      exact ⟨bT (listSame hlen hlen' hnm (fun j x hj hx => hne j x (by omega) hx)), hM1.below⟩

end Go.Proofs.YtmcddmhkjcgneaaGreatDoor

/- Walks of Go functions over the frame of this claim: what each computes, for every input of the stated types (D7). -/
set_option linter.unusedVariables false
set_option linter.unusedSimpArgs false
set_option linter.unnecessarySimpa false
namespace Go.Proofs.YtmcddmhkjcgneaaGreatDoor
open Go.Bil
open Go.RowKit (Below)
open Go.Proofs

end Go.Proofs.YtmcddmhkjcgneaaGreatDoor

/- Walks of Go functions over the frame of this claim: what each computes, for every input of the stated types (A7). -/
set_option linter.unusedVariables false
set_option linter.unusedSimpArgs false
set_option linter.unnecessarySimpa false
namespace Go.Proofs.YtmcddmhkjcgneaaGreatDoor
open Go.Bil
open Go.RowKit (Below)
open Go.Proofs

set_option maxHeartbeats 4000000 in
theorem slices_IndexK (w : World) (key : Int) (A : Option Addr) (n c : Nat) (xs : List Int) (R : Rd w 1 A n (xs.map keyCell)) :
    Calls Tryz.prog 69 #[.slice A n c, .int .u32 key] w (fun ex w' => ∃ v, ex = .returned v ∧ (fun v w' => (∃ z : Int, v = .int .i64 z ∧ (0 ≤ z ↔ key ∈ xs)) ∧ Below w.heap.size w w') v w') := by
  have hlen : xs.length = n := by simpa using R.len
  have hbd := R.bound
  refine calls_of_W #[.tmp 4] 19 Tryz.func69 rfl Tryz.results69 Tryz.ntmps69 rfl ?_
  have M0 := Mem.refl w
  refine W_seq ?_
  refine W_region ?_
  refine wl_q (r_assign (.int _ _) rfl) rfl rfl ?_
  refine wl_nil ?_
  refine thenN ?_
  refine W_seq ?_
  refine W_seq ?_
  refine W_region ?_
  refine wl_q (r_move (.slice _ _ _) rfl) rfl rfl ?_
  refine wl_q (r_lenS Tryz.underlying52 rfl) rfl rfl ?_
  refine wl_q (r_move (.int _ _) rfl) rfl rfl ?_
  refine wl_nil ?_
  refine thenN ?_
  refine W_block ?_
  refine W_loop (σ := Nat) [0, 1, 7] (fun k => [(8, .int .i64 (k : Int))]) (fun k w' => (k ≤ n ∧ ∀ (j : Nat) (x : Int), j < k → xs[j]? = some x → x ≠ key) ∧ Mem w [] [] w') (fun k => n - k) 0 (agC rfl agN) (⟨⟨by omega, fun j c hj => by omega⟩, M0⟩) ?_
  rintro k ρ1 w1 ⟨⟨hk, hne⟩, hM1⟩
  refine W_seq ?_
  refine W_region ?_
  refine wl_q (r_bin (.bool (decide _)) rfl rfl rfl) rfl rfl ?_
  refine wl_nil ?_
  refine thenN ?_
  refine W_seq ?_
  refine W_condD rfl (fun h9 => ?_) (fun h9 => ?_)
  · skip
    obtain ⟨xk, hxk⟩ := getSome (k := k) hlen (by omega)
    refine W_skip ?_
    refine thenN ?_
    refine W_seq ?_
    refine W_block ?_
    refine W_seq ?_
    refine W_region ?_
    refine wl_q (r_move (.int _ _) rfl) rfl rfl ?_
    refine wl_q (r_assign (.int _ _) rfl) rfl rfl ?_
    refine wl_nil ?_
    refine thenN ?_
    refine W_seq ?_
    refine W_region ?_
    refine wl_q (r_move (.int _ _) rfl) rfl rfl ?_
    refine wl_q (r_move (.slice _ _ _) rfl) rfl rfl ?_
    refine wl_q (r_move (.int _ _) rfl) rfl rfl ?_
    refine wl_q (r_idxR (k) sl52 rfl rfl rfl ((R.mem hM1).below_len (mapGet keyCell hxk)) ((R.mem hM1).someK (mapGet keyCell hxk))) rfl rfl ?_
    refine wl_q (r_ldE0 (.int _ _) one30 (R.mem hM1) (mapGet keyCell hxk) rfl) rfl rfl ?_
    refine wl_q (r_bin (.bool (decide _)) rfl rfl rfl) rfl rfl ?_
    refine wl_nil ?_
    refine thenN ?_
    refine W_condD rfl (fun h16 => ?_) (fun h16 => ?_)
    · skip
      refine W_seq ?_
      refine W_region ?_
      refine wl_q (r_move (.int _ _) rfl) rfl rfl ?_
      refine wl_q (r_assign (.int _ _) rfl) rfl rfl ?_
      refine wl_nil ?_
      refine thenN ?_
      refine W_ret ?_
      refine blkR ?_
      refine thenR ?_
      refine roundR ?_
      refine blkR ?_
      refine thenR ?_
      skip
      refine fin1 (.int _ _) rfl ?_
      exact ⟨⟨_, rfl, fun _ => by rw [h16]; exact List.mem_of_getElem? hxk, fun _ => by omega⟩, hM1.below⟩
    · skip
      refine W_skip ?_
      refine blkN ?_
      refine thenN ?_
      refine W_region ?_
      refine wl_q (r_add rfl rfl (by omega) (by omega)) rfl rfl ?_
      refine wl_q (r_move (.int _ _) rfl) rfl rfl ?_
      refine wl_nil ?_
      refine roundN (k + 1) (agC rfl agN) (akC rfl (akC rfl (akC rfl akN))) ?_ ?_
      · exact ⟨⟨by omega, allNext (p := fun _ x => x ≠ key) hne hxk (fun e => h16 e.symm)⟩, hM1⟩
      · omega
  · skip
    refine W_exit ?_
    refine thenX ?_
    refine roundX ?_
    refine blkH ?_
    refine thenN ?_
    refine W_seq ?_
    refine W_region ?_
    refine wl_q (r_assign (.int _ _) rfl) rfl rfl ?_
    refine wl_nil ?_
    refine thenN ?_
    refine W_ret ?_
    skip
    refine fin1 (.int _ _) rfl ?_
    exact ⟨⟨_, rfl, fun h => by omega, fun h => by obtain ⟨j, hj⟩ := List.getElem?_of_mem h; exact absurd rfl (hne j key (by have := (List.getElem?_eq_some_iff.1 hj).1; omega) hj)⟩, hM1.below⟩

set_option maxHeartbeats 4000000 in
theorem slices_ContainsK (w : World) (key : Int) (A : Option Addr) (n c : Nat) (xs : List Int) (R : Rd w 1 A n (xs.map keyCell)) :
    Calls Tryz.prog 55 #[.slice A n c, .int .u32 key] w (fun ex w' => ∃ v, ex = .returned v ∧ (fun v w' => v = .bool (decide (key ∈ xs)) ∧ Below w.heap.size w w') v w') := by
  refine calls_of_W #[.tmp 4] 9 Tryz.func55 rfl Tryz.results55 Tryz.ntmps55 rfl ?_
  have M0 := Mem.refl w
  refine W_seq ?_
  refine W_region ?_
  refine wl_q (r_assign (.bool false) rfl) rfl rfl ?_
  refine wl_nil ?_
  refine thenN ?_
  refine W_seq ?_
  refine W_region ?_
  refine wl_q (r_move (.slice _ _ _) rfl) rfl rfl ?_
  refine wl_q (r_move (.int _ _) rfl) rfl rfl ?_
  refine wl_cal cal69 rfl rfl rfl ?_
  refine (slices_IndexK _ key _ _ _ xs (R.mem M0)).mono ?_
  rintro _ w1 ⟨v1, rfl, ⟨⟨z1, rfl, hz⟩, hb1⟩⟩
  refine ⟨_, rfl, ?_⟩
  have M1 := M0.callB hb1
  refine wl_q (r_bin (.bool (decide _)) rfl rfl rfl) rfl rfl ?_
  refine wl_q (r_assign (.bool (decide _)) rfl) rfl rfl ?_
  refine wl_nil ?_
  refine thenN ?_
  refine W_ret ?_
  skip
  refine fin1 (.bool (decide _)) rfl ?_
  exact ⟨bD hz, M1.below⟩

end Go.Proofs.YtmcddmhkjcgneaaGreatDoor
