/- Part of the proof of the laws of this seat: S10d. No conditions. -/
import Derived.Test.YtjbhobahebebkaaDoorK5
import Derived.Test.YtjbhobahebebkaaDoorK21
import Derived.Test.YtjbhobahebebkaaDoorK22
/- Walks of Go functions over the frame of this claim: what each computes, for every input of the stated types (S10d). -/
set_option linter.unusedVariables false
set_option linter.unusedSimpArgs false
set_option linter.unnecessarySimpa false
namespace Go.Proofs.YtjbhobahebebkaaDoor
open Go.Bil
open Go.RowKit (Below)
open Go.Proofs

open Go.Sort (swp ltInt)
/-- The walk of pdqsort over at most N elements. -/
def PdqW (N : Nat) : Prop := ∀ (w : World) (A : Option Addr) (n c : Nat) (d : AI) (e : Ent), RowIs 42 1 A n c ((d).toList.map keyCell) e → Own [e] w → ∀ a b l : Nat, a ≤ b → b ≤ n → n < 50 → l ≤ 64 → b - a ≤ N →
  Calls Tryd.prog 47 #[.slice A n c, .int .i64 (a : Int), .int .i64 (b : Int), .int .i64 (l : Int)] w (fun ex w' => ∃ v, ex = .returned v ∧ v = .tuple #[] ∧ ∃ e', RowIs 42 1 A n c ((Go.Sort.pdq ltInt d a b l true true).toList.map keyCell) e' ∧ Mem w (blks [e]) [e'] w')

set_option maxHeartbeats 16000000 in
theorem sort_pdq_step (N : Nat) (IH : ∀ M, M < N → PdqW M) (w : World) (A : Option Addr) (n c : Nat) (d : AI) (e : Ent) (hR : RowIs 42 1 A n c ((d).toList.map keyCell) e) (hO : Own [e] w) (a b l : Nat) (hab : a ≤ b) (hb : b ≤ n) (hn50 : n < 50) (hl : l ≤ 64) (hbN : b - a ≤ N) :
    Calls Tryd.prog 47 #[.slice A n c, .int .i64 (a : Int), .int .i64 (b : Int), .int .i64 (l : Int)] w (fun ex w' => ∃ v, ex = .returned v ∧ (fun v w' => v = .tuple #[] ∧ ∃ e', RowIs 42 1 A n c ((Go.Sort.pdq ltInt (d) (a) (b) (l) (true) (true)).toList.map keyCell) e' ∧ Mem w (blks [e]) [e'] w') v w') := by
  have hdn : d.size = n := by simpa using hR.1
  have hnb := hR.2.2.1
  refine calls_of_W #[] 134 Tryd.func47 rfl Tryd.results47 Tryd.ntmps47 rfl ?_
  have M0 := hO.mem
  refine W_seq ?_
  refine W_region ?_
  refine wl_q (r_assign (.bool true) rfl) rfl rfl ?_
  refine wl_nil ?_
  refine thenN ?_
  refine W_seq ?_
  refine W_region ?_
  refine wl_q (r_assign (.bool true) rfl) rfl rfl ?_
  refine wl_nil ?_
  refine thenN ?_
  refine W_block ?_
  refine W_loop (σ := Nat × Nat × Nat × Bool × Bool × AI × Ent) [0] (fun (x, y, l1, wb, wp, d1, e1) => [(1, .int .i64 (x : Int)), (2, .int .i64 (y : Int)), (3, .int .i64 (l1 : Int)), (8, .bool wb), (9, .bool wp)]) (fun (x, y, l1, wb, wp, d1, e1) w' => (x ≤ y ∧ y ≤ n ∧ l1 ≤ 64 ∧ y - x ≤ N ∧ Go.Sort.pdq ltInt (d1) (x) (y) (l1) (wb) (wp) = Go.Sort.pdq ltInt (d) (a) (b) (l) (true) (true) ∧ RowIs 42 1 A n c ((d1).toList.map keyCell) e1) ∧ Mem w (blks [e]) [e1] w') (fun (x, y, l1, wb, wp, d1, e1) => y - x) (a, b, l, true, true, d, e) (agC rfl (agC rfl (agC rfl (agC rfl (agC rfl agN))))) (⟨⟨by omega, by omega, by omega, by omega, rfl, hR⟩, M0⟩) ?_
  rintro ⟨x, y, l1, wb, wp, d1, e1⟩ ρ1 w1 ⟨⟨hxy, hyn, hl1, hN, hT, hR1⟩, hM1⟩
  have hs1 : d1.size = n := by simpa using hR1.1
  refine W_block ?_
  refine W_seq ?_
  refine W_region ?_
  refine wl_q (r_move (.int _ _) rfl) rfl rfl ?_
  refine wl_q (r_move (.int _ _) rfl) rfl rfl ?_
  refine wl_q (r_sub rfl rfl (by omega) (by omega)) rfl rfl ?_
  refine wl_re 21 (.int .i64 ((y - x : Nat) : Int)) (iE (by omega)) ?_
  refine wl_q (r_assign (.int _ _) rfl) rfl rfl ?_
  refine wl_nil ?_
  refine thenN ?_
  refine W_seq ?_
  refine W_seq ?_
  refine W_region ?_
  refine wl_q (r_move (.int _ _) rfl) rfl rfl ?_
  refine wl_q (r_bin (.bool (decide _)) rfl rfl rfl) rfl rfl ?_
  refine wl_nil ?_
  refine thenN ?_
  refine W_condD rfl (fun h23 => ?_) (fun h23 => ?_)
  · skip
    refine W_seq ?_
    refine W_region ?_
    refine wl_q (r_move (.slice _ _ _) rfl) rfl rfl ?_
    refine wl_q (r_move (.int _ _) rfl) rfl rfl ?_
    refine wl_q (r_move (.int _ _) rfl) rfl rfl ?_
    refine wl_cal cal55 rfl rfl rfl ?_
    refine (sort_ins _ A n c d1 e1 hR1 (hM1.ownAt (i := 0) rfl) x y (by omega) (by omega)).mono ?_
    rintro _ w2 ⟨v2, rfl, ⟨rfl, e2, hR2, hM2⟩⟩
    refine ⟨_, rfl, ?_⟩
    have M2 : Mem _ _ [_] _ := hM1.seg 0 1 hM2
    refine wl_nil ?_
    refine thenN ?_
    refine W_ret ?_
    refine thenR ?_
    refine blkR ?_
    refine roundR ?_
    refine blkR ?_
    skip
    refine fin0 ?_
    exact ⟨rfl, e2, by rw [← hT, pdq_small (by omega)]; exact hR2, M2⟩
  · skip
    refine W_skip ?_
    refine thenN ?_
    refine W_seq ?_
    refine W_seq ?_
    refine W_region ?_
    refine wl_q (r_move (.int _ _) rfl) rfl rfl ?_
    refine wl_q (r_bin (.bool (decide _)) rfl rfl rfl) rfl rfl ?_
    refine wl_nil ?_
    refine thenN ?_
    refine W_condD rfl (fun h29 => ?_) (fun h29 => ?_)
    · skip
      refine W_seq ?_
      refine W_region ?_
      refine wl_q (r_move (.slice _ _ _) rfl) rfl rfl ?_
      refine wl_q (r_move (.int _ _) rfl) rfl rfl ?_
      refine wl_q (r_move (.int _ _) rfl) rfl rfl ?_
      refine wl_cal cal56 rfl rfl rfl ?_
      refine (sort_heap _ A n c d1 e1 hR1 (hM1.ownAt (i := 0) rfl) x y (by omega) (by omega)).mono ?_
      rintro _ w3 ⟨v3, rfl, ⟨rfl, e3, hR3, hM3⟩⟩
      refine ⟨_, rfl, ?_⟩
      have M3 : Mem _ _ [_] _ := hM1.seg 0 1 hM3
      refine wl_nil ?_
      refine thenN ?_
      refine W_ret ?_
      refine thenR ?_
      refine blkR ?_
      refine roundR ?_
      refine blkR ?_
      skip
      refine fin0 ?_
      exact ⟨rfl, e3, by rw [← hT, pdq_heap (by omega) (by omega)]; exact hR3, M3⟩
    · skip
      refine W_skip ?_
      refine thenN ?_
      refine W_seq ?_
      refine W_seq ?_
      refine W_region ?_
      refine wl_q (r_move (.bool _) rfl) rfl rfl ?_
      refine wl_q (r_notB _ rfl rfl) rfl rfl ?_
      refine wl_nil ?_
      refine thenN ?_
      refine W_meetC (σ := Nat × AI × Ent) [0, 1, 2, 8, 9, 10] (fun (l2, d2, e2) => [(3, .int .i64 (l2 : Int))]) (fun (l2, d2, e2) w' => (l2 ≤ 64 ∧ l2 = (if (!wb) = true then l1 - 1 else l1) ∧ d2 = (if (!wb) = true then Go.Sort.breakPatterns d1 x y else d1) ∧ RowIs 42 1 A n c ((d2).toList.map keyCell) e2) ∧ Mem w (blks [e]) [e2] w') ?_ ?_
      · skip
        refine W_cond _ rfl (fun h35 => ?_) (fun h35 => ?_)
        · skip
          refine W_seq ?_
          refine W_region ?_
          refine wl_q (r_move (.slice _ _ _) rfl) rfl rfl ?_
          refine wl_q (r_move (.int _ _) rfl) rfl rfl ?_
          refine wl_q (r_move (.int _ _) rfl) rfl rfl ?_
          refine wl_cal cal57 rfl rfl rfl ?_
          refine (sort_brk _ A n c d1 e1 hR1 (hM1.ownAt (i := 0) rfl) x y (by omega) (by omega) (by omega)).mono ?_
          rintro _ w5 ⟨v5, rfl, ⟨rfl, e5, hR5, hM5⟩⟩
          refine ⟨_, rfl, ?_⟩
          have M5 : Mem _ _ [_] _ := hM1.seg 0 1 hM5
          refine wl_nil ?_
          refine thenN ?_
          refine W_region ?_
          refine wl_q (r_move (.int _ _) rfl) rfl rfl ?_
          refine wl_q (r_sub rfl rfl (by omega) (by omega)) rfl rfl ?_
          refine wl_re 41 (.int .i64 ((l1 - 1 : Nat) : Int)) (iE (by omega)) ?_
          refine wl_q (r_assign (.int _ _) rfl) rfl rfl ?_
          refine wl_nil ?_
          refine meetN (l1 - 1, Go.Sort.breakPatterns d1 x y, e5) (agC rfl agN) (akC rfl (akC rfl (akC rfl (akC rfl (akC rfl (akC rfl akN)))))) ?_
          exact ⟨⟨by omega, by rw [if_pos h35], by rw [if_pos h35], hR5⟩, M5⟩
        · skip
          refine W_skip ?_
          refine meetN (l1, d1, e1) (agC rfl agN) (akC rfl (akC rfl (akC rfl (akC rfl (akC rfl (akC rfl akN)))))) ?_
          exact ⟨⟨by omega, by rw [if_neg (by rw [h35]; decide)], by rw [if_neg (by rw [h35]; decide)], hR1⟩, hM1⟩
      · skip
        rintro ⟨l2, d2, e2⟩ ρ4 w4 ⟨⟨hl2, hle, hde, hR2⟩, hM4⟩
        have hs2 : d2.size = n := by simpa using hR2.1
        refine W_seq ?_
        refine W_region ?_
        refine wl_q (r_move (.slice _ _ _) rfl) rfl rfl ?_
        refine wl_q (r_move (.int _ _) rfl) rfl rfl ?_
        refine wl_q (r_move (.int _ _) rfl) rfl rfl ?_
        refine wl_cal cal58 rfl rfl rfl ?_
        refine (sort_piv _ A n c d2 e2 hR2 (hM4.ownAt (i := 0) rfl) x y (by omega) (by omega) (by omega)).mono ?_
        rintro _ w6 ⟨v6, rfl, ⟨rfl, hM6⟩⟩
        refine ⟨_, rfl, ?_⟩
        have M6 : Mem _ _ [_] _ := hM4.seg 0 1 hM6
        have hpr := Go.Sort.choosePivot_holds ltInt d2 x y (by omega)
        have hpq := pdq_round (d := d1) (a := x) (b := y) (l := l1) (wb := wb) (wp := wp) (by omega) (by omega)
        rw [← hle, ← hde] at hpq
        obtain ⟨p1, hint, hcv⟩ : ∃ p1 hint, Go.Sort.choosePivot ltInt d2 x y = (p1, hint) := ⟨_, _, rfl⟩
        rw [hcv] at hpr hpq
        refine wl_q (r_move (.tuple (List.toArray _)) rfl) rfl rfl ?_
        refine wl_q (r_ext (.int _ _) rfl rfl) rfl rfl ?_
        refine wl_re 47 (.int .i64 (p1 : Int)) (iE (by rw [hcv])) ?_
        refine wl_q (r_ext (.int _ _) rfl rfl) rfl rfl ?_
        refine wl_re 48 (.int .i64 (hintI hint)) (iE (by rw [hcv])) ?_
        refine wl_q (r_assign (.int _ _) rfl) rfl rfl ?_
        refine wl_q (r_assign (.int _ _) rfl) rfl rfl ?_
        refine wl_nil ?_
        refine thenN ?_
        refine W_seq ?_
        refine W_seq ?_
        refine W_region ?_
        refine wl_q (r_move (.int _ _) rfl) rfl rfl ?_
        refine wl_q (r_bin (.bool (decide _)) rfl rfl rfl) rfl rfl ?_
        refine wl_nil ?_
        refine thenN ?_
        refine W_meetC (σ := Nat × Go.Sort.Hint × AI × Ent) [0, 1, 2, 3, 8, 9, 10] (fun (p2, hint2, d3, e3) => [(11, .int .i64 (p2 : Int)), (12, .int .i64 (hintI hint2))]) (fun (p2, hint2, d3, e3) w' => ((x ≤ p2 ∧ p2 < y) ∧ hint2 ≠ .decreasing ∧ pdqP d2 x y l2 wb wp (p1, hint) = pdqP d3 x y l2 wb wp (p2, hint2) ∧ RowIs 42 1 A n c ((d3).toList.map keyCell) e3) ∧ Mem w (blks [e]) [e3] w') ?_ ?_
        · skip
          refine W_condD rfl (fun h50 => ?_) (fun h50 => ?_)
          · skip
            refine W_seq ?_
            refine W_region ?_
            refine wl_q (r_move (.slice _ _ _) rfl) rfl rfl ?_
            refine wl_q (r_move (.int _ _) rfl) rfl rfl ?_
            refine wl_q (r_move (.int _ _) rfl) rfl rfl ?_
            refine wl_cal cal59 rfl rfl rfl ?_
            refine (sort_rev _ A n c d2 e2 hR2 (M6.ownAt (i := 0) rfl) x y (by omega) (by omega)).mono ?_
            rintro _ w8 ⟨v8, rfl, ⟨rfl, e8, hR8, hM8⟩⟩
            refine ⟨_, rfl, ?_⟩
            have M8 : Mem _ _ [_] _ := M6.seg 0 1 hM8
            refine wl_nil ?_
            refine thenN ?_
            refine W_seq ?_
            refine W_region ?_
            refine wl_q (r_move (.int _ _) rfl) rfl rfl ?_
            refine wl_q (r_sub rfl rfl (by omega) (by omega)) rfl rfl ?_
            refine wl_re 56 (.int .i64 ((y - 1 : Nat) : Int)) (iE (by omega)) ?_
            refine wl_q (r_move (.int _ _) rfl) rfl rfl ?_
            refine wl_q (r_move (.int _ _) rfl) rfl rfl ?_
            refine wl_q (r_sub rfl rfl (by omega) (by omega)) rfl rfl ?_
            refine wl_re 59 (.int .i64 ((p1 - x : Nat) : Int)) (iE (by omega)) ?_
            refine wl_q (r_sub rfl rfl (by omega) (by omega)) rfl rfl ?_
            refine wl_re 60 (.int .i64 ((y - 1 - (p1 - x) : Nat) : Int)) (iE (by omega)) ?_
            refine wl_q (r_assign (.int _ _) rfl) rfl rfl ?_
            refine wl_nil ?_
            refine thenN ?_
            refine W_region ?_
            refine wl_q (r_assign (.int _ _) rfl) rfl rfl ?_
            refine wl_nil ?_
            refine meetN ((y - 1) - (p1 - x), .increasing, Go.Sort.reverseRange d2 x y, e8) (agC (iE (by omega)) (agC (iE rfl) agN)) (akC rfl (akC rfl (akC rfl (akC rfl (akC rfl (akC rfl (akC rfl akN))))))) ?_
            exact ⟨⟨by omega, by simp, by rw [hint_dec.1 h50]; exact pdqP_rev, hR8⟩, M8⟩
          · skip
            refine W_skip ?_
            refine meetN (p1, hint, d2, e2) (agC rfl (agC rfl agN)) (akC rfl (akC rfl (akC rfl (akC rfl (akC rfl (akC rfl (akC rfl akN))))))) ?_
            exact ⟨⟨by omega, fun h => h50 (hint_dec.2 h), rfl, hR2⟩, M6⟩
        · skip
          rintro ⟨p2, hint2, d3, e3⟩ ρ7 w7 ⟨⟨hp2, hnd, hPP, hR3⟩, hM7⟩
          have hs3 : d3.size = n := by simpa using hR3.1
          refine W_seq ?_
          refine W_meet (σ := Bool) [0, 1, 2, 3, 8, 9, 10, 11] (fun z => [(68, .bool z)]) (fun z w' => z = (wb && wp && decide (hint2 = .increasing)) ∧ Mem w (blks [e]) [e3] w') ?_ ?_
          · skip
            refine W_region ?_
            refine wl_q (r_move (.bool _) rfl) rfl rfl ?_
            refine wl_q (r_move (.bool _) rfl) rfl rfl ?_
            refine wl_split 62 _ rfl (fun g62 => ?_) (fun g62 => ?_)
            · skip
              refine wl_q (r_move (.bool _) rfl) rfl rfl ?_
              refine wl_q (r_pick true (.bool _) rfl rfl) rfl rfl ?_
              refine wl_q (r_move (.bool _) rfl) rfl rfl ?_
              refine wl_split 65 _ rfl (fun g65 => ?_) (fun g65 => ?_)
              · skip
                refine wl_q (r_move (.int _ _) rfl) rfl rfl ?_
                refine wl_q (r_bin (.bool (decide _)) rfl rfl rfl) rfl rfl ?_
                refine wl_q (r_pick true (.bool (decide _)) rfl rfl) rfl rfl ?_
                refine wl_nil ?_
                refine meetN (decide (hintI hint2 = 1)) (agC rfl agN) (akC rfl (akC rfl (akC rfl (akC rfl (akC rfl (akC rfl (akC rfl (akC rfl akN)))))))) ?_
                exact ⟨by rw [g62, g65]; simp [hint_inc], hM7⟩
              · skip
                refine wl_skip rfl rfl ?_
                refine wl_skip rfl rfl ?_
                refine wl_q (r_pick false (.bool false) rfl rfl) rfl rfl ?_
                refine wl_nil ?_
                refine meetN false (agC rfl agN) (akC rfl (akC rfl (akC rfl (akC rfl (akC rfl (akC rfl (akC rfl (akC rfl akN)))))))) ?_
                exact ⟨by rw [g62, g65]; rfl, hM7⟩
            · skip
              refine wl_skip rfl rfl ?_
              refine wl_q (r_pick false (.bool false) rfl rfl) rfl rfl ?_
              refine wl_q (r_move (.bool false) rfl) rfl rfl ?_
              refine wl_skip rfl rfl ?_
              refine wl_skip rfl rfl ?_
              refine wl_q (r_pick false (.bool false) rfl rfl) rfl rfl ?_
              refine wl_nil ?_
              refine meetN false (agC rfl agN) (akC rfl (akC rfl (akC rfl (akC rfl (akC rfl (akC rfl (akC rfl (akC rfl akN)))))))) ?_
              exact ⟨by rw [g62]; rfl, hM7⟩
          · skip
            rintro z ρ9 w9 ⟨hz, hM9⟩
            refine W_meetC (σ := Unit) [0, 1, 2, 3, 8, 9, 10, 11] (fun _ => []) (fun _ w' => pdqP d3 x y l2 wb wp (p2, hint2) = pdqR d3 false x y p2 l2 wb wp ∧ Mem w (blks [e]) [e3] w') ?_ ?_
            · skip
              refine W_cond _ rfl (fun h68 => ?_) (fun h68 => ?_)
              · skip
                have hz2 := hz.symm.trans h68
                have hbp : (wb && wp) = true := ((Bool.and_eq_true _ _).mp hz2).1
                have hin : hint2 = .increasing := of_decide_eq_true ((Bool.and_eq_true _ _).mp hz2).2
                refine W_seq ?_
                refine W_region ?_
                refine wl_q (r_move (.slice _ _ _) rfl) rfl rfl ?_
                refine wl_q (r_move (.int _ _) rfl) rfl rfl ?_
                refine wl_q (r_move (.int _ _) rfl) rfl rfl ?_
                refine wl_cal cal60 rfl rfl rfl ?_
                refine (sort_partial _ A n c d3 e3 hR3 (hM9.ownAt (i := 0) rfl) x y (by omega) (by omega) (by omega)).mono ?_
                rintro _ w11 ⟨v11, rfl, ⟨rfl, hM11⟩⟩
                refine ⟨_, rfl, ?_⟩
                have M11 : Mem _ _ [_] _ := hM9.seg 0 1 hM11
                refine wl_nil ?_
                refine thenN ?_
                refine W_condD rfl (fun h72 => ?_) (fun h72 => ?_)
                · skip
                  refine W_ret ?_
                  refine meetR ?_
                  refine blkR ?_
                  refine roundR ?_
                  refine blkR ?_
                  skip
                  refine fin0 ?_
                  exact ⟨rfl, e3, by rw [← hT, hpq, hPP, hin, pdqP_try hbp (partial_few rfl (by omega)), decide_eq_true h72]; exact hR3, M11⟩
                · skip
                  refine W_skip ?_
                  refine meetN () agN (akC rfl (akC rfl (akC rfl (akC rfl (akC rfl (akC rfl (akC rfl (akC rfl akN)))))))) ?_
                  exact ⟨by rw [hin]; exact (pdqP_try hbp (partial_few rfl (by omega))).trans (by rw [decide_eq_false h72]), M11⟩
              · skip
                refine W_skip ?_
                refine meetN () agN (akC rfl (akC rfl (akC rfl (akC rfl (akC rfl (akC rfl (akC rfl (akC rfl akN)))))))) ?_
                exact ⟨pdqP_not hnd (fun h => by rw [hz, h.1, h.2] at h68; cases h68), hM9⟩
            · skip
              rintro _ ρ10 w10 ⟨hPR, hM10⟩
              have hRR : Go.Sort.pdq ltInt (d1) (x) (y) (l1) (wb) (wp) = pdqR d3 false x y p2 l2 wb wp := hpq.trans (hPP.trans hPR)
              refine W_seq ?_
              refine W_seq ?_
              refine W_draw [(0, 0), (1, 0), (2, 0), (3, 0), (4, 0), (5, 0), (6, 1), (7, 1), (8, 0), (9, 0), (10, 1), (11, 1), (12, 2), (13, 0), (14, 0)] mixed rfl (by kernel_rfl) (fun w12 hb12 hh12 => ?_)
              have M12 := hM10.drew hb12 hh12
              refine D_p rfl rfl rfl (fun _ => r_move (.int _ _) rfl) ?_
              refine D_p rfl rfl rfl (fun _ => r_bin (.bool (decide _)) rfl rfl rfl) ?_
              refine D_p rfl rfl rfl (fun _ => r_move (.bool (decide _)) rfl) ?_
              refine D_splitD 75 rfl (fun g75 => ?_) (fun g75 => ?_)
              · skip
                refine D_p rfl rfl rfl (fun _ => r_move (.slice _ _ _) rfl) ?_
                refine D_p rfl rfl rfl (fun _ => r_move (.int _ _) rfl) ?_
                refine D_p rfl rfl rfl (fun _ => r_sub rfl rfl (by omega) (by omega)) ?_
                refine D_re 78 (.int .i64 ((x - 1 : Nat) : Int)) (iE (by omega)) ?_
                refine D_r rfl rfl rfl (r_idxR ((x - 1)) sl27 rfl rfl rfl ((hR3.rd M12 (nthMem (i := 0) rfl)).below_len (mapGet keyCell (dget (d := d3) (i := x - 1) (by omega)))) ((hR3.rd M12 (nthMem (i := 0) rfl)).someK (mapGet keyCell (dget (d := d3) (i := x - 1) (by omega))))) ?_
                refine D_r rfl rfl rfl (r_ldE0 (.int _ _) one42 (hR3.rd M12 (nthMem (i := 0) rfl)) (mapGet keyCell (dget (d := d3) (i := x - 1) (by omega))) rfl) ?_
                refine D_p rfl rfl rfl (fun _ => r_move (.slice _ _ _) rfl) ?_
                refine D_p rfl rfl rfl (fun _ => r_move (.int _ _) rfl) ?_
                refine D_r rfl rfl rfl (r_idxR ((p2)) sl27 rfl rfl rfl ((hR3.rd M12 (nthMem (i := 0) rfl)).below_len (mapGet keyCell (dget (d := d3) (i := p2) (by omega)))) ((hR3.rd M12 (nthMem (i := 0) rfl)).someK (mapGet keyCell (dget (d := d3) (i := p2) (by omega))))) ?_
                refine D_r rfl rfl rfl (r_ldE0 (.int _ _) one42 (hR3.rd M12 (nthMem (i := 0) rfl)) (mapGet keyCell (dget (d := d3) (i := p2) (by omega))) rfl) ?_
                refine D_e [true, true, true, true] rfl (by kernel_rfl) ?_
                refine wl_cal cal61 rfl rfl rfl ?_
                refine (cmp_Less32 _ _ _).mono ?_
                rintro _ w13 ⟨v13, rfl, ⟨rfl, hb13⟩⟩
                refine ⟨_, rfl, ?_⟩
                have M13 := M12.callB hb13
                refine wl_nil (thenN ⟨alN, ?_⟩)
                refine D_p rfl rfl rfl (fun _ => r_not rfl) ?_
                refine D_p rfl rfl rfl (fun _ => r_pick true (.bool (decide _)) rfl rfl) ?_
                refine D_nil ?_
                refine thenN ?_
                refine W_condD rfl (fun h87 => ?_) (fun h87 => ?_)
                · skip
                  refine W_seq ?_
                  refine W_region ?_
                  refine wl_q (r_move (.slice _ _ _) rfl) rfl rfl ?_
                  refine wl_q (r_move (.int _ _) rfl) rfl rfl ?_
                  refine wl_q (r_move (.int _ _) rfl) rfl rfl ?_
                  refine wl_q (r_move (.int _ _) rfl) rfl rfl ?_
                  refine wl_cal cal62 rfl rfl rfl ?_
                  refine (sort_parteq _ A n c d3 e3 hR3 (M13.ownAt (i := 0) rfl) x y p2 (by omega) (by omega) (by omega) (by omega)).mono ?_
                  rintro _ w14 ⟨v14, rfl, ⟨e14, rfl, hmid, hR14, hM14⟩⟩
                  refine ⟨_, rfl, ?_⟩
                  have M14 : Mem _ _ [_] _ := M13.seg 0 1 hM14
                  refine wl_q (r_assign (.int _ _) rfl) rfl rfl ?_
                  refine wl_nil ?_
                  refine thenN ?_
                  refine W_seq ?_
                  refine W_region ?_
                  refine wl_q (r_move (.int _ _) rfl) rfl rfl ?_
                  refine wl_q (r_assign (.int _ _) rfl) rfl rfl ?_
                  refine wl_nil ?_
                  refine thenN ?_
                  refine W_exit ?_
                  refine thenX ?_
                  refine blkH ?_
                  have hfin := pdqR_eq (d3 := d3) (a := x) (b := y) (p := p2) (l := l2) (wb := wb) (wp := wp) (by omega) h87 (show Go.Sort.partitionEqual ltInt d3 x y p2 = ((Go.Sort.partitionEqual ltInt d3 x y p2).1, (Go.Sort.partitionEqual ltInt d3 x y p2).2) from rfl) ⟨by omega, by omega⟩
                  refine roundN ((Go.Sort.partitionEqual ltInt d3 x y p2).1, y, l2, wb, wp, (Go.Sort.partitionEqual ltInt d3 x y p2).2, e14) (agC rfl (agC rfl (agC rfl (agC rfl (agC rfl agN))))) (akC rfl akN) ?_ ?_
                  · exact ⟨⟨by omega, by omega, by omega, by omega, hfin.symm.trans (hRR.symm.trans hT), hR14⟩, M14⟩
                  · (show y - _ < y - x; omega)
                · skip
                  refine W_skip ?_
                  refine thenN ?_
                  refine W_seq ?_
                  refine W_region ?_
                  refine wl_q (r_move (.slice _ _ _) rfl) rfl rfl ?_
                  refine wl_q (r_move (.int _ _) rfl) rfl rfl ?_
                  refine wl_q (r_move (.int _ _) rfl) rfl rfl ?_
                  refine wl_q (r_move (.int _ _) rfl) rfl rfl ?_
                  refine wl_cal cal63 rfl rfl rfl ?_
                  refine (sort_part _ A n c d3 e3 hR3 (M13.ownAt (i := 0) rfl) x y p2 (by omega) (by omega) (by omega) (by omega)).mono ?_
                  rintro _ w15 ⟨v15, rfl, ⟨e15, rfl, hmid, hR15, hM15⟩⟩
                  refine ⟨_, rfl, ?_⟩
                  have M15 : Mem _ _ [_] _ := M13.seg 0 1 hM15
                  refine wl_q (r_move (.tuple (List.toArray _)) rfl) rfl rfl ?_
                  refine wl_q (r_ext (.int _ _) rfl rfl) rfl rfl ?_
                  refine wl_q (r_ext (.bool _) rfl rfl) rfl rfl ?_
                  refine wl_q (r_assign (.int _ _) rfl) rfl rfl ?_
                  refine wl_q (r_assign (.bool _) rfl) rfl rfl ?_
                  refine wl_nil ?_
                  refine thenN ?_
                  refine W_seq ?_
                  refine W_region ?_
                  refine wl_q (r_move (.bool _) rfl) rfl rfl ?_
                  refine wl_q (r_assign (.bool _) rfl) rfl rfl ?_
                  refine wl_nil ?_
                  refine thenN ?_
                  refine W_seq ?_
                  refine W_region ?_
                  refine wl_q (r_move (.int _ _) rfl) rfl rfl ?_
                  refine wl_q (r_move (.int _ _) rfl) rfl rfl ?_
                  refine wl_q (r_sub rfl rfl (by omega) (by omega)) rfl rfl ?_
                  refine wl_re 105 (.int .i64 (((Go.Sort.partition ltInt d3 x y p2).1 - x : Nat) : Int)) (iE (by omega)) ?_
                  refine wl_q (r_move (.int _ _) rfl) rfl rfl ?_
                  refine wl_q (r_move (.int _ _) rfl) rfl rfl ?_
                  refine wl_q (r_sub rfl rfl (by omega) (by omega)) rfl rfl ?_
                  refine wl_re 108 (.int .i64 ((y - (Go.Sort.partition ltInt d3 x y p2).1 : Nat) : Int)) (iE (by omega)) ?_
                  refine wl_q (r_assign (.int _ _) rfl) rfl rfl ?_
                  refine wl_q (r_assign (.int _ _) rfl) rfl rfl ?_
                  refine wl_nil ?_
                  refine thenN ?_
                  refine W_seq ?_
                  refine W_region ?_
                  refine wl_q (r_move (.int _ _) rfl) rfl rfl ?_
                  refine wl_q (r_quo rfl rfl (by decide)) rfl rfl ?_
                  refine wl_re 110 (.int .i64 (((y - x) / 8 : Nat) : Int)) (iE (by rw [tquo8, w64 _ (by omega) (by omega)])) ?_
                  refine wl_q (r_assign (.int _ _) rfl) rfl rfl ?_
                  refine wl_nil ?_
                  refine thenN ?_
                  refine W_seq ?_
                  refine W_region ?_
                  refine wl_q (r_move (.int _ _) rfl) rfl rfl ?_
                  refine wl_q (r_move (.int _ _) rfl) rfl rfl ?_
                  refine wl_q (r_bin (.bool (decide _)) rfl rfl rfl) rfl rfl ?_
                  refine wl_nil ?_
                  refine thenN ?_
                  refine W_condD rfl (fun h113 => ?_) (fun h113 => ?_)
                  · skip
                    refine W_seq ?_
                    refine W_region ?_
                    refine wl_q (r_move (.int _ _) rfl) rfl rfl ?_
                    refine wl_q (r_move (.int _ _) rfl) rfl rfl ?_
                    refine wl_q (r_bin (.bool (decide _)) rfl rfl rfl) rfl rfl ?_
                    refine wl_q (r_assign (.bool (decide _)) rfl) rfl rfl ?_
                    refine wl_nil ?_
                    refine thenN ?_
                    refine W_seq ?_
                    refine W_region ?_
                    refine wl_q (r_move (.slice _ _ _) rfl) rfl rfl ?_
                    refine wl_q (r_move (.int _ _) rfl) rfl rfl ?_
                    refine wl_q (r_move (.int _ _) rfl) rfl rfl ?_
                    refine wl_q (r_move (.int _ _) rfl) rfl rfl ?_
                    refine wl_cal cal47 rfl rfl rfl ?_
                    refine (IH ((Go.Sort.partition ltInt d3 x y p2).1 - (x)) (by omega) _ A n c (Go.Sort.partition ltInt d3 x y p2).2.2 _ hR15 (M15.ownAt (i := 0) rfl) (x) ((Go.Sort.partition ltInt d3 x y p2).1) l2 (by omega) (by omega) (by omega) (by omega) (by omega)).mono ?_
                    rintro _ w16 ⟨v16, rfl, ⟨rfl, e16, hR16, hM16⟩⟩
                    refine ⟨_, rfl, ?_⟩
                    have M16 : Mem _ _ [_] _ := M15.seg 0 1 hM16
                    refine wl_nil ?_
                    refine thenN ?_
                    refine W_region ?_
                    refine wl_q (r_move (.int _ _) rfl) rfl rfl ?_
                    refine wl_q (r_add rfl rfl (by omega) (by omega)) rfl rfl ?_
                    refine wl_re 123 (.int .i64 (((Go.Sort.partition ltInt d3 x y p2).1 + 1 : Nat) : Int)) (iE (by omega)) ?_
                    refine wl_q (r_assign (.int _ _) rfl) rfl rfl ?_
                    refine wl_nil ?_
                    refine blkN ?_
                    have hfin := pdqR_left (d3 := d3) (a := x) (b := y) (p := p2) (l := l2) (wb := wb) (wp := wp) (fun h => h87 h.2) (show Go.Sort.partition ltInt d3 x y p2 = ((Go.Sort.partition ltInt d3 x y p2).1, (Go.Sort.partition ltInt d3 x y p2).2.1, (Go.Sort.partition ltInt d3 x y p2).2.2) from rfl) ⟨by omega, by omega⟩ (by omega)
                    refine roundN ((Go.Sort.partition ltInt d3 x y p2).1 + 1, y, l2, decide ((Go.Sort.partition ltInt d3 x y p2).1 - x ≥ (y - x) / 8), (Go.Sort.partition ltInt d3 x y p2).2.1, Go.Sort.pdq ltInt ((Go.Sort.partition ltInt d3 x y p2).2.2) (x) ((Go.Sort.partition ltInt d3 x y p2).1) (l2) (true) (true), e16) (agC rfl (agC rfl (agC rfl (agC (bD (by omega)) (agC rfl agN))))) (akC rfl akN) ?_ ?_
                    · exact ⟨⟨by omega, by omega, by omega, by omega, hfin.symm.trans (hRR.symm.trans hT), hR16⟩, M16⟩
                    · (show _ - _ < y - x; omega)
                  · skip
                    refine W_seq ?_
                    refine W_region ?_
                    refine wl_q (r_move (.int _ _) rfl) rfl rfl ?_
                    refine wl_q (r_move (.int _ _) rfl) rfl rfl ?_
                    refine wl_q (r_bin (.bool (decide _)) rfl rfl rfl) rfl rfl ?_
                    refine wl_q (r_assign (.bool (decide _)) rfl) rfl rfl ?_
                    refine wl_nil ?_
                    refine thenN ?_
                    refine W_seq ?_
                    refine W_region ?_
                    refine wl_q (r_move (.slice _ _ _) rfl) rfl rfl ?_
                    refine wl_q (r_move (.int _ _) rfl) rfl rfl ?_
                    refine wl_q (r_add rfl rfl (by omega) (by omega)) rfl rfl ?_
                    refine wl_re 129 (.int .i64 (((Go.Sort.partition ltInt d3 x y p2).1 + 1 : Nat) : Int)) (iE (by omega)) ?_
                    refine wl_q (r_move (.int _ _) rfl) rfl rfl ?_
                    refine wl_q (r_move (.int _ _) rfl) rfl rfl ?_
                    refine wl_cal cal47 rfl rfl rfl ?_
                    refine (IH (y - ((Go.Sort.partition ltInt d3 x y p2).1 + 1)) (by omega) _ A n c (Go.Sort.partition ltInt d3 x y p2).2.2 _ hR15 (M15.ownAt (i := 0) rfl) ((Go.Sort.partition ltInt d3 x y p2).1 + 1) (y) l2 (by omega) (by omega) (by omega) (by omega) (by omega)).mono ?_
                    rintro _ w17 ⟨v17, rfl, ⟨rfl, e17, hR17, hM17⟩⟩
                    refine ⟨_, rfl, ?_⟩
                    have M17 : Mem _ _ [_] _ := M15.seg 0 1 hM17
                    refine wl_nil ?_
                    refine thenN ?_
                    refine W_region ?_
                    refine wl_q (r_move (.int _ _) rfl) rfl rfl ?_
                    refine wl_q (r_assign (.int _ _) rfl) rfl rfl ?_
                    refine wl_nil ?_
                    refine blkN ?_
                    have hfin := pdqR_right (d3 := d3) (a := x) (b := y) (p := p2) (l := l2) (wb := wb) (wp := wp) (fun h => h87 h.2) (show Go.Sort.partition ltInt d3 x y p2 = ((Go.Sort.partition ltInt d3 x y p2).1, (Go.Sort.partition ltInt d3 x y p2).2.1, (Go.Sort.partition ltInt d3 x y p2).2.2) from rfl) ⟨by omega, by omega⟩ (by omega)
                    refine roundN (x, (Go.Sort.partition ltInt d3 x y p2).1, l2, decide (y - (Go.Sort.partition ltInt d3 x y p2).1 ≥ (y - x) / 8), (Go.Sort.partition ltInt d3 x y p2).2.1, Go.Sort.pdq ltInt ((Go.Sort.partition ltInt d3 x y p2).2.2) ((Go.Sort.partition ltInt d3 x y p2).1 + 1) (y) (l2) (true) (true), e17) (agC rfl (agC rfl (agC rfl (agC (bD (by omega)) (agC rfl agN))))) (akC rfl akN) ?_ ?_
                    · exact ⟨⟨by omega, by omega, by omega, by omega, hfin.symm.trans (hRR.symm.trans hT), hR17⟩, M17⟩
                    · (show _ - _ < y - x; omega)
              · skip
                refine D_s rfl rfl rfl ?_
                refine D_s rfl rfl rfl ?_
                refine D_s rfl rfl rfl ?_
                refine D_s1 rfl rfl rfl ?_
                refine D_s1 rfl rfl rfl ?_
                refine D_s rfl rfl rfl ?_
                refine D_s rfl rfl rfl ?_
                refine D_s1 rfl rfl rfl ?_
                refine D_s1 rfl rfl rfl ?_
                refine D_e [true, true, true, true] rfl (by kernel_rfl) ?_
                refine wl_skip rfl rfl ?_
                refine wl_nil (thenN ⟨alN, ?_⟩)
                refine D_s rfl rfl rfl ?_
                refine D_p rfl rfl rfl (fun _ => r_pick false (.bool false) rfl rfl) ?_
                refine D_nil ?_
                refine thenN ?_
                refine W_condF rfl ?_
                refine W_skip ?_
                refine thenN ?_
                refine W_seq ?_
                refine W_region ?_
                refine wl_q (r_move (.slice _ _ _) rfl) rfl rfl ?_
                refine wl_q (r_move (.int _ _) rfl) rfl rfl ?_
                refine wl_q (r_move (.int _ _) rfl) rfl rfl ?_
                refine wl_q (r_move (.int _ _) rfl) rfl rfl ?_
                refine wl_cal cal63 rfl rfl rfl ?_
                refine (sort_part _ A n c d3 e3 hR3 (M12.ownAt (i := 0) rfl) x y p2 (by omega) (by omega) (by omega) (by omega)).mono ?_
                rintro _ w18 ⟨v18, rfl, ⟨e18, rfl, hmid, hR18, hM18⟩⟩
                refine ⟨_, rfl, ?_⟩
                have M18 : Mem _ _ [_] _ := M12.seg 0 1 hM18
                refine wl_q (r_move (.tuple (List.toArray _)) rfl) rfl rfl ?_
                refine wl_q (r_ext (.int _ _) rfl rfl) rfl rfl ?_
                refine wl_q (r_ext (.bool _) rfl rfl) rfl rfl ?_
                refine wl_q (r_assign (.int _ _) rfl) rfl rfl ?_
                refine wl_q (r_assign (.bool _) rfl) rfl rfl ?_
                refine wl_nil ?_
                refine thenN ?_
                refine W_seq ?_
                refine W_region ?_
                refine wl_q (r_move (.bool _) rfl) rfl rfl ?_
                refine wl_q (r_assign (.bool _) rfl) rfl rfl ?_
                refine wl_nil ?_
                refine thenN ?_
                refine W_seq ?_
                refine W_region ?_
                refine wl_q (r_move (.int _ _) rfl) rfl rfl ?_
                refine wl_q (r_move (.int _ _) rfl) rfl rfl ?_
                refine wl_q (r_sub rfl rfl (by omega) (by omega)) rfl rfl ?_
                refine wl_re 105 (.int .i64 (((Go.Sort.partition ltInt d3 x y p2).1 - x : Nat) : Int)) (iE (by omega)) ?_
                refine wl_q (r_move (.int _ _) rfl) rfl rfl ?_
                refine wl_q (r_move (.int _ _) rfl) rfl rfl ?_
                refine wl_q (r_sub rfl rfl (by omega) (by omega)) rfl rfl ?_
                refine wl_re 108 (.int .i64 ((y - (Go.Sort.partition ltInt d3 x y p2).1 : Nat) : Int)) (iE (by omega)) ?_
                refine wl_q (r_assign (.int _ _) rfl) rfl rfl ?_
                refine wl_q (r_assign (.int _ _) rfl) rfl rfl ?_
                refine wl_nil ?_
                refine thenN ?_
                refine W_seq ?_
                refine W_region ?_
                refine wl_q (r_move (.int _ _) rfl) rfl rfl ?_
                refine wl_q (r_quo rfl rfl (by decide)) rfl rfl ?_
                refine wl_re 110 (.int .i64 (((y - x) / 8 : Nat) : Int)) (iE (by rw [tquo8, w64 _ (by omega) (by omega)])) ?_
                refine wl_q (r_assign (.int _ _) rfl) rfl rfl ?_
                refine wl_nil ?_
                refine thenN ?_
                refine W_seq ?_
                refine W_region ?_
                refine wl_q (r_move (.int _ _) rfl) rfl rfl ?_
                refine wl_q (r_move (.int _ _) rfl) rfl rfl ?_
                refine wl_q (r_bin (.bool (decide _)) rfl rfl rfl) rfl rfl ?_
                refine wl_nil ?_
                refine thenN ?_
                refine W_condD rfl (fun h113 => ?_) (fun h113 => ?_)
                · skip
                  refine W_seq ?_
                  refine W_region ?_
                  refine wl_q (r_move (.int _ _) rfl) rfl rfl ?_
                  refine wl_q (r_move (.int _ _) rfl) rfl rfl ?_
                  refine wl_q (r_bin (.bool (decide _)) rfl rfl rfl) rfl rfl ?_
                  refine wl_q (r_assign (.bool (decide _)) rfl) rfl rfl ?_
                  refine wl_nil ?_
                  refine thenN ?_
                  refine W_seq ?_
                  refine W_region ?_
                  refine wl_q (r_move (.slice _ _ _) rfl) rfl rfl ?_
                  refine wl_q (r_move (.int _ _) rfl) rfl rfl ?_
                  refine wl_q (r_move (.int _ _) rfl) rfl rfl ?_
                  refine wl_q (r_move (.int _ _) rfl) rfl rfl ?_
                  refine wl_cal cal47 rfl rfl rfl ?_
                  refine (IH ((Go.Sort.partition ltInt d3 x y p2).1 - (x)) (by omega) _ A n c (Go.Sort.partition ltInt d3 x y p2).2.2 _ hR18 (M18.ownAt (i := 0) rfl) (x) ((Go.Sort.partition ltInt d3 x y p2).1) l2 (by omega) (by omega) (by omega) (by omega) (by omega)).mono ?_
                  rintro _ w19 ⟨v19, rfl, ⟨rfl, e19, hR19, hM19⟩⟩
                  refine ⟨_, rfl, ?_⟩
                  have M19 : Mem _ _ [_] _ := M18.seg 0 1 hM19
                  refine wl_nil ?_
                  refine thenN ?_
                  refine W_region ?_
                  refine wl_q (r_move (.int _ _) rfl) rfl rfl ?_
                  refine wl_q (r_add rfl rfl (by omega) (by omega)) rfl rfl ?_
                  refine wl_re 123 (.int .i64 (((Go.Sort.partition ltInt d3 x y p2).1 + 1 : Nat) : Int)) (iE (by omega)) ?_
                  refine wl_q (r_assign (.int _ _) rfl) rfl rfl ?_
                  refine wl_nil ?_
                  refine blkN ?_
                  have hfin := pdqR_left (d3 := d3) (a := x) (b := y) (p := p2) (l := l2) (wb := wb) (wp := wp) (fun h => by omega) (show Go.Sort.partition ltInt d3 x y p2 = ((Go.Sort.partition ltInt d3 x y p2).1, (Go.Sort.partition ltInt d3 x y p2).2.1, (Go.Sort.partition ltInt d3 x y p2).2.2) from rfl) ⟨by omega, by omega⟩ (by omega)
                  refine roundN ((Go.Sort.partition ltInt d3 x y p2).1 + 1, y, l2, decide ((Go.Sort.partition ltInt d3 x y p2).1 - x ≥ (y - x) / 8), (Go.Sort.partition ltInt d3 x y p2).2.1, Go.Sort.pdq ltInt ((Go.Sort.partition ltInt d3 x y p2).2.2) (x) ((Go.Sort.partition ltInt d3 x y p2).1) (l2) (true) (true), e19) (agC rfl (agC rfl (agC rfl (agC (bD (by omega)) (agC rfl agN))))) (akC rfl akN) ?_ ?_
                  · exact ⟨⟨by omega, by omega, by omega, by omega, hfin.symm.trans (hRR.symm.trans hT), hR19⟩, M19⟩
                  · (show _ - _ < y - x; omega)
                · skip
                  refine W_seq ?_
                  refine W_region ?_
                  refine wl_q (r_move (.int _ _) rfl) rfl rfl ?_
                  refine wl_q (r_move (.int _ _) rfl) rfl rfl ?_
                  refine wl_q (r_bin (.bool (decide _)) rfl rfl rfl) rfl rfl ?_
                  refine wl_q (r_assign (.bool (decide _)) rfl) rfl rfl ?_
                  refine wl_nil ?_
                  refine thenN ?_
                  refine W_seq ?_
                  refine W_region ?_
                  refine wl_q (r_move (.slice _ _ _) rfl) rfl rfl ?_
                  refine wl_q (r_move (.int _ _) rfl) rfl rfl ?_
                  refine wl_q (r_add rfl rfl (by omega) (by omega)) rfl rfl ?_
                  refine wl_re 129 (.int .i64 (((Go.Sort.partition ltInt d3 x y p2).1 + 1 : Nat) : Int)) (iE (by omega)) ?_
                  refine wl_q (r_move (.int _ _) rfl) rfl rfl ?_
                  refine wl_q (r_move (.int _ _) rfl) rfl rfl ?_
                  refine wl_cal cal47 rfl rfl rfl ?_
                  refine (IH (y - ((Go.Sort.partition ltInt d3 x y p2).1 + 1)) (by omega) _ A n c (Go.Sort.partition ltInt d3 x y p2).2.2 _ hR18 (M18.ownAt (i := 0) rfl) ((Go.Sort.partition ltInt d3 x y p2).1 + 1) (y) l2 (by omega) (by omega) (by omega) (by omega) (by omega)).mono ?_
                  rintro _ w20 ⟨v20, rfl, ⟨rfl, e20, hR20, hM20⟩⟩
                  refine ⟨_, rfl, ?_⟩
                  have M20 : Mem _ _ [_] _ := M18.seg 0 1 hM20
                  refine wl_nil ?_
                  refine thenN ?_
                  refine W_region ?_
                  refine wl_q (r_move (.int _ _) rfl) rfl rfl ?_
                  refine wl_q (r_assign (.int _ _) rfl) rfl rfl ?_
                  refine wl_nil ?_
                  refine blkN ?_
                  have hfin := pdqR_right (d3 := d3) (a := x) (b := y) (p := p2) (l := l2) (wb := wb) (wp := wp) (fun h => by omega) (show Go.Sort.partition ltInt d3 x y p2 = ((Go.Sort.partition ltInt d3 x y p2).1, (Go.Sort.partition ltInt d3 x y p2).2.1, (Go.Sort.partition ltInt d3 x y p2).2.2) from rfl) ⟨by omega, by omega⟩ (by omega)
                  refine roundN (x, (Go.Sort.partition ltInt d3 x y p2).1, l2, decide (y - (Go.Sort.partition ltInt d3 x y p2).1 ≥ (y - x) / 8), (Go.Sort.partition ltInt d3 x y p2).2.1, Go.Sort.pdq ltInt ((Go.Sort.partition ltInt d3 x y p2).2.2) ((Go.Sort.partition ltInt d3 x y p2).1 + 1) (y) (l2) (true) (true), e20) (agC rfl (agC rfl (agC rfl (agC (bD (by omega)) (agC rfl agN))))) (akC rfl akN) ?_ ?_
                  · exact ⟨⟨by omega, by omega, by omega, by omega, hfin.symm.trans (hRR.symm.trans hT), hR20⟩, M20⟩
                  · (show _ - _ < y - x; omega)

theorem sort_pdq : ∀ N, PdqW N := by
  intro N
  induction N using Nat.strongRecOn with
  | _ N ih => exact fun w A n c d e hR hO a b l hab hb hn hl hN => sort_pdq_step N ih w A n c d e hR hO a b l hab hb hn hl hN

set_option maxHeartbeats 4000000 in
theorem sort_all (w : World) (A : Option Addr) (n c : Nat) (d : AI) (e : Ent) (hR : RowIs 42 1 A n c ((d).toList.map keyCell) e) (hO : Own [e] w) (hn : n < 50) :
    Calls Tryd.prog 34 #[.slice A n c] w (fun ex w' => ∃ v, ex = .returned v ∧ (fun v w' => v = .tuple #[] ∧ ∃ e', RowIs 42 1 A n c ((d.toList.mergeSort (fun x y => decide (x ≤ y))).map keyCell) e' ∧ Mem w (blks [e]) [e'] w') v w') := by
  have hdn : d.size = n := by simpa using hR.1
  have hnb := hR.2.2.1
  refine calls_of_W #[] 11 Tryd.func34 rfl Tryd.results34 Tryd.ntmps34 rfl ?_
  have M0 := hO.mem
  refine W_seq ?_
  refine W_region ?_
  refine wl_q (r_move (.slice _ _ _) rfl) rfl rfl ?_
  refine wl_q (r_lenS Tryd.underlying27 rfl) rfl rfl ?_
  refine wl_q (r_assign (.int _ _) rfl) rfl rfl ?_
  refine wl_nil ?_
  refine thenN ?_
  refine W_region ?_
  refine wl_q (r_move (.slice _ _ _) rfl) rfl rfl ?_
  refine wl_q (r_move (.int _ _) rfl) rfl rfl ?_
  refine wl_q (r_move (.int _ _) rfl) rfl rfl ?_
  refine wl_q (r_convK us3 Tryd.underlying92 rfl (wru64 _ (by omega) (by omega))) rfl rfl ?_
  refine wl_cal cal48 rfl rfl rfl ?_
  refine (bits_len _ n (by omega)).mono ?_
  rintro _ w1 ⟨v1, rfl, ⟨rfl, hb1⟩⟩
  refine ⟨_, rfl, ?_⟩
  have M1 := M0.callB hb1
  refine wl_cal cal47 rfl rfl rfl ?_
  refine (sort_pdq n _ A n c d e hR (M1.ownAt (i := 0) rfl) 0 n (Go.Sort.bitsLen n) (by omega) (by omega) hn (Nat.le_trans ((Go.Sort.bitsLen_le_iff n 6).2 (by omega)) (by decide)) (by omega)).mono ?_
  rintro _ w2 ⟨v2, rfl, ⟨rfl, e2, hR2, hM2⟩⟩
  refine ⟨_, rfl, ?_⟩
  have M2 : Mem _ _ [_] _ := M1.seg 0 1 hM2
  refine wl_nil ?_
  refine fin0n ?_
  have hs := Go.Sort.sortInt d.toList
  unfold Go.Sort.sort at hs
  rw [Array.toArray_toList, hdn] at hs
  exact ⟨rfl, e2, by rw [← hs]; exact hR2, M2⟩

end Go.Proofs.YtjbhobahebebkaaDoor
