/- Part of the proof of the laws of this seat: X15, Z5. No conditions. -/
import Derived.Test.YtmcddmhkjcgneaaGreatDoorK5
import Derived.Test.YtmcddmhkjcgneaaGreatDoorK22
import Derived.Test.YtmcddmhkjcgneaaGreatDoorK24
import Derived.Test.YtmcddmhkjcgneaaGreatDoorK18
/- Walks of Go functions over the frame of this claim: what each computes, for every input of the stated types (X15). -/
set_option linter.unusedVariables false
set_option linter.unusedSimpArgs false
set_option linter.unnecessarySimpa false
namespace Go.Proofs.YtmcddmhkjcgneaaGreatDoor
open Go.Bil
open Go.RowKit (Below)
open Go.Proofs

end Go.Proofs.YtmcddmhkjcgneaaGreatDoor

/- Walks of Go functions over the frame of this claim: what each computes, for every input of the stated types (Z5). -/
set_option linter.unusedVariables false
set_option linter.unusedSimpArgs false
set_option linter.unnecessarySimpa false
namespace Go.Proofs.YtmcddmhkjcgneaaGreatDoor
open Go.Bil
open Go.RowKit (Below)
open Go.Proofs

set_option maxHeartbeats 8000000 in
theorem ref15_All (w : World) (A : Option Addr) (n c : Nat) (xs : List Body) (R : Rd w 10 A n (xs.map bodyCells)) (hb : ∀ b ∈ xs, Okb b) (hs : Sorted xs) (hn : n ≤ 65536) :
    Calls Tryz.prog 22 #[.slice A n c] w (fun ex w' => ∃ v, ex = .returned v ∧ (fun v w' => ∃ r : Row, v = .slice r.A r.n r.c ∧ RowIs 63 5 r.A r.n r.c ((allC xs).map conCells) r.e ∧ Mem w [] [r.e] w') v w') := by
  have hlen : xs.length = n := by simpa using R.len
  have hbd := R.bound
  refine calls_of_W #[.tmp 2] 40 Tryz.func22 rfl Tryz.results22 Tryz.ntmps22 rfl ?_
  have M0 := Mem.refl w
  refine W_seq ?_
  refine W_region ?_
  refine wl_q (r_assign (.slice _ _ _) rfl) rfl rfl ?_
  refine wl_nil ?_
  refine thenN ?_
  refine W_seq ?_
  refine W_region ?_
  refine wl_q (r_assign (.slice _ _ _) rfl) rfl rfl ?_
  have M1 := M0.dummy default
  refine wl_nil ?_
  refine thenN ?_
  refine W_seq ?_
  refine W_seq ?_
  refine W_region ?_
  refine wl_q (r_assign (.int _ _) rfl) rfl rfl ?_
  refine wl_nil ?_
  refine thenN ?_
  refine W_block ?_
  refine W_loop (σ := Nat × Row) [0, 2] (fun (i, r) => [(3, .slice r.A r.n r.c), (4, .int .i64 (i : Int))]) (fun (i, r) w' => (i ≤ n ∧ RowIs 63 5 r.A r.n r.c ((allK xs i).map conCells) r.e) ∧ Mem w [] [r.e] w') (fun (i, r) => n - i) (0, nilRow) (agC rfl (agC rfl agN)) (⟨⟨by omega, RowIs.nil _ _ _⟩, M1⟩) ?_
  rintro ⟨i, r⟩ ρ2 w2 ⟨⟨hi, hr⟩, hM2⟩
  refine W_seq ?_
  refine W_seq ?_
  refine W_region ?_
  refine wl_q (r_move (.int _ _) rfl) rfl rfl ?_
  refine wl_q (r_move (.slice _ _ _) rfl) rfl rfl ?_
  refine wl_q (r_lenS Tryz.underlying22 rfl) rfl rfl ?_
  refine wl_q (r_bin (.bool (decide _)) rfl rfl rfl) rfl rfl ?_
  refine wl_nil ?_
  refine thenN ?_
  refine W_condD rfl (fun h11 => ?_) (fun h11 => ?_)
  · skip
    obtain ⟨xa, hxa⟩ := getSome (k := i) hlen (by omega)
    refine W_skip ?_
    refine thenN ?_
    refine W_seq ?_
    refine W_block ?_
    refine W_seq ?_
    refine W_region ?_
    refine wl_q (r_move (.int _ _) rfl) rfl rfl ?_
    refine wl_q (r_add rfl rfl (by omega) (by omega)) rfl rfl ?_
    refine wl_q (r_assign (.int _ _) rfl) rfl rfl ?_
    refine wl_nil ?_
    refine thenN ?_
    refine W_block ?_
    refine W_loop (σ := Nat × Row) [0, 2, 4] (fun (k, q) => [(3, .slice q.A q.n q.c), (5, .int .i64 (k : Int))]) (fun (k, q) w' => (i + 1 ≤ k ∧ k ≤ n ∧ RowIs 63 5 q.A q.n q.c ((allK xs i ++ rowQ xs i k).map conCells) q.e) ∧ Mem w [] [q.e] w') (fun (k, q) => n - k) (i + 1, r) (agC rfl (agC rfl agN)) (⟨⟨by omega, by omega, by rw [rowQ_start, List.append_nil]; exact hr⟩, hM2⟩) ?_
    rintro ⟨k, q⟩ ρ3 w3 ⟨⟨hik, hk, hq⟩, hM3⟩
    have hfl := allK_len xs i
    have hfm : i * xs.length ≤ 65536 * 65536 := Nat.mul_le_mul (by omega) (by omega)
    have hrw := rowQ_len xs i k
    have hql : (allK xs i ++ rowQ xs i k).length = q.n := by simpa using hq.1
    rw [List.length_append] at hql
    refine W_seq ?_
    refine W_seq ?_
    refine W_region ?_
    refine wl_q (r_move (.int _ _) rfl) rfl rfl ?_
    refine wl_q (r_move (.slice _ _ _) rfl) rfl rfl ?_
    refine wl_q (r_lenS Tryz.underlying22 rfl) rfl rfl ?_
    refine wl_q (r_bin (.bool (decide _)) rfl rfl rfl) rfl rfl ?_
    refine wl_nil ?_
    refine thenN ?_
    refine W_condD rfl (fun h19 => ?_) (fun h19 => ?_)
    · skip
      obtain ⟨xb, hxb⟩ := getSome (k := k) hlen (by omega)
      refine W_skip ?_
      refine thenN ?_
      refine W_seq ?_
      refine W_block ?_
      refine W_seq ?_
      refine W_fork [(0, 0), (1, 0), (2, 1), (3, 1), (4, 0), (5, 0), (6, 1), (7, 1)] 8 12 [(9, 0), (10, 0), (11, 0), (12, 2), (13, 2), (14, 0)] [(8, 2), (9, 0), (10, 0), (11, 0), (13, 2), (14, 0)] mixed rfl (by kernel_rfl) (fun w4 hb4 hh4 => ?_)
      have M4 := hM3.drew hb4 hh4
      refine DK_p rfl rfl rfl (fun _ => r_move (.slice _ _ _) rfl) ?_
      refine DK_p rfl rfl rfl (fun _ => r_move (.int _ _) rfl) ?_
      refine DK_r rfl rfl rfl (r_idxR (i) sl22 rfl rfl rfl ((R.mem M4).below_len (mapGet bodyCells hxa)) ((R.mem M4).someK (mapGet bodyCells hxa))) ?_
      refine DK_r rfl rfl rfl (r_ldEA _ agg32 (R.mem M4) (mapGet bodyCells hxa) rfl) ?_
      refine DK_p rfl rfl rfl (fun _ => r_move (.slice _ _ _) rfl) ?_
      refine DK_p rfl rfl rfl (fun _ => r_move (.int _ _) rfl) ?_
      refine DK_r rfl rfl rfl (r_idxR (k) sl22 rfl rfl rfl ((R.mem M4).below_len (mapGet bodyCells hxb)) ((R.mem M4).someK (mapGet bodyCells hxb))) ?_
      refine DK_r rfl rfl rfl (r_ldEA _ agg32 (R.mem M4) (mapGet bodyCells hxb) rfl) ?_
      refine DK_fork ?_ ?_
      · skip
        refine D_e [true, true, true, true] rfl (by kernel_rfl) ?_
        refine wl_cal cal46 rfl rfl rfl ?_
        refine (ref14_Of _ xa xb (hb xa (List.mem_of_getElem? hxa)) (hb xb (List.mem_of_getElem? hxb))).mono ?_
        rintro _ w5 ⟨v5, rfl, ⟨rfl, hb5⟩⟩
        refine ⟨_, rfl, ?_⟩
        have M5 := M4.callB hb5
        refine wl_nil (thenN ⟨alN, ?_⟩)
        refine D_p rfl rfl rfl (fun _ => r_move (.tuple (List.toArray _)) rfl) ?_
        refine D_p rfl rfl rfl (fun _ => r_ext (.agg (List.toArray _)) rfl rfl) ?_
        refine D_p rfl rfl rfl (fun _ => r_ext (.bool _) rfl rfl) ?_
        refine D_e [] rfl (by kernel_rfl) ?_
        refine wl_alloc zero63 M5 rfl rfl (fun b6 w6 M6 => ?_)
        refine wl_nil (thenN ⟨alN, ?_⟩)
        refine D_e [] rfl (by kernel_rfl) ?_
        refine wl_stW 1 _ agg63 M6 rfl rfl rfl rfl rfl (ones_of rfl) rfl (fun w7 M7 => ?_)
        refine wl_nil (thenN ⟨alN, ?_⟩)
        refine D_p rfl rfl rfl (fun _ => r_assign (.bool _) rfl) ?_
        refine D_nil ?_
        refine thenN ?_
        refine W_seq ?_
        refine W_region ?_
        refine wl_q (r_move (.bool _) rfl) rfl rfl ?_
        refine wl_nil ?_
        refine thenN ?_
        refine W_cond _ rfl (fun h34 => ?_) (fun h34 => ?_)
        · skip
          obtain ⟨cc, hcc⟩ := Option.isSome_iff_exists.1 h34
          refine W_region ?_
          refine wl_q (r_move (.slice _ _ _) rfl) rfl rfl ?_
          refine wl_q (r_ldW 1 agg63 M7 rfl rfl rfl) rfl rfl ?_
          refine wl_re 36 (.agg (conCells cc).toArray) (congrArg (fun o => Value.agg (conO o).toArray) hcc) ?_
          refine wl_bslice [.agg (List.toArray _)] [conCells cc] rfl sl45 M7 rfl rfl rfl rfl (lens_of rfl) (by decide) (fun b8 w8 M8 => ?_)
          refine wl_append 0 [conCells cc] sl45 M8 rfl rfl rfl rfl rfl hq rfl (by simp [conCells, Go.Bil.one]) (Cells.ofMem 2 M8 rfl) (by omega) (fun A9 c9 e9 w9 M9 hR9 => ?_)
          refine wl_q (r_assign (.slice _ _ _) rfl) rfl rfl ?_
          refine wl_nil ?_
          refine blkN ?_
          refine thenN ?_
          refine W_region ?_
          refine wl_q (r_move (.int _ _) rfl) rfl rfl ?_
          refine wl_q (r_add rfl rfl (by omega) (by omega)) rfl rfl ?_
          refine wl_q (r_assign (.int _ _) rfl) rfl rfl ?_
          refine wl_nil ?_
          refine roundN (k + 1, ⟨A9, q.n + 1, c9, e9⟩) (agC rfl (agC rfl agN)) (akC rfl (akC rfl (akC rfl akN))) ?_ ?_
          · exact ⟨⟨by omega, by omega, by rw [rowQ_snoc hs hb hxa hxb (by omega), hcc, ← List.append_assoc, List.map_append]; exact hR9⟩, M9.keep [true, false, false]⟩
          · (show n - (k + 1) < n - k; omega)
        · skip
          have hcc : conOf xa xb = none := by simpa using h34
          refine W_skip ?_
          refine blkN ?_
          refine thenN ?_
          refine W_region ?_
          refine wl_q (r_move (.int _ _) rfl) rfl rfl ?_
          refine wl_q (r_add rfl rfl (by omega) (by omega)) rfl rfl ?_
          refine wl_q (r_assign (.int _ _) rfl) rfl rfl ?_
          refine wl_nil ?_
          refine roundN (k + 1, q) (agC rfl (agC rfl agN)) (akC rfl (akC rfl (akC rfl akN))) ?_ ?_
          · exact ⟨⟨by omega, by omega, by rw [rowQ_snoc hs hb hxa hxb (by omega), hcc, ← List.append_assoc]; simpa using hq⟩, M7.keep [true, false]⟩
          · (show n - (k + 1) < n - k; omega)
      · skip
        refine D_e [false, false, false, false] rfl (by kernel_rfl) ?_
        refine wl_alloc zero63 M4 rfl rfl (fun b10 w10 M10 => ?_)
        refine wl_nil (thenN ⟨(alC (Yl_of rfl (r_ldEA _ agg32 (R.mem M10) (mapGet bodyCells hxb) rfl)) (alC (Yl_of rfl (r_idxR (k) sl22 rfl rfl rfl ((R.mem M10).below_len (mapGet bodyCells hxb)) ((R.mem M10).someK (mapGet bodyCells hxb)))) (alC (Yl_of rfl (r_ldEA _ agg32 (R.mem M10) (mapGet bodyCells hxa) rfl)) (alC (Yl_of rfl (r_idxR (i) sl22 rfl rfl rfl ((R.mem M10).below_len (mapGet bodyCells hxa)) ((R.mem M10).someK (mapGet bodyCells hxa)))) alN)))), ?_⟩)
        refine D_e [true, true, true, true] rfl (by kernel_rfl) ?_
        refine wl_cal cal46 rfl rfl rfl ?_
        refine (ref14_Of _ xa xb (hb xa (List.mem_of_getElem? hxa)) (hb xb (List.mem_of_getElem? hxb))).mono ?_
        rintro _ w11 ⟨v11, rfl, ⟨rfl, hb11⟩⟩
        refine ⟨_, rfl, ?_⟩
        have M11 := M10.callB hb11
        refine wl_nil (thenN ⟨alN, ?_⟩)
        refine D_p rfl rfl rfl (fun _ => r_move (.tuple (List.toArray _)) rfl) ?_
        refine D_p rfl rfl rfl (fun _ => r_ext (.agg (List.toArray _)) rfl rfl) ?_
        refine D_p rfl rfl rfl (fun _ => r_ext (.bool _) rfl rfl) ?_
        refine D_e [] rfl (by kernel_rfl) ?_
        refine wl_stW 1 _ agg63 M11 rfl rfl rfl rfl rfl (ones_of rfl) rfl (fun w12 M12 => ?_)
        refine wl_nil (thenN ⟨alN, ?_⟩)
        refine D_p rfl rfl rfl (fun _ => r_assign (.bool _) rfl) ?_
        refine D_nil ?_
        refine thenN ?_
        refine W_seq ?_
        refine W_region ?_
        refine wl_q (r_move (.bool _) rfl) rfl rfl ?_
        refine wl_nil ?_
        refine thenN ?_
        refine W_cond _ rfl (fun h34 => ?_) (fun h34 => ?_)
        · skip
          obtain ⟨cc, hcc⟩ := Option.isSome_iff_exists.1 h34
          refine W_region ?_
          refine wl_q (r_move (.slice _ _ _) rfl) rfl rfl ?_
          refine wl_q (r_ldW 1 agg63 M12 rfl rfl rfl) rfl rfl ?_
          refine wl_re 36 (.agg (conCells cc).toArray) (congrArg (fun o => Value.agg (conO o).toArray) hcc) ?_
          refine wl_bslice [.agg (List.toArray _)] [conCells cc] rfl sl45 M12 rfl rfl rfl rfl (lens_of rfl) (by decide) (fun b13 w13 M13 => ?_)
          refine wl_append 0 [conCells cc] sl45 M13 rfl rfl rfl rfl rfl hq rfl (by simp [conCells, Go.Bil.one]) (Cells.ofMem 2 M13 rfl) (by omega) (fun A14 c14 e14 w14 M14 hR14 => ?_)
          refine wl_q (r_assign (.slice _ _ _) rfl) rfl rfl ?_
          refine wl_nil ?_
          refine blkN ?_
          refine thenN ?_
          refine W_region ?_
          refine wl_q (r_move (.int _ _) rfl) rfl rfl ?_
          refine wl_q (r_add rfl rfl (by omega) (by omega)) rfl rfl ?_
          refine wl_q (r_assign (.int _ _) rfl) rfl rfl ?_
          refine wl_nil ?_
          refine roundN (k + 1, ⟨A14, q.n + 1, c14, e14⟩) (agC rfl (agC rfl agN)) (akC rfl (akC rfl (akC rfl akN))) ?_ ?_
          · exact ⟨⟨by omega, by omega, by rw [rowQ_snoc hs hb hxa hxb (by omega), hcc, ← List.append_assoc, List.map_append]; exact hR14⟩, M14.keep [true, false, false]⟩
          · (show n - (k + 1) < n - k; omega)
        · skip
          have hcc : conOf xa xb = none := by simpa using h34
          refine W_skip ?_
          refine blkN ?_
          refine thenN ?_
          refine W_region ?_
          refine wl_q (r_move (.int _ _) rfl) rfl rfl ?_
          refine wl_q (r_add rfl rfl (by omega) (by omega)) rfl rfl ?_
          refine wl_q (r_assign (.int _ _) rfl) rfl rfl ?_
          refine wl_nil ?_
          refine roundN (k + 1, q) (agC rfl (agC rfl agN)) (akC rfl (akC rfl (akC rfl akN))) ?_ ?_
          · exact ⟨⟨by omega, by omega, by rw [rowQ_snoc hs hb hxa hxb (by omega), hcc, ← List.append_assoc]; simpa using hq⟩, M12.keep [true, false]⟩
          · (show n - (k + 1) < n - k; omega)
    · skip
      have hkn : k = n := by omega
      refine W_exit ?_
      refine thenX ?_
      refine roundX ?_
      refine blkH ?_
      refine blkN ?_
      refine thenN ?_
      refine W_region ?_
      refine wl_q (r_move (.int _ _) rfl) rfl rfl ?_
      refine wl_q (r_add rfl rfl (by omega) (by omega)) rfl rfl ?_
      refine wl_q (r_assign (.int _ _) rfl) rfl rfl ?_
      refine wl_nil ?_
      refine roundN (i + 1, q) (agC rfl (agC rfl agN)) (akC rfl (akC rfl akN)) ?_ ?_
      · exact ⟨⟨by omega, by rw [allK_succ, hlen, ← hkn]; exact hq⟩, hM3⟩
      · (show n - (i + 1) < n - i; omega)
  · skip
    have hin : i = n := by omega
    refine W_exit ?_
    refine thenX ?_
    refine roundX ?_
    refine blkH ?_
    refine thenN ?_
    refine W_seq ?_
    refine W_region ?_
    refine wl_q (r_move (.slice _ _ _) rfl) rfl rfl ?_
    refine wl_q (r_assign (.slice _ _ _) rfl) rfl rfl ?_
    refine wl_nil ?_
    refine thenN ?_
    refine W_ret ?_
    skip
    refine fin1 (.slice _ _ _) rfl ?_
    exact ⟨r, rfl, by unfold allC findP; rw [hlen, ← hin]; exact hr, hM2⟩

end Go.Proofs.YtmcddmhkjcgneaaGreatDoor
