/- Walks of Go functions over the frame of this claim: what each computes, for every input of the stated types (V11). -/
import Derived.Test.YtfgbmegchdjfeaaDoorTy
import Derived.Test.YtfgbmegchdjfeaaDoorU11
set_option linter.unusedVariables false
set_option linter.unusedSimpArgs false
set_option linter.unnecessarySimpa false
namespace Go.Proofs.YtfgbmegchdjfeaaDoor
open Go.Bil
open Go.RowKit (Below)
open Go.Proofs

set_option maxRecDepth 100000 in
theorem zeroG : zeroL Tryd.prog 67 = some (gcells (List.replicate 1024 nilRow) 0) := by kernel_rfl

set_option maxHeartbeats 16000000 in
theorem pairs_Find (w : World) (F : Rd w 2 (some ⟨0, 0, none⟩) 1 [[.int .u32 73856093, .int .u32 19349663]]) (N : Rd w 4 (some ⟨1, 0, none⟩) 1 [bxCells noneB]) (A : Option Addr) (n c : Nat) (xs : List Body) (R : Rd w 10 A n (xs.map bodyCells)) (hb : ∀ b ∈ xs, Okb b) (hs : Sorted xs) (hn : n ≤ 4096) :
    Calls Tryd.prog 12 #[.slice A n c] w (fun ex w' => ∃ v, ex = .returned v ∧ (fun v w' => ∃ (r : Row) (m : Nat), v = .tuple #[.slice r.A r.n r.c, .int .i64 (m : Int)] ∧ (findP xs).length ≤ m ∧ 2 * m ≤ xs.length * (xs.length - 1) ∧ RowIs 42 2 r.A r.n r.c ((findP xs).map pairCells) r.e ∧ Mem w [] [r.e] w') v w') := by
  have hlen : xs.length = n := by simpa using R.len
  have hbd := R.bound
  refine calls_of_W #[.tmp 2, .tmp 3] 37 Tryd.func12 rfl Tryd.results12 Tryd.ntmps12 rfl ?_
  have M0 := Mem.refl w
  refine W_seq ?_
  refine W_region ?_
  refine wl_q (r_assign (.slice _ _ _) rfl) rfl rfl ?_
  refine wl_q (r_assign (.int _ _) rfl) rfl rfl ?_
  refine wl_nil ?_
  refine thenN ?_
  refine W_seq ?_
  refine W_region ?_
  refine wl_q (r_move (.slice _ _ _) rfl) rfl rfl ?_
  refine wl_cal cal29 rfl rfl rfl ?_
  refine (pairs_boxes _ _ _ _ xs (R.mem M0) hb).mono ?_
  rintro _ w1 ⟨v1, rfl, ⟨pm, em, rfl, hme, hM1⟩⟩
  refine ⟨_, rfl, ?_⟩
  have M1 : Mem _ _ [_] _ := M0.call0 hM1
  refine wl_q (r_assign (.map _) rfl) rfl rfl ?_
  refine wl_nil ?_
  refine thenN ?_
  refine W_seq ?_
  refine W_region ?_
  refine wl_alloc zeroG M1 rfl rfl (fun b2 w2 M2 => ?_)
  have M3 := Mem.gridNew (L := [_]) M2
  refine wl_nil ?_
  refine thenN ?_
  refine W_seq ?_
  refine W_seq ?_
  refine W_region ?_
  refine wl_q (r_move (.slice _ _ _) rfl) rfl rfl ?_
  refine wl_q (r_lenS Tryd.underlying22 rfl) rfl rfl ?_
  refine wl_q (r_move (.int _ _) rfl) rfl rfl ?_
  refine wl_nil ?_
  refine thenN ?_
  refine W_block ?_
  refine W_loop (σ := Nat × List Row) [2, 3, 4, 5, 12, 13] (fun (k, rs) => [(14, .int .i64 (k : Int))]) (fun (k, rs) w' => (k ≤ n ∧ GridRows 25 rs (gOf (xs.take k))) ∧ Mem w [] ([em] ++ ((some b2, bc (gcells rs (k : Int)) 67) :: rs.map Row.e)) w') (fun (k, rs) => n - k) (0, List.replicate 1024 nilRow) (agC rfl agN) (⟨⟨by omega, by rw [List.take_zero]; exact grid_new _⟩, M3⟩) ?_
  rintro ⟨k, rs⟩ ρ4 w4 ⟨⟨hk, hrs⟩, hM4⟩
  refine W_seq ?_
  refine W_region ?_
  refine wl_q (r_bin (.bool (decide _)) rfl rfl rfl) rfl rfl ?_
  refine wl_nil ?_
  refine thenN ?_
  refine W_seq ?_
  refine W_condD rfl (fun h15 => ?_) (fun h15 => ?_)
  · skip
    obtain ⟨xb, hxb⟩ := getSome (k := k) hlen (by omega)
    refine W_skip ?_
    refine thenN ?_
    refine W_seq ?_
    refine W_block ?_
    refine W_seq ?_
    refine W_region ?_
    refine wl_q (r_idxR (k) sl22 rfl rfl rfl ((R.mem hM4).below_len (mapGet bodyCells hxb)) ((R.mem hM4).someK (mapGet bodyCells hxb))) rfl rfl ?_
    refine wl_q (r_ldEA _ agg49 (R.mem hM4) (mapGet bodyCells hxb) rfl) rfl rfl ?_
    refine wl_alloc zero49 hM4 rfl rfl (fun b5 w5 M5 => ?_)
    have M6 : Mem _ _ ([_, _] ++ _) _ := Mem.front (L := [_]) M5
    refine wl_stW 1 _ agg49 M6 rfl rfl rfl rfl rfl (ones_of rfl) rfl (fun w7 M7 => ?_)
    refine wl_nil ?_
    refine thenN ?_
    refine W_region ?_
    refine wl_q (r_fieldAddr 0 fld49_0 rfl) rfl rfl ?_
    refine wl_q (r_ld 1 (.int _ _) one25 M7 rfl rfl rfl) rfl rfl ?_
    refine wl_q (r_move (.map _) rfl) rfl rfl ?_
    refine wl_q (r_fieldAddr 0 fld49_0 rfl) rfl rfl ?_
    refine wl_q (r_ld 1 (.int _ _) one25 M7 rfl rfl rfl) rfl rfl ?_
    refine wl_q (r_lookup1 (enc := encBx) z0B 0 map63 zv32 M7 rfl hme rfl rfl) rfl rfl ?_
    refine wl_re 23 (.agg (bxCells (boxOf xb)).toArray) (congrArg encBx (by rw [bxM_get hs (List.mem_of_getElem? hxb)]; rfl)) ?_
    refine wl_cal cal30 rfl rfl rfl ?_
    refine (grid_Insert _ (F.mem M7) b2 rs (k : Int) (gOf (xs.take k)) hrs ⟨by omega, by omega⟩ (fun j _ => Nat.le_trans (gOf_len _ _) (by simp; omega)) xb.key (boxOf xb) (box_ok (hb xb (List.mem_of_getElem? hxb))) (Mem.ownTail (L := [_, _]) M7) (Mem.awayTail (L := [_, _]) M7 F)).mono ?_
    rintro _ w8 ⟨v8, rfl, ⟨rfl, rs2, hrs2, hM8⟩⟩
    refine ⟨_, rfl, ?_⟩
    have M8 : Mem _ _ ([_, _] ++ _) _ := Mem.tail (L := [_, _]) M7 hM8
    refine wl_nil ?_
    refine blkN ?_
    refine thenN ?_
    refine W_region ?_
    refine wl_q (r_add rfl rfl (by omega) (by omega)) rfl rfl ?_
    refine wl_q (r_move (.int _ _) rfl) rfl rfl ?_
    refine wl_nil ?_
    refine roundN (k + 1, rs2) (agC rfl agN) (akC rfl (akC rfl (akC rfl (akC rfl (akC rfl (akC rfl akN)))))) ?_ ?_
    · exact ⟨⟨by omega, by rw [gOf_snoc hxb]; exact hrs2⟩, Mem.keepL (L := [_, _]) [true, false] M8⟩
    · (show n - (k + 1) < n - k; omega)
  · skip
    have hkn : k = n := by omega
    rw [List.take_of_length_le (by omega)] at hrs
    refine W_exit ?_
    refine thenX ?_
    refine roundX ?_
    refine blkH ?_
    refine thenN ?_
    refine W_seq ?_
    refine W_region ?_
    refine wl_q (r_move (.map _) rfl) rfl rfl ?_
    refine wl_cal cal31 rfl rfl rfl ?_
    refine (pairs_counting _ pm).mono ?_
    rintro _ w9 ⟨v9, rfl, ⟨bm, bn, rfl, hM9⟩⟩
    refine ⟨_, rfl, ?_⟩
    have M9 : Mem _ _ ([_, _, _] ++ _) _ := Mem.front (L := [_]) (hM4.call0 hM9)
    refine wl_q (r_move (.tuple (List.toArray _)) rfl) rfl rfl ?_
    refine wl_q (r_ext (.func _ _ _) rfl rfl) rfl rfl ?_
    refine wl_q (r_ext (.func _ _ _) rfl rfl) rfl rfl ?_
    refine wl_q (r_assign (.func _ _ _) rfl) rfl rfl ?_
    refine wl_q (r_assign (.func _ _ _) rfl) rfl rfl ?_
    refine wl_nil ?_
    refine thenN ?_
    refine W_seq ?_
    refine W_region ?_
    refine wl_cal cal33 rfl rfl rfl ?_
    refine (grid_Candidates _ b2 rs (k : Int) (gOf xs) hrs.len (Mem.gridRd (L := [_, _, _]) M9 hrs.len) (fun j r hr => Mem.rowRd (L := [_, _, _]) M9 hrs j r hr) (xs.map (·.key)) (fun j _ x hx => by obtain ⟨b, h1, _, rfl⟩ := mem_gOf.1 hx; exact List.mem_map.2 ⟨b, h1, rfl⟩) (by simp; omega)).mono ?_
    rintro _ w10 ⟨v10, rfl, ⟨r, ps, hasc, hps, rfl, hr, hM10⟩⟩
    refine ⟨_, rfl, ?_⟩
    have M10 : Mem _ _ ([_, _, _, _] ++ _) _ := Mem.front (L := [_, _, _]) (M9.call0 hM10)
    have hpl := cands_len hs hasc hps
    have hrl : ps.length = r.n := by simpa using hr.1
    have hnn : xs.length * (xs.length - 1) ≤ 4096 * 4096 := Nat.mul_le_mul (by omega) (by omega)
    refine wl_q (r_move (.func _ _ _) rfl) rfl rfl ?_
    have M11 : Mem _ _ [_, _, _, _] _ := Mem.order4 M10
    refine wl_cal cal32 rfl rfl rfl ?_
    refine (slices_DeleteFuncP _ r.A r.n r.c ps r.e hr bn bm 0 (bxM xs) pm em hme (rdOf 3 M11 rfl rfl) (N.mem M11) (M11.ownSeg 0 3) (M11.apartTake 3 3 rfl rfl) (M11.away 0 3 N (fun _ q off _ h => by simp at h)) (by omega) (by omega)).mono ?_
    rintro _ w12 ⟨v12, rfl, ⟨r2, rfl, hr2, hM12⟩⟩
    refine ⟨_, rfl, ?_⟩
    have M12 : Mem _ _ [_, _, _, _] _ := M11.seg 0 3 hM12
    have hfl : (findP xs).length ≤ ps.length := by rw [← cands_find hs hasc hps]; exact List.length_filter_le _ _
    rw [cands_find hs hasc hps] at hr2
    refine wl_q (r_assign (.slice _ _ _) rfl) rfl rfl ?_
    refine wl_nil ?_
    refine thenN ?_
    refine W_seq ?_
    refine W_region ?_
    refine wl_q (r_move (.slice _ _ _) rfl) rfl rfl ?_
    refine wl_q (r_move (.func _ _ _) rfl) rfl rfl ?_
    refine wl_cal cal48 rfl rfl rfl ?_
    refine (pairs_counted _ bn _ (rdOf 1 M12 rfl rfl)).mono ?_
    rintro _ w13 ⟨v13, rfl, ⟨rfl, hb13⟩⟩
    refine ⟨_, rfl, ?_⟩
    have M13 := M12.callB hb13
    refine wl_q (r_assign (.slice _ _ _) rfl) rfl rfl ?_
    refine wl_q (r_assign (.int _ _) rfl) rfl rfl ?_
    refine wl_nil ?_
    refine thenN ?_
    refine W_ret ?_
    skip
    refine fin2 (.slice _ _ _) (.int _ _) rfl rfl ?_
    exact ⟨r2, 0 + r.n, rfl, by omega, by omega, hr2, M13.keep [true, false, false, false]⟩

end Go.Proofs.YtfgbmegchdjfeaaDoor
