/- Part of the proof of the laws of this seat: O25, P25, Q25, R25, A25. No conditions. -/
import Derived.Test.YtmcddmhkjcgneaaGreatDoorK5
import Derived.Test.YtmcddmhkjcgneaaGreatDoorK28
import Derived.Test.YtmcddmhkjcgneaaGreatDoorK16
import Derived.Test.YtmcddmhkjcgneaaGreatDoorK29
import Derived.Test.YtmcddmhkjcgneaaGreatDoorK23
import Derived.Test.YtmcddmhkjcgneaaGreatDoorK25
/- Walks of Go functions over the frame of this claim: what each computes, for every input of the stated types (O25). -/
set_option linter.unusedVariables false
set_option linter.unusedSimpArgs false
set_option linter.unnecessarySimpa false
namespace Go.Proofs.YtmcddmhkjcgneaaGreatDoor
open Go.Bil
open Go.RowKit (Below)
open Go.Proofs

set_option maxHeartbeats 16000000 in
theorem isl_Of (w : World) (A : Option Addr) (n c : Nat) (xs : List Body) (R : Rd w 10 A n (xs.map bodyCells)) (B : Option Addr) (mc c' : Nat) (cs : List Con) (R' : Rd w 5 B mc (cs.map conCells)) (hb : ∀ b ∈ xs, Okb b) (hs : Sorted xs) (hn : n ≤ 4096) (hkx : ∀ b ∈ xs, 0 ≤ b.key) :
    Calls Tryz.prog 26 #[.slice A n c, .slice B mc c'] w (fun ex w' => ∃ v, ex = .returned v ∧ (fun v w' => ∃ (q : Row) (rs : List Row), v = .slice q.A q.n q.c ∧ RowIs 52 1 q.A q.n q.c ((rs).map hdr) q.e ∧ IslR 30 rs (islL (forestOf xs cs) xs) ∧ Mem w [] ([q.e] ++ rs.map Row.e) w') v w') := by
  have hlen : xs.length = n := by simpa using R.len
  have hbd := R.bound
  have hlen' : cs.length = mc := by simpa using R'.len
  have hbd' := R'.bound
  refine calls_of_W #[.tmp 4] 120 Tryz.func26 rfl Tryz.results26 Tryz.ntmps26 rfl ?_
  have M0 := Mem.refl w
  refine W_seq ?_
  refine W_region ?_
  refine wl_q (r_assign (.slice _ _ _) rfl) rfl rfl ?_
  refine wl_nil ?_
  refine thenN ?_
  refine W_seq ?_
  refine W_region ?_
  refine wl_makeMap M0 rfl rfl (fun b1 w1 M1 => ?_)
  refine wl_q (r_assign (.map _) rfl) rfl rfl ?_
  refine wl_nil ?_
  refine thenN ?_
  refine W_seq ?_
  refine W_seq ?_
  refine W_region ?_
  refine wl_q (r_move (.slice _ _ _) rfl) rfl rfl ?_
  refine wl_q (r_lenS Tryz.underlying22 rfl) rfl rfl ?_
  refine wl_q (r_move (.int _ _) rfl) rfl rfl ?_
  refine wl_nil ?_
  refine thenN ?_
  refine W_block ?_
  refine W_loop (σ := Nat × Ent) [0, 1, 4, 5, 22, 23] (fun (k, em) => [(24, .int .i64 (k : Int))]) (fun (k, em) w' => (k ≤ n ∧ MapE .u32 (Value.int .u32) (dynM (xs.take k)) (some b1) em) ∧ Mem w [] [em] w') (fun (k, em) => n - k) (0, (some b1, .map #[] 0)) (agC rfl agN) (⟨⟨by omega, (MapE.empty _ _ b1).congr (fun q => by rw [List.take_zero]; exact dynM_nil q)⟩, M1⟩) ?_
  rintro ⟨k, em⟩ ρ2 w2 ⟨⟨hk, hme⟩, hM2⟩
  refine W_seq ?_
  refine W_region ?_
  refine wl_q (r_bin (.bool (decide _)) rfl rfl rfl) rfl rfl ?_
  refine wl_nil ?_
  refine thenN ?_
  refine W_seq ?_
  refine W_condD rfl (fun h25 => ?_) (fun h25 => ?_)
  · skip
    obtain ⟨xb, hxb⟩ := getSome (k := k) hlen (by omega)
    refine W_skip ?_
    refine thenN ?_
    refine W_seq ?_
    refine W_block ?_
    refine W_seq ?_
    refine W_region ?_
    refine wl_q (r_idxR (k) sl22 rfl rfl rfl ((R.mem hM2).below_len (mapGet bodyCells hxb)) ((R.mem hM2).someK (mapGet bodyCells hxb))) rfl rfl ?_
    refine wl_q (r_ldEA _ agg32 (R.mem hM2) (mapGet bodyCells hxb) rfl) rfl rfl ?_
    refine wl_alloc zero32 hM2 rfl rfl (fun b3 w3 M3 => ?_)
    refine wl_stW 1 _ agg32 M3 rfl rfl rfl rfl rfl (ones_of rfl) rfl (fun w4 M4 => ?_)
    refine wl_nil ?_
    refine thenN ?_
    refine W_seq ?_
    refine W_region ?_
    refine wl_q (r_ldW 1 agg32 M4 rfl rfl rfl) rfl rfl ?_
    refine wl_cal cal50 rfl rfl rfl ?_
    refine (body_IsStatic _ xb).mono ?_
    rintro _ w5 ⟨v5, rfl, ⟨rfl, hb5⟩⟩
    refine ⟨_, rfl, ?_⟩
    have M5 := M4.callB hb5
    refine wl_q (r_not rfl) rfl rfl ?_
    refine wl_nil ?_
    refine thenN ?_
    refine W_condD rfl (fun h30 => ?_) (fun h30 => ?_)
    · skip
      refine W_region ?_
      refine wl_q (r_move (.map _) rfl) rfl rfl ?_
      refine wl_q (r_fieldAddr 0 fld32_0 rfl) rfl rfl ?_
      refine wl_q (r_ld 1 (.int _ _) one30 M5 rfl rfl rfl) rfl rfl ?_
      refine wl_q (r_fieldAddr 0 fld32_0 rfl) rfl rfl ?_
      refine wl_q (r_ld 1 (.int _ _) one30 M5 rfl rfl rfl) rfl rfl ?_
      refine wl_mapUpdate (enc := (Value.int .u32)) 0 map89 M5 rfl rfl hme rfl rfl rfl rfl (fun e6 w6 hm6 M6 => ?_)
      refine wl_nil ?_
      refine blkN ?_
      refine thenN ?_
      refine W_region ?_
      refine wl_q (r_add rfl rfl (by omega) (by omega)) rfl rfl ?_
      refine wl_q (r_move (.int _ _) rfl) rfl rfl ?_
      refine wl_nil ?_
      refine roundN (k + 1, e6) (agC rfl agN) (akC rfl (akC rfl (akC rfl (akC rfl (akC rfl (akC rfl akN)))))) ?_ ?_
      · exact ⟨⟨by omega, hm6.congr (fun q => by rw [dynM_snoc hxb]; simp [h30])⟩, M6.keep [true, false]⟩
      · (show n - (k + 1) < n - k; omega)
    · skip
      refine W_skip ?_
      refine blkN ?_
      refine thenN ?_
      refine W_region ?_
      refine wl_q (r_add rfl rfl (by omega) (by omega)) rfl rfl ?_
      refine wl_q (r_move (.int _ _) rfl) rfl rfl ?_
      refine wl_nil ?_
      refine roundN (k + 1, em) (agC rfl agN) (akC rfl (akC rfl (akC rfl (akC rfl (akC rfl (akC rfl akN)))))) ?_ ?_
      · exact ⟨⟨by omega, hme.congr (fun q => by rw [dynM_snoc hxb, if_neg (fun h => h30 h.2)])⟩, M5.keep [true, false]⟩
      · (show n - (k + 1) < n - k; omega)
  · skip
    obtain rfl : n = k := by omega
    rw [List.take_of_length_le (by omega)] at hme
    refine W_exit ?_
    refine thenX ?_
    refine roundX ?_
    refine blkH ?_
    refine thenN ?_
    refine W_seq ?_
    refine W_seq ?_
    refine W_region ?_
    refine wl_q (r_move (.slice _ _ _) rfl) rfl rfl ?_
    refine wl_q (r_lenS Tryz.underlying45 rfl) rfl rfl ?_
    refine wl_q (r_move (.int _ _) rfl) rfl rfl ?_
    refine wl_nil ?_
    refine thenN ?_
    refine W_block ?_
    refine W_loop (σ := Nat × Ent) [0, 4, 5, 37, 38] (fun (k, em) => [(39, .int .i64 (k : Int))]) (fun (k, em) w' => (k ≤ mc ∧ MapE .u32 (Value.int .u32) (forestOf xs (cs.take k)) (some b1) em) ∧ Mem w [] [em] w') (fun (k, em) => mc - k) (0, em) (agC rfl agN) (⟨⟨by omega, hme.congr (fun q => by rw [List.take_zero]; rfl)⟩, hM2⟩) ?_
    rintro ⟨k, em⟩ ρ7 w7 ⟨⟨hk, hme⟩, hM7⟩
    refine W_seq ?_
    refine W_region ?_
    refine wl_q (r_bin (.bool (decide _)) rfl rfl rfl) rfl rfl ?_
    refine wl_nil ?_
    refine thenN ?_
    refine W_seq ?_
    refine W_condD rfl (fun h40 => ?_) (fun h40 => ?_)
    · skip
      obtain ⟨xc, hxc⟩ := getSome (xs := cs) (k := k) hlen' (by omega)
      have hff := forest_fst hkx (cs.take k)
      refine W_skip ?_
      refine thenN ?_
      refine W_seq ?_
      refine W_block ?_
      refine W_seq ?_
      refine W_region ?_
      refine wl_q (r_idxR (k) sl45 rfl rfl rfl ((R'.mem hM7).below_len (mapGet conCells hxc)) ((R'.mem hM7).someK (mapGet conCells hxc))) rfl rfl ?_
      refine wl_q (r_ldEA _ agg63 (R'.mem hM7) (mapGet conCells hxc) rfl) rfl rfl ?_
      refine wl_alloc zero63 hM7 rfl rfl (fun b8 w8 M8 => ?_)
      refine wl_stW 1 _ agg63 M8 rfl rfl rfl rfl rfl (ones_of rfl) rfl (fun w9 M9 => ?_)
      refine wl_nil ?_
      refine thenN ?_
      refine W_seq ?_
      refine W_region ?_
      refine wl_q (r_move (.map _) rfl) rfl rfl ?_
      refine wl_q (r_fieldAddr 0 fld63_0 rfl) rfl rfl ?_
      refine wl_q (r_fieldAddr 0 fld61_0 rfl) rfl rfl ?_
      refine wl_q (r_ld 1 (.int _ _) one30 M9 rfl rfl rfl) rfl rfl ?_
      refine wl_q (r_lookup (enc := (Value.int .u32)) 0 0 map89 zv30 M9 rfl hme rfl rfl) rfl rfl ?_
      refine wl_q (r_move (.tuple (List.toArray _)) rfl) rfl rfl ?_
      refine wl_q (r_ext (.int _ _) rfl rfl) rfl rfl ?_
      refine wl_q (r_ext (.bool _) rfl rfl) rfl rfl ?_
      refine wl_q (r_assign (.int _ _) rfl) rfl rfl ?_
      refine wl_q (r_assign (.bool _) rfl) rfl rfl ?_
      refine wl_nil ?_
      refine thenN ?_
      refine W_seq ?_
      refine W_region ?_
      refine wl_q (r_move (.map _) rfl) rfl rfl ?_
      refine wl_q (r_fieldAddr 0 fld63_0 rfl) rfl rfl ?_
      refine wl_q (r_fieldAddr 1 fld61_1 rfl) rfl rfl ?_
      refine wl_q (r_ld 1 (.int _ _) one30 M9 rfl rfl rfl) rfl rfl ?_
      refine wl_q (r_lookup (enc := (Value.int .u32)) 0 0 map89 zv30 M9 rfl hme rfl rfl) rfl rfl ?_
      refine wl_q (r_move (.tuple (List.toArray _)) rfl) rfl rfl ?_
      refine wl_q (r_ext (.int _ _) rfl rfl) rfl rfl ?_
      refine wl_q (r_ext (.bool _) rfl rfl) rfl rfl ?_
      refine wl_q (r_assign (.int _ _) rfl) rfl rfl ?_
      refine wl_q (r_assign (.bool _) rfl) rfl rfl ?_
      refine wl_nil ?_
      refine thenN ?_
      refine W_seq ?_
      refine W_region ?_
      refine wl_q (r_move (.bool _) rfl) rfl rfl ?_
      refine wl_q (r_move (.bool _) rfl) rfl rfl ?_
      refine wl_split 60 _ rfl (fun g60 => ?_) (fun g60 => ?_)
      · skip
        refine wl_q (r_move (.bool _) rfl) rfl rfl ?_
        refine wl_q (r_pick true (.bool _) rfl rfl) rfl rfl ?_
        refine wl_nil ?_
        refine thenN ?_
        refine W_cond _ rfl (fun h62 => ?_) (fun h62 => ?_)
        · skip
          obtain ⟨pl, hpl⟩ := Option.isSome_iff_exists.1 g60
          obtain ⟨ph, hph⟩ := Option.isSome_iff_exists.1 h62
          refine W_region ?_
          refine wl_q (r_move (.map _) rfl) rfl rfl ?_
          refine wl_q (r_fieldAddr 0 fld63_0 rfl) rfl rfl ?_
          refine wl_q (r_fieldAddr 0 fld61_0 rfl) rfl rfl ?_
          refine wl_q (r_ld 1 (.int _ _) one30 M9 rfl rfl rfl) rfl rfl ?_
          refine wl_q (r_fieldAddr 0 fld63_0 rfl) rfl rfl ?_
          refine wl_q (r_fieldAddr 1 fld61_1 rfl) rfl rfl ?_
          refine wl_q (r_ld 1 (.int _ _) one30 M9 rfl rfl rfl) rfl rfl ?_
          refine wl_cal cal51 rfl rfl rfl ?_
          refine (isl_join _ (forestOf xs (cs.take k)) b1 em hme hff.F xc.low xc.high pl ph hpl hph (M9.ownSeg 0 1)).mono ?_
          rintro _ w10 ⟨v10, rfl, ⟨rfl, em2, hme2, hM10⟩⟩
          refine ⟨_, rfl, ?_⟩
          have M10 : Mem _ _ [_, _] _ := M9.seg 0 1 hM10
          refine wl_nil ?_
          refine blkN ?_
          refine thenN ?_
          refine W_region ?_
          refine wl_q (r_add rfl rfl (by omega) (by omega)) rfl rfl ?_
          refine wl_q (r_move (.int _ _) rfl) rfl rfl ?_
          refine wl_nil ?_
          refine roundN (k + 1, em2) (agC rfl agN) (akC rfl (akC rfl (akC rfl (akC rfl (akC rfl akN))))) ?_ ?_
          · exact ⟨⟨by omega, by rw [forestOf_snoc hxc]; unfold linkK; rw [if_pos ⟨g60, h62⟩]; exact hme2⟩, M10.keep [true, false]⟩
          · (show mc - (k + 1) < mc - k; omega)
        · skip
          refine W_skip ?_
          refine blkN ?_
          refine thenN ?_
          refine W_region ?_
          refine wl_q (r_add rfl rfl (by omega) (by omega)) rfl rfl ?_
          refine wl_q (r_move (.int _ _) rfl) rfl rfl ?_
          refine wl_nil ?_
          refine roundN (k + 1, em) (agC rfl agN) (akC rfl (akC rfl (akC rfl (akC rfl (akC rfl akN))))) ?_ ?_
          · exact ⟨⟨by omega, by rw [forestOf_snoc hxc]; unfold linkK; rw [if_neg (fun h => by rw [h.2] at h62; cases h62)]; exact hme⟩, M9.keep [true, false]⟩
          · (show mc - (k + 1) < mc - k; omega)
      · skip
        refine wl_skip rfl rfl ?_
        refine wl_q (r_pick false (.bool false) rfl rfl) rfl rfl ?_
        refine wl_nil ?_
        refine thenN ?_
        refine W_condF rfl ?_
        refine W_skip ?_
        refine blkN ?_
        refine thenN ?_
        refine W_region ?_
        refine wl_q (r_add rfl rfl (by omega) (by omega)) rfl rfl ?_
        refine wl_q (r_move (.int _ _) rfl) rfl rfl ?_
        refine wl_nil ?_
        refine roundN (k + 1, em) (agC rfl agN) (akC rfl (akC rfl (akC rfl (akC rfl (akC rfl akN))))) ?_ ?_
        · exact ⟨⟨by omega, by rw [forestOf_snoc hxc]; unfold linkK; rw [if_neg (fun h => by rw [h.1] at g60; cases g60)]; exact hme⟩, M9.keep [true, false]⟩
        · (show mc - (k + 1) < mc - k; omega)
    · skip
      obtain rfl : mc = k := by omega
      rw [List.take_of_length_le (by omega)] at hme
      have hFF := forest_fst hkx cs
      refine W_exit ?_
      refine thenX ?_
      refine roundX ?_
      refine blkH ?_
      refine thenN ?_
      refine W_seq ?_
      refine W_region ?_
      refine wl_makeMap hM7 rfl rfl (fun b11 w11 M11 => ?_)
      refine wl_q (r_assign (.map _) rfl) rfl rfl ?_
      refine wl_nil ?_
      refine thenN ?_
      refine W_seq ?_
      refine W_region ?_
      refine wl_q (r_assign (.slice _ _ _) rfl) rfl rfl ?_
      have M12 := M11.dummy default
      refine wl_nil ?_
      refine thenN ?_
      refine W_seq ?_
      refine W_seq ?_
      refine W_region ?_
      refine wl_q (r_move (.slice _ _ _) rfl) rfl rfl ?_
      refine wl_q (r_lenS Tryz.underlying22 rfl) rfl rfl ?_
      refine wl_q (r_move (.int _ _) rfl) rfl rfl ?_
      refine wl_nil ?_
      refine thenN ?_
      refine W_block ?_
      refine W_loop (σ := Nat × Ent × Row × List Row) [4, 5, 14, 73, 74] (fun (i, ea, q, rs) => [(15, .slice q.A q.n q.c), (75, .int .i64 (i : Int))]) (fun (i, ea, q, rs) w' => (i ≤ n ∧ MapE .u32 (Value.int .i64) (atM (forestOf xs cs) (xs.take i)) (some b11) ea ∧ RowIs 52 1 q.A q.n q.c ((rs).map hdr) q.e ∧ IslR 30 rs (islL (forestOf xs cs) (xs.take i))) ∧ Mem w [] ([em, ea, q.e] ++ rs.map Row.e) w') (fun (i, ea, q, rs) => n - i) (0, (some b11, .map #[] 0), nilRow, []) (agC rfl (agC rfl agN)) (⟨⟨by omega, (MapE.empty _ _ b11).congr (fun q => by rw [List.take_zero]; rfl), RowIs.nil _ _ _, by rw [List.take_zero]; exact IslR.nil _⟩, M12⟩) ?_
      rintro ⟨i, ea, q, rs⟩ ρ13 w13 ⟨⟨hi, hat, hq, hI⟩, hM13⟩
      have hrl := roots_len (forestOf xs cs) (xs.take i)
      have htl := List.length_take_le i xs
      have hqn0 : rs.length = q.n := by simpa using hq.1
      have hil := islL_len (forestOf xs cs) (xs.take i)
      have hIl := hI.len
      refine W_seq ?_
      refine W_region ?_
      refine wl_q (r_bin (.bool (decide _)) rfl rfl rfl) rfl rfl ?_
      refine wl_nil ?_
      refine thenN ?_
      refine W_seq ?_
      refine W_condD rfl (fun h76 => ?_) (fun h76 => ?_)
      · skip
        obtain ⟨xb, hxb⟩ := getSome (k := i) hlen (by omega)
        have hxm := List.mem_of_getElem? hxb
        refine W_skip ?_
        refine thenN ?_
        refine W_seq ?_
        refine W_block ?_
        refine W_seq ?_
        refine W_region ?_
        refine wl_q (r_idxR (i) sl22 rfl rfl rfl ((R.mem hM13).below_len (mapGet bodyCells hxb)) ((R.mem hM13).someK (mapGet bodyCells hxb))) rfl rfl ?_
        refine wl_q (r_ldEA _ agg32 (R.mem hM13) (mapGet bodyCells hxb) rfl) rfl rfl ?_
        refine wl_alloc zero32 hM13 rfl rfl (fun b14 w14 M14 => ?_)
        have M15 : Mem _ _ ([_, _, _, _] ++ _) _ := Mem.front (L := [_, _, _]) M14
        refine wl_stW 3 _ agg32 M15 rfl rfl rfl rfl rfl (ones_of rfl) rfl (fun w16 M16 => ?_)
        refine wl_nil ?_
        refine thenN ?_
        refine W_seq ?_
        refine W_seq ?_
        refine W_region ?_
        refine wl_q (r_move (.map _) rfl) rfl rfl ?_
        refine wl_q (r_fieldAddr 0 fld32_0 rfl) rfl rfl ?_
        refine wl_q (r_ld 3 (.int _ _) one30 M16 rfl rfl rfl) rfl rfl ?_
        refine wl_q (r_lookup (enc := (Value.int .u32)) 0 0 map89 zv30 M16 rfl hme rfl rfl) rfl rfl ?_
        refine wl_q (r_move (.tuple (List.toArray _)) rfl) rfl rfl ?_
        refine wl_q (r_ext (.int _ _) rfl rfl) rfl rfl ?_
        refine wl_q (r_ext (.bool _) rfl rfl) rfl rfl ?_
        refine wl_q (r_assign (.int _ _) rfl) rfl rfl ?_
        refine wl_q (r_assign (.bool _) rfl) rfl rfl ?_
        refine wl_nil ?_
        refine thenN ?_
        refine W_seq ?_
        refine W_region ?_
        refine wl_q (r_move (.bool _) rfl) rfl rfl ?_
        refine wl_q (r_notB _ rfl rfl) rfl rfl ?_
        refine wl_nil ?_
        refine thenN ?_
        refine W_cond _ rfl (fun h87 => ?_) (fun h87 => ?_)
        · skip
          have hst : xb.mass = 0 := fst_none hFF hs hxm (by simpa using h87)
          refine W_exit ?_
          refine thenX ?_
          refine blkH ?_
          refine thenN ?_
          refine W_region ?_
          refine wl_q (r_add rfl rfl (by omega) (by omega)) rfl rfl ?_
          refine wl_q (r_move (.int _ _) rfl) rfl rfl ?_
          refine wl_nil ?_
          refine roundN (i + 1, ea, q, rs) (agC rfl (agC rfl agN)) (akC rfl (akC rfl (akC rfl (akC rfl (akC rfl akN))))) ?_ ?_
          · exact ⟨⟨by omega, hat.congr (isl_next_static hxb hst).2, hq, by rw [(isl_next_static hxb hst).1]; exact hI⟩, Mem.keepL (L := [_, _, _, _]) [true, true, true, false] M16⟩
          · (show n - (i + 1) < n - i; omega)
        · skip
          obtain ⟨pk, hpk⟩ := Option.isSome_iff_exists.1 (show (forestOf xs cs xb.key).isSome = true by simpa using h87)
          have hmass := fst_some hFF hs hxm hpk
          refine W_skip ?_
          refine thenN ?_
          refine W_seq ?_
          refine W_region ?_
          refine wl_q (r_move (.map _) rfl) rfl rfl ?_
          refine wl_q (r_fieldAddr 0 fld32_0 rfl) rfl rfl ?_
          refine wl_q (r_ld 3 (.int _ _) one30 M16 rfl rfl rfl) rfl rfl ?_
          refine wl_cal cal52 rfl rfl rfl ?_
          refine (isl_root _ (forestOf xs cs) _ em hme hFF.F xb.key pk hpk (M16.ownSeg 0 1)).mono ?_
          rintro _ w17 ⟨v17, rfl, ⟨rfl, hM17⟩⟩
          refine ⟨_, rfl, ?_⟩
          have M17 : Mem _ _ ([_, _, _, _] ++ _) _ := (show Mem _ _ ([em] ++ ([_, _, _] ++ rs.map Row.e)) _ from Mem.call (A := [em]) (A' := [em]) (R := [_, _, _] ++ rs.map Row.e) M16 hM17)
          refine wl_q (r_assign (.int _ _) rfl) rfl rfl ?_
          refine wl_nil ?_
          refine thenN ?_
          refine W_seq ?_
          refine W_seq ?_
          refine W_region ?_
          refine wl_q (r_move (.int _ _) rfl) rfl rfl ?_
          refine wl_q (r_fieldAddr 0 fld32_0 rfl) rfl rfl ?_
          refine wl_q (r_ld 3 (.int _ _) one30 M17 rfl rfl rfl) rfl rfl ?_
          refine wl_q (r_bin (.bool (decide _)) rfl rfl rfl) rfl rfl ?_
          refine wl_nil ?_
          refine thenN ?_
          refine W_condD rfl (fun h95 => ?_) (fun h95 => ?_)
          · skip
            refine W_seq ?_
            refine W_region ?_
            refine wl_q (r_move (.map _) rfl) rfl rfl ?_
            refine wl_q (r_move (.int _ _) rfl) rfl rfl ?_
            refine wl_q (r_move (.slice _ _ _) rfl) rfl rfl ?_
            refine wl_q (r_lenS Tryz.underlying50 rfl) rfl rfl ?_
            refine wl_mapUpdate (enc := (Value.int .i64)) 1 map92 M17 rfl rfl hat rfl rfl rfl rfl (fun e18 w18 hm18 M18 => ?_)
            refine wl_nil ?_
            refine thenN ?_
            refine W_region ?_
            refine wl_q (r_move (.slice _ _ _) rfl) rfl rfl ?_
            refine wl_bslice [.slice _ _ _] [[.slice none 0 0]] rfl sl50 M18 rfl rfl rfl rfl (lens_of rfl) (by decide) (fun b19 w19 M19 => ?_)
            have M20 : Mem _ _ ([_, _, _, _, _] ++ _) _ := Mem.front (L := [_, _, _, _]) M19
            refine wl_append 2 [[.slice none 0 0]] sl50 M20 rfl rfl rfl rfl rfl hq rfl (by simp [Go.Bil.one]) (Cells.ofMem 4 M20 rfl) (by omega) (fun A21 c21 e21 w21 M21 hR21 => ?_)
            refine wl_q (r_assign (.slice _ _ _) rfl) rfl rfl ?_
            refine wl_nil ?_
            refine thenN ?_
            refine W_draw [(0, 0), (1, 0), (2, 0), (3, 1), (4, 0), (5, 0), (6, 0), (7, 1), (8, 1), (9, 1), (10, 0), (11, 1), (12, 2), (13, 2), (14, 1), (15, 2)] mixed rfl (by kernel_rfl) (fun w22 hb22 hh22 => ?_)
            have M22 := M21.drew hb22 hh22
            have hqn : rs.length = q.n := by simpa using hq.1
            obtain ⟨l0, hl0n, hnx, hlj, hnat⟩ := isl_next_root hFF hs hxb hmass h95
            have hI0 := hI.snoc
            have hrow0 : RowIs 52 1 A21 (q.n + 1) c21 ((rs ++ [nilRow]).map hdr) e21 := by rw [List.map_append]; exact hR21
            have M23 : Mem _ _ ([_, _, _, _, _] ++ (rs ++ [nilRow]).map Row.e) _ := Mem.dummyTail (L := [_, _, _, _, _]) M22
            obtain ⟨j, hj⟩ : ∃ j, j = (islL (forestOf xs cs) (xs.take i)).length := ⟨_, rfl⟩
            rw [← hj] at hnx hlj hnat
            have hjn : j = q.n := by rw [hj, ← hI.len]; exact hqn
            obtain ⟨rs0, hrs0⟩ : ∃ z, z = rs ++ [nilRow] := ⟨_, rfl⟩
            obtain ⟨L0, hL0⟩ : ∃ z, z = islL (forestOf xs cs) (xs.take i) ++ [[]] := ⟨_, rfl⟩
            rw [← hrs0] at M23 hrow0 hI0
            rw [← hL0] at hI0 hnx hlj
            have hjl : j < L0.length := (List.getElem?_eq_some_iff.1 hlj).1
            have hjr : j < rs0.length := by rw [hI0.len]; exact hjl
            obtain ⟨rb, hrb⟩ : ∃ r, rs0[j]? = some r := ⟨_, List.getElem?_eq_getElem hjr⟩
            have hrowb := hI0.row j rb l0 hrb hlj
            have hrbn : l0.length = rb.n := by simpa using hrowb.1
            refine D_p rfl rfl rfl (fun _ => r_move (.slice _ _ _) rfl) ?_
            refine D_p rfl rfl rfl (fun _ => r_move (.map _) rfl) ?_
            refine D_p rfl rfl rfl (fun _ => r_move (.int _ _) rfl) ?_
            refine D_r rfl rfl rfl (r_lookup1 (enc := (Value.int .i64)) 0 1 map92 zv3 M23 rfl hm18 rfl rfl) ?_
            refine D_re 106 (.int .i64 (j : Int)) (congrArg (Value.int .i64) (by show (Option.getD (if rt (forestOf xs cs) xb.key = rt (forestOf xs cs) xb.key then some (q.n : Int) else _) 0) = _; rw [if_pos rfl]; show (q.n : Int) = _; omega)) ?_
            refine D_p rfl rfl rfl (fun _ => r_move (.slice _ _ _) rfl) ?_
            refine D_p rfl rfl rfl (fun _ => r_move (.map _) rfl) ?_
            refine D_p rfl rfl rfl (fun _ => r_move (.int _ _) rfl) ?_
            refine D_r rfl rfl rfl (r_lookup1 (enc := (Value.int .i64)) 0 1 map92 zv3 M23 rfl hm18 rfl rfl) ?_
            refine D_re 110 (.int .i64 (j : Int)) (congrArg (Value.int .i64) (by show (Option.getD (if rt (forestOf xs cs) xb.key = rt (forestOf xs cs) xb.key then some (q.n : Int) else _) 0) = _; rw [if_pos rfl]; show (q.n : Int) = _; omega)) ?_
            refine D_r rfl rfl rfl (r_idxR (j) sl50 rfl rfl rfl ((hrow0.rd M23 (nthMem (i := 2) rfl)).below_len (mapGet hdr hrb)) ((hrow0.rd M23 (nthMem (i := 2) rfl)).someK (mapGet hdr hrb))) ?_
            have M24 : Mem _ _ ([_, _, _, _, _, _] ++ (rs0.eraseIdx (j)).map Row.e) _ := Mem.pull (L := [_, _, _, _, _]) (rs := rs0) M23 hrb
            refine D_r rfl rfl rfl (r_ldE0 (.slice _ _ _) one52 (hrow0.rd M24 (nthMem (i := 2) rfl)) (mapGet hdr hrb) rfl) ?_
            refine D_p rfl rfl rfl (fun _ => r_fieldAddr 0 fld32_0 rfl) ?_
            refine D_r rfl rfl rfl (r_ld 3 (.int _ _) one30 M24 rfl rfl rfl) ?_
            refine D_e [true, false, false, false, false] rfl (by kernel_rfl) ?_
            refine wl_bslice [.int _ _] [keyCell xb.key] rfl sl52 M24 rfl rfl rfl rfl (lens_of rfl) (by decide) (fun b25 w25 M25 => ?_)
            have M26 : Mem _ _ ([_, _, _, _, _, _, _] ++ _) _ := Mem.front (L := [_, _, _, _, _, _]) M25
            refine wl_nil (thenN ⟨(alC (Yl_of rfl (r_ldE0 (.slice _ _ _) one52 (hrow0.rd M26 (nthMem (i := 2) rfl)) (mapGet hdr hrb) rfl)) (alC (Yl_of rfl (r_idxR (j) sl50 rfl rfl rfl ((hrow0.rd M26 (nthMem (i := 2) rfl)).below_len (mapGet hdr hrb)) ((hrow0.rd M26 (nthMem (i := 2) rfl)).someK (mapGet hdr hrb)))) (alC (Yl_of rfl (r_lookup1 (enc := (Value.int .i64)) 0 1 map92 zv3 M26 rfl hm18 rfl rfl)) (alC (Yl_of rfl (r_lookup1 (enc := (Value.int .i64)) 0 1 map92 zv3 M26 rfl hm18 rfl rfl)) alN)))), ?_⟩)
            refine D_e [true, true, true, false] rfl (by kernel_rfl) ?_
            refine wl_append 5 [keyCell xb.key] sl52 M26 rfl rfl rfl rfl rfl hrowb rfl (keyCell_ok _) (Cells.ofMem 6 M26 rfl) (by omega) (fun A27 c27 e27 w27 M27 hR27 => ?_)
            refine wl_nil (thenN ⟨(alC (Yl_of rfl (r_lookup1 (enc := (Value.int .i64)) 0 1 map92 zv3 M27 rfl hm18 rfl rfl)) alN), ?_⟩)
            refine D_r rfl rfl rfl (r_idxR (j) sl50 rfl rfl rfl ((hrow0.rd M27 (nthMem (i := 2) rfl)).below_len (mapGet hdr hrb)) ((hrow0.rd M27 (nthMem (i := 2) rfl)).someK (mapGet hdr hrb))) ?_
            refine D_e [true, true] rfl (by kernel_rfl) ?_
            refine wl_stR0 2 (.slice _ _ _) one52 M27 rfl hrow0 (mapGet hdr hrb) rfl rfl rfl rfl (fun e28 w28 hR28 M28 => ?_)
            have hQ28 := hR28.mapSet (f := hdr) (x := (⟨A27, rb.n + 1, c27, e27⟩ : Row)) rfl
            refine wl_nil (thenN ⟨alN, ?_⟩)
            refine D_nil ?_
            refine blkN ?_
            refine thenN ?_
            refine W_region ?_
            refine wl_q (r_add rfl rfl (by omega) (by omega)) rfl rfl ?_
            refine wl_q (r_move (.int _ _) rfl) rfl rfl ?_
            refine wl_nil ?_
            refine roundN (i + 1, e18, ⟨A21, q.n + 1, c21, e28⟩, rs0.set j (⟨A27, rb.n + 1, c27, e27⟩ : Row)) (agC rfl (agC rfl agN)) (akC rfl (akC rfl (akC rfl (akC rfl (akC rfl akN))))) ?_ ?_
            · exact ⟨⟨by omega, hm18.congr (fun z => by rw [hnat z, h95, hjn]), hQ28, by rw [hnx]; exact hI0.put (r := (⟨A27, rb.n + 1, c27, e27⟩ : Row)) hjl (by rw [List.map_append]; exact hR27)⟩, Mem.push (L := [_, _, _]) (rs := rs0) (⟨A27, rb.n + 1, c27, e27⟩ : Row) (Mem.keepL (L := [_, _, _, _, _, _, _]) [true, true, true, false, false, true, false] M28) hjr⟩
            · (show n - (i + 1) < n - i; omega)
          · skip
            refine W_skip ?_
            refine thenN ?_
            refine W_draw [(0, 0), (1, 0), (2, 0), (3, 1), (4, 0), (5, 0), (6, 0), (7, 1), (8, 1), (9, 1), (10, 0), (11, 1), (12, 2), (13, 2), (14, 1), (15, 2)] mixed rfl (by kernel_rfl) (fun w29 hb29 hh29 => ?_)
            have M29 := M17.drew hb29 hh29
            obtain ⟨j, l0, hlj, hnx, hatj, hnat, hl0n⟩ := isl_next_other hFF hs hxb hmass h95
            have hI0 := hI
            obtain ⟨rs0, hrs0⟩ : ∃ z, z = rs := ⟨_, rfl⟩
            obtain ⟨L0, hL0⟩ : ∃ z, z = islL (forestOf xs cs) (xs.take i) := ⟨_, rfl⟩
            have hrow0 := hq
            rw [← hrs0] at M29 hrow0 hI0
            rw [← hL0] at hI0 hnx hlj
            have hjl : j < L0.length := (List.getElem?_eq_some_iff.1 hlj).1
            have hjr : j < rs0.length := by rw [hI0.len]; exact hjl
            obtain ⟨rb, hrb⟩ : ∃ r, rs0[j]? = some r := ⟨_, List.getElem?_eq_getElem hjr⟩
            have hrowb := hI0.row j rb l0 hrb hlj
            have hrbn : l0.length = rb.n := by simpa using hrowb.1
            refine D_p rfl rfl rfl (fun _ => r_move (.slice _ _ _) rfl) ?_
            refine D_p rfl rfl rfl (fun _ => r_move (.map _) rfl) ?_
            refine D_p rfl rfl rfl (fun _ => r_move (.int _ _) rfl) ?_
            refine D_r rfl rfl rfl (r_lookup1 (enc := (Value.int .i64)) 0 1 map92 zv3 M29 rfl hat rfl rfl) ?_
            refine D_re 106 (.int .i64 (j : Int)) (congrArg (Value.int .i64) (by rw [hatj]; rfl)) ?_
            refine D_p rfl rfl rfl (fun _ => r_move (.slice _ _ _) rfl) ?_
            refine D_p rfl rfl rfl (fun _ => r_move (.map _) rfl) ?_
            refine D_p rfl rfl rfl (fun _ => r_move (.int _ _) rfl) ?_
            refine D_r rfl rfl rfl (r_lookup1 (enc := (Value.int .i64)) 0 1 map92 zv3 M29 rfl hat rfl rfl) ?_
            refine D_re 110 (.int .i64 (j : Int)) (congrArg (Value.int .i64) (by rw [hatj]; rfl)) ?_
            refine D_r rfl rfl rfl (r_idxR (j) sl50 rfl rfl rfl ((hrow0.rd M29 (nthMem (i := 2) rfl)).below_len (mapGet hdr hrb)) ((hrow0.rd M29 (nthMem (i := 2) rfl)).someK (mapGet hdr hrb))) ?_
            have M30 : Mem _ _ ([_, _, _, _, _] ++ (rs0.eraseIdx (j)).map Row.e) _ := Mem.pull (L := [_, _, _, _]) (rs := rs0) M29 hrb
            refine D_r rfl rfl rfl (r_ldE0 (.slice _ _ _) one52 (hrow0.rd M30 (nthMem (i := 2) rfl)) (mapGet hdr hrb) rfl) ?_
            refine D_p rfl rfl rfl (fun _ => r_fieldAddr 0 fld32_0 rfl) ?_
            refine D_r rfl rfl rfl (r_ld 3 (.int _ _) one30 M30 rfl rfl rfl) ?_
            refine D_e [true, false, false, false, false] rfl (by kernel_rfl) ?_
            refine wl_bslice [.int _ _] [keyCell xb.key] rfl sl52 M30 rfl rfl rfl rfl (lens_of rfl) (by decide) (fun b31 w31 M31 => ?_)
            have M32 : Mem _ _ ([_, _, _, _, _, _] ++ _) _ := Mem.front (L := [_, _, _, _, _]) M31
            refine wl_nil (thenN ⟨(alC (Yl_of rfl (r_ldE0 (.slice _ _ _) one52 (hrow0.rd M32 (nthMem (i := 2) rfl)) (mapGet hdr hrb) rfl)) (alC (Yl_of rfl (r_idxR (j) sl50 rfl rfl rfl ((hrow0.rd M32 (nthMem (i := 2) rfl)).below_len (mapGet hdr hrb)) ((hrow0.rd M32 (nthMem (i := 2) rfl)).someK (mapGet hdr hrb)))) (alC (Yl_of rfl (r_lookup1 (enc := (Value.int .i64)) 0 1 map92 zv3 M32 rfl hat rfl rfl)) (alC (Yl_of rfl (r_lookup1 (enc := (Value.int .i64)) 0 1 map92 zv3 M32 rfl hat rfl rfl)) alN)))), ?_⟩)
            refine D_e [true, true, true, false] rfl (by kernel_rfl) ?_
            refine wl_append 4 [keyCell xb.key] sl52 M32 rfl rfl rfl rfl rfl hrowb rfl (keyCell_ok _) (Cells.ofMem 5 M32 rfl) (by omega) (fun A33 c33 e33 w33 M33 hR33 => ?_)
            refine wl_nil (thenN ⟨(alC (Yl_of rfl (r_lookup1 (enc := (Value.int .i64)) 0 1 map92 zv3 M33 rfl hat rfl rfl)) alN), ?_⟩)
            refine D_r rfl rfl rfl (r_idxR (j) sl50 rfl rfl rfl ((hrow0.rd M33 (nthMem (i := 2) rfl)).below_len (mapGet hdr hrb)) ((hrow0.rd M33 (nthMem (i := 2) rfl)).someK (mapGet hdr hrb))) ?_
            refine D_e [true, true] rfl (by kernel_rfl) ?_
            refine wl_stR0 2 (.slice _ _ _) one52 M33 rfl hrow0 (mapGet hdr hrb) rfl rfl rfl rfl (fun e34 w34 hR34 M34 => ?_)
            have hQ34 := hR34.mapSet (f := hdr) (x := (⟨A33, rb.n + 1, c33, e33⟩ : Row)) rfl
            refine wl_nil (thenN ⟨alN, ?_⟩)
            refine D_nil ?_
            refine blkN ?_
            refine thenN ?_
            refine W_region ?_
            refine wl_q (r_add rfl rfl (by omega) (by omega)) rfl rfl ?_
            refine wl_q (r_move (.int _ _) rfl) rfl rfl ?_
            refine wl_nil ?_
            refine roundN (i + 1, ea, ⟨q.A, q.n, q.c, e34⟩, rs0.set j (⟨A33, rb.n + 1, c33, e33⟩ : Row)) (agC rfl (agC rfl agN)) (akC rfl (akC rfl (akC rfl (akC rfl (akC rfl akN))))) ?_ ?_
            · exact ⟨⟨by omega, hat.congr hnat, hQ34, by rw [hnx]; exact hI0.put (r := (⟨A33, rb.n + 1, c33, e33⟩ : Row)) hjl (by rw [List.map_append]; exact hR33)⟩, Mem.push (L := [_, _, _]) (rs := rs0) (⟨A33, rb.n + 1, c33, e33⟩ : Row) (Mem.keepL (L := [_, _, _, _, _, _]) [true, true, true, false, true, false] M34) hjr⟩
            · (show n - (i + 1) < n - i; omega)
      · skip
        obtain rfl : n = i := by omega
        rw [List.take_of_length_le (by omega)] at hI
        refine W_exit ?_
        refine thenX ?_
        refine roundX ?_
        refine blkH ?_
        refine thenN ?_
        refine W_seq ?_
        refine W_region ?_
        refine wl_q (r_move (.slice _ _ _) rfl) rfl rfl ?_
        refine wl_q (r_assign (.slice _ _ _) rfl) rfl rfl ?_
        refine wl_nil ?_
        refine thenN ?_
        refine W_ret ?_
        skip
        refine fin1 (.slice _ _ _) rfl ?_
        exact ⟨q, rs, rfl, hq, hI, Mem.keepL (L := [_, _, _]) [false, false, true] hM13⟩

end Go.Proofs.YtmcddmhkjcgneaaGreatDoor

/- Walks of Go functions over the frame of this claim: what each computes, for every input of the stated types (P25). -/
set_option linter.unusedVariables false
set_option linter.unusedSimpArgs false
set_option linter.unnecessarySimpa false
namespace Go.Proofs.YtmcddmhkjcgneaaGreatDoor
open Go.Bil
open Go.RowKit (Below)
open Go.Proofs

set_option maxHeartbeats 16000000 in
theorem ref25_Of (w : World) (A : Option Addr) (n c : Nat) (xs : List Body) (R : Rd w 10 A n (xs.map bodyCells)) (B : Option Addr) (mc c' : Nat) (cs : List Con) (R' : Rd w 5 B mc (cs.map conCells)) (hb : ∀ b ∈ xs, Okb b) (hs : Sorted xs) (hn : n ≤ 40) (hkx : ∀ b ∈ xs, 0 ≤ b.key) (hright : ∀ x ∈ cs, RightOne xs x) :
    Calls Tryz.prog 27 #[.slice A n c, .slice B mc c'] w (fun ex w' => ∃ v, ex = .returned v ∧ (fun v w' => ∃ (q : Row) (rs : List Row), v = .slice q.A q.n q.c ∧ RowIs 52 1 q.A q.n q.c ((rs).map hdr) q.e ∧ IslR 30 rs (islL (forestOf xs cs) xs) ∧ Mem w [] ([q.e] ++ rs.map Row.e) w') v w') := by
  have hlen : xs.length = n := by simpa using R.len
  have hbd := R.bound
  have hnn : n * n ≤ 40 * 40 := Nat.mul_le_mul hn hn
  refine calls_of_W #[.tmp 4] 60 Tryz.func27 rfl Tryz.results27 Tryz.ntmps27 rfl ?_
  have M0 := Mem.refl w
  refine W_seq ?_
  refine W_region ?_
  refine wl_q (r_assign (.slice _ _ _) rfl) rfl rfl ?_
  refine wl_nil ?_
  refine thenN ?_
  refine W_seq ?_
  refine W_region ?_
  refine wl_q (r_move (.slice _ _ _) rfl) rfl rfl ?_
  refine wl_q (r_move (.slice _ _ _) rfl) rfl rfl ?_
  refine wl_cal cal30 rfl rfl rfl ?_
  refine (ref25_Links _ _ _ _ xs (R.mem M0) _ _ _ cs (R'.mem M0) hb hs hn hkx hright).mono ?_
  rintro _ w1 ⟨v1, rfl, ⟨bm, m, en, rfl, hrow, hcl, hM1⟩⟩
  refine ⟨_, rfl, ?_⟩
  have M1 : Mem _ _ [_] _ := M0.call0 hM1
  refine wl_q (r_assign (.slice _ _ _) rfl) rfl rfl ?_
  refine wl_nil ?_
  refine thenN ?_
  refine W_seq ?_
  refine W_region ?_
  refine wl_q (r_move (.slice _ _ _) rfl) rfl rfl ?_
  refine wl_q (r_lenS Tryz.underlying22 rfl) rfl rfl ?_
  refine wl_q (r_assign (.int _ _) rfl) rfl rfl ?_
  refine wl_nil ?_
  refine thenN ?_
  refine W_seq ?_
  refine W_region ?_
  refine wl_q (r_assign (.slice _ _ _) rfl) rfl rfl ?_
  have M2 := M1.dummy default
  refine wl_nil ?_
  refine thenN ?_
  refine W_seq ?_
  refine W_seq ?_
  refine W_region ?_
  refine wl_q (r_assign (.int _ _) rfl) rfl rfl ?_
  refine wl_nil ?_
  refine thenN ?_
  refine W_block ?_
  refine W_loop (σ := Nat × Row × List Row) [0, 4, 5, 6] (fun (i, q, rs) => [(7, .slice q.A q.n q.c), (8, .int .i64 (i : Int))]) (fun (i, q, rs) w' => (i ≤ n ∧ RowIs 52 1 q.A q.n q.c ((rs).map hdr) q.e ∧ IslR 30 rs (isl0 (forestOf xs cs) xs i)) ∧ Mem w [] ([en, q.e] ++ rs.map Row.e) w') (fun (i, q, rs) => n - i) (0, nilRow, []) (agC rfl (agC rfl agN)) (⟨⟨by omega, RowIs.nil _ _ _, IslR.nil _⟩, M2⟩) ?_
  rintro ⟨i, q, rs⟩ ρ3 w3 ⟨⟨hi, hq, hI⟩, hM3⟩
  have hIl := hI.len
  have hqn : rs.length = q.n := by simpa using hq.1
  have hil := isl0_len (forestOf xs cs) xs i
  refine W_seq ?_
  refine W_seq ?_
  refine W_region ?_
  refine wl_q (r_move (.int _ _) rfl) rfl rfl ?_
  refine wl_q (r_move (.int _ _) rfl) rfl rfl ?_
  refine wl_q (r_bin (.bool (decide _)) rfl rfl rfl) rfl rfl ?_
  refine wl_nil ?_
  refine thenN ?_
  refine W_condD rfl (fun h19 => ?_) (fun h19 => ?_)
  · skip
    obtain ⟨xb, hxb⟩ := getSome (k := i) hlen (by omega)
    refine W_skip ?_
    refine thenN ?_
    refine W_seq ?_
    refine W_block ?_
    refine W_seq ?_
    refine W_region ?_
    refine wl_q (r_assign (.slice _ _ _) rfl) rfl rfl ?_
    have M4 := Mem.dummyL (L := [_, _]) hM3 default
    refine wl_nil ?_
    refine thenN ?_
    refine W_seq ?_
    refine W_region ?_
    refine wl_q (r_assign (.bool true) rfl) rfl rfl ?_
    refine wl_nil ?_
    refine thenN ?_
    refine W_seq ?_
    refine W_seq ?_
    refine W_region ?_
    refine wl_q (r_assign (.int _ _) rfl) rfl rfl ?_
    refine wl_nil ?_
    refine thenN ?_
    refine W_block ?_
    refine W_loop (σ := Nat × Row) [0, 4, 5, 6, 7, 8] (fun (j, kq) => [(9, .slice kq.A kq.n kq.c), (10, .bool (firstM n m i j)), (11, .int .i64 (j : Int))]) (fun (j, kq) w' => (j ≤ n ∧ RowIs 30 1 kq.A kq.n kq.c ((rowM xs n m i j).map keyCell) kq.e) ∧ Mem w [] ([en, q.e, kq.e] ++ rs.map Row.e) w') (fun (j, kq) => n - j) (0, nilRow) (agC rfl (agC (bv rfl (firstM_zero n m i).symm) (agC rfl agN))) (⟨⟨by omega, RowIs.nil _ _ _⟩, M4⟩) ?_
    rintro ⟨j, kq⟩ ρ5 w5 ⟨⟨hj, hkq⟩, hM5⟩
    have hkn : (rowM xs n m i j).length = kq.n := by simpa using hkq.1
    have hkl := rowM_len xs n m i j
    refine W_seq ?_
    refine W_seq ?_
    refine W_region ?_
    refine wl_q (r_move (.int _ _) rfl) rfl rfl ?_
    refine wl_q (r_move (.int _ _) rfl) rfl rfl ?_
    refine wl_q (r_bin (.bool (decide _)) rfl rfl rfl) rfl rfl ?_
    refine wl_nil ?_
    refine thenN ?_
    refine W_condD rfl (fun h24 => ?_) (fun h24 => ?_)
    · skip
      obtain ⟨xj, hxj⟩ := getSome (k := j) hlen (by omega)
      have hij := midx_lt (n := n) (a := i) (b := j) (by omega) (by omega)
      refine W_skip ?_
      refine thenN ?_
      refine W_seq ?_
      refine W_block ?_
      refine W_seq ?_
      refine W_region ?_
      refine wl_q (r_move (.slice _ _ _) rfl) rfl rfl ?_
      refine wl_q (r_move (.int _ _) rfl) rfl rfl ?_
      refine wl_q (r_move (.int _ _) rfl) rfl rfl ?_
      refine wl_q (r_mul rfl rfl (by rw [← Int.natCast_mul]; omega) (by rw [← Int.natCast_mul]; omega)) rfl rfl ?_
      refine wl_re 30 (.int .i64 ((i * n : Nat) : Int)) (iE (by rw [Int.natCast_mul])) ?_
      refine wl_q (r_move (.int _ _) rfl) rfl rfl ?_
      refine wl_q (r_add rfl rfl (by omega) (by omega)) rfl rfl ?_
      refine wl_re 32 (.int .i64 ((i * n + j : Nat) : Int)) (iE (by omega)) ?_
      refine wl_q (r_idxR ((i * n + j)) sl58 rfl rfl rfl ((hrow.rd hM5 (nthMem (i := 0) rfl)).below_len (mapGet boolCell (mget_at (n := n) (a := i) (b := j) (by rw [hcl.lk.snd.len, hlen]) (by omega) (by omega)))) ((hrow.rd hM5 (nthMem (i := 0) rfl)).someK (mapGet boolCell (mget_at (n := n) (a := i) (b := j) (by rw [hcl.lk.snd.len, hlen]) (by omega) (by omega))))) rfl rfl ?_
      refine wl_q (r_ldE0 (.bool _) one4 (hrow.rd hM5 (nthMem (i := 0) rfl)) (mapGet boolCell (mget_at (n := n) (a := i) (b := j) (by rw [hcl.lk.snd.len, hlen]) (by omega) (by omega))) rfl) rfl rfl ?_
      refine wl_nil ?_
      refine thenN ?_
      refine W_cond _ rfl (fun h34 => ?_) (fun h34 => ?_)
      · skip
        refine W_seq ?_
        refine W_region ?_
        refine wl_q (r_move (.slice _ _ _) rfl) rfl rfl ?_
        refine wl_q (r_move (.slice _ _ _) rfl) rfl rfl ?_
        refine wl_q (r_move (.int _ _) rfl) rfl rfl ?_
        refine wl_q (r_idxR (j) sl22 rfl rfl rfl ((R.mem hM5).below_len (mapGet bodyCells hxj)) ((R.mem hM5).someK (mapGet bodyCells hxj))) rfl rfl ?_
        refine wl_q (r_fieldAddrE 0 fld32_0 (R.mem hM5) (Nat.lt_of_le_of_lt (Nat.zero_le _) ((R.mem hM5).below_len (mapGet bodyCells hxj))) rfl) rfl rfl ?_
        refine wl_q (r_ldE (o := 0) (.int _ _) one30 (R.mem hM5) (mapGet bodyCells hxj) rfl rfl) rfl rfl ?_
        refine wl_bslice [.int _ _] [keyCell xj.key] rfl sl52 hM5 rfl rfl rfl rfl (lens_of rfl) (by decide) (fun b6 w6 M6 => ?_)
        have M7 : Mem _ _ ([_, _, _, _] ++ _) _ := Mem.front (L := [_, _, _]) M6
        refine wl_append 2 [keyCell xj.key] sl52 M7 rfl rfl rfl rfl rfl hkq rfl (keyCell_ok _) (Cells.ofMem 3 M7 rfl) (by omega) (fun A8 c8 e8 w8 M8 hR8 => ?_)
        refine wl_q (r_assign (.slice _ _ _) rfl) rfl rfl ?_
        refine wl_nil ?_
        refine thenN ?_
        refine W_region ?_
        refine wl_q (r_move (.bool _) rfl) rfl rfl ?_
        refine wl_q (r_move (.bool _) rfl) rfl rfl ?_
        refine wl_split 44 _ rfl (fun g44 => ?_) (fun g44 => ?_)
        · skip
          refine wl_q (r_move (.int _ _) rfl) rfl rfl ?_
          refine wl_q (r_move (.int _ _) rfl) rfl rfl ?_
          refine wl_q (r_bin (.bool (decide _)) rfl rfl rfl) rfl rfl ?_
          refine wl_q (r_pick true (.bool (decide _)) rfl rfl) rfl rfl ?_
          refine wl_q (r_assign (.bool (decide _)) rfl) rfl rfl ?_
          refine wl_nil ?_
          refine blkN ?_
          refine thenN ?_
          refine W_region ?_
          refine wl_q (r_move (.int _ _) rfl) rfl rfl ?_
          refine wl_q (r_add rfl rfl (by omega) (by omega)) rfl rfl ?_
          refine wl_q (r_assign (.int _ _) rfl) rfl rfl ?_
          refine wl_nil ?_
          refine roundN (j + 1, ⟨A8, kq.n + 1, c8, e8⟩) (agC rfl (agC (bv rfl (by rw [firstM_yes h34 g44]; exact decide_eq_decide.2 (by omega))) (agC rfl agN))) (akC rfl (akC rfl (akC rfl (akC rfl (akC rfl (akC rfl akN)))))) ?_ ?_
          · exact ⟨⟨by omega, by rw [rowM_yes hxj h34, List.map_append]; exact hR8⟩, Mem.keepL (L := [_, _, _, _]) [true, true, true, false] M8⟩
          · (show n - (j + 1) < n - j; omega)
        · skip
          refine wl_skip rfl rfl ?_
          refine wl_skip rfl rfl ?_
          refine wl_skip rfl rfl ?_
          refine wl_q (r_pick false (.bool false) rfl rfl) rfl rfl ?_
          refine wl_q (r_assign (.bool false) rfl) rfl rfl ?_
          refine wl_nil ?_
          refine blkN ?_
          refine thenN ?_
          refine W_region ?_
          refine wl_q (r_move (.int _ _) rfl) rfl rfl ?_
          refine wl_q (r_add rfl rfl (by omega) (by omega)) rfl rfl ?_
          refine wl_q (r_assign (.int _ _) rfl) rfl rfl ?_
          refine wl_nil ?_
          refine roundN (j + 1, ⟨A8, kq.n + 1, c8, e8⟩) (agC rfl (agC (bv rfl (firstM_old g44).symm) (agC rfl agN))) (akC rfl (akC rfl (akC rfl (akC rfl (akC rfl (akC rfl akN)))))) ?_ ?_
          · exact ⟨⟨by omega, by rw [rowM_yes hxj h34, List.map_append]; exact hR8⟩, Mem.keepL (L := [_, _, _, _]) [true, true, true, false] M8⟩
          · (show n - (j + 1) < n - j; omega)
      · skip
        refine W_skip ?_
        refine blkN ?_
        refine thenN ?_
        refine W_region ?_
        refine wl_q (r_move (.int _ _) rfl) rfl rfl ?_
        refine wl_q (r_add rfl rfl (by omega) (by omega)) rfl rfl ?_
        refine wl_q (r_assign (.int _ _) rfl) rfl rfl ?_
        refine wl_nil ?_
        refine roundN (j + 1, kq) (agC rfl (agC (bv rfl (firstM_no h34).symm) (agC rfl agN))) (akC rfl (akC rfl (akC rfl (akC rfl (akC rfl (akC rfl akN)))))) ?_ ?_
        · exact ⟨⟨by omega, by rw [rowM_no h34]; exact hkq⟩, hM5⟩
        · (show n - (j + 1) < n - j; omega)
    · skip
      obtain rfl : n = j := by omega
      refine W_exit ?_
      refine thenX ?_
      refine roundX ?_
      refine blkH ?_
      refine thenN ?_
      refine W_seq ?_
      refine W_region ?_
      refine wl_q (r_move (.bool _) rfl) rfl rfl ?_
      refine wl_q (r_move (.bool _) rfl) rfl rfl ?_
      refine wl_split 50 _ rfl (fun g50 => ?_) (fun g50 => ?_)
      · skip
        refine wl_q (r_move (.slice _ _ _) rfl) rfl rfl ?_
        refine wl_q (r_lenS Tryz.underlying52 rfl) rfl rfl ?_
        refine wl_q (r_bin (.bool (decide _)) rfl rfl rfl) rfl rfl ?_
        refine wl_q (r_pick true (.bool (decide _)) rfl rfl) rfl rfl ?_
        refine wl_nil ?_
        refine thenN ?_
        refine W_condD rfl (fun h54 => ?_) (fun h54 => ?_)
        · skip
          refine W_region ?_
          refine wl_q (r_move (.slice _ _ _) rfl) rfl rfl ?_
          refine wl_q (r_move (.slice _ _ _) rfl) rfl rfl ?_
          refine wl_bslice [.slice _ _ _] [[.slice kq.A kq.n kq.c]] rfl sl50 hM5 rfl rfl rfl rfl (lens_of rfl) (by decide) (fun b9 w9 M9 => ?_)
          have M10 : Mem _ _ ([_, _, _, _] ++ _) _ := Mem.front (L := [_, _, _]) M9
          refine wl_append 1 [[.slice kq.A kq.n kq.c]] sl50 M10 rfl rfl rfl rfl rfl hq rfl (by simp [Go.Bil.one]) (Cells.ofMem 3 M10 rfl) (by omega) (fun A11 c11 e11 w11 M11 hR11 => ?_)
          refine wl_q (r_assign (.slice _ _ _) rfl) rfl rfl ?_
          refine wl_nil ?_
          refine blkN ?_
          refine thenN ?_
          refine W_region ?_
          refine wl_q (r_move (.int _ _) rfl) rfl rfl ?_
          refine wl_q (r_add rfl rfl (by omega) (by omega)) rfl rfl ?_
          refine wl_q (r_assign (.int _ _) rfl) rfl rfl ?_
          refine wl_nil ?_
          refine roundN (i + 1, ⟨A11, q.n + 1, c11, e11⟩, rs ++ [kq]) (agC rfl (agC rfl agN)) (akC rfl (akC rfl (akC rfl (akC rfl akN)))) ?_ ?_
          · exact ⟨⟨by omega, by rw [List.map_append]; exact hR11, by rw [isl0_yes hs hkx (by rw [hlen]; exact hcl) hxb (by rw [hlen]; exact g50) (by rw [hlen]; omega)]; exact hI.add (by rw [hlen]; exact hkq)⟩, Mem.pushNew (L := [_, _]) kq (Mem.keepL (L := [_, _, _, _]) [true, true, true, false] M11)⟩
          · (show n - (i + 1) < n - i; omega)
        · skip
          refine W_skip ?_
          refine blkN ?_
          refine thenN ?_
          refine W_region ?_
          refine wl_q (r_move (.int _ _) rfl) rfl rfl ?_
          refine wl_q (r_add rfl rfl (by omega) (by omega)) rfl rfl ?_
          refine wl_q (r_assign (.int _ _) rfl) rfl rfl ?_
          refine wl_nil ?_
          refine roundN (i + 1, q, rs) (agC rfl (agC rfl agN)) (akC rfl (akC rfl (akC rfl (akC rfl akN)))) ?_ ?_
          · exact ⟨⟨by omega, hq, by rw [isl0_no hs hkx (by rw [hlen]; exact hcl) hxb (by rw [hlen]; exact fun h => by have h2 := h.2; omega)]; exact hI⟩, Mem.keepL (L := [_, _, _]) [true, true, false] hM5⟩
          · (show n - (i + 1) < n - i; omega)
      · skip
        refine wl_skip rfl rfl ?_
        refine wl_skip rfl rfl ?_
        refine wl_skip rfl rfl ?_
        refine wl_q (r_pick false (.bool false) rfl rfl) rfl rfl ?_
        refine wl_nil ?_
        refine thenN ?_
        refine W_condF rfl ?_
        refine W_skip ?_
        refine blkN ?_
        refine thenN ?_
        refine W_region ?_
        refine wl_q (r_move (.int _ _) rfl) rfl rfl ?_
        refine wl_q (r_add rfl rfl (by omega) (by omega)) rfl rfl ?_
        refine wl_q (r_assign (.int _ _) rfl) rfl rfl ?_
        refine wl_nil ?_
        refine roundN (i + 1, q, rs) (agC rfl (agC rfl agN)) (akC rfl (akC rfl (akC rfl (akC rfl akN)))) ?_ ?_
        · exact ⟨⟨by omega, hq, by rw [isl0_no hs hkx (by rw [hlen]; exact hcl) hxb (by rw [hlen]; exact fun h => by rw [h.1] at g50; cases g50)]; exact hI⟩, Mem.keepL (L := [_, _, _]) [true, true, false] hM5⟩
        · (show n - (i + 1) < n - i; omega)
  · skip
    obtain rfl : n = i := by omega
    refine W_exit ?_
    refine thenX ?_
    refine roundX ?_
    refine blkH ?_
    refine thenN ?_
    refine W_seq ?_
    refine W_region ?_
    refine wl_q (r_move (.slice _ _ _) rfl) rfl rfl ?_
    refine wl_q (r_assign (.slice _ _ _) rfl) rfl rfl ?_
    refine wl_nil ?_
    refine thenN ?_
    refine W_ret ?_
    skip
    refine fin1 (.slice _ _ _) rfl ?_
    exact ⟨q, rs, rfl, hq, by rw [← isl0_all, hlen]; exact hI, Mem.keepL (L := [_, _]) [false, true] hM3⟩

end Go.Proofs.YtmcddmhkjcgneaaGreatDoor

/- Walks of Go functions over the frame of this claim: what each computes, for every input of the stated types (Q25). -/
set_option linter.unusedVariables false
set_option linter.unusedSimpArgs false
set_option linter.unnecessarySimpa false
namespace Go.Proofs.YtmcddmhkjcgneaaGreatDoor
open Go.Bil
open Go.RowKit (Below)
open Go.Proofs

set_option maxHeartbeats 4000000 in
theorem ref25_Same (w : World) (A : Option Addr) (n c : Nat) (rs : List Row) (L : List (List Int)) (I : IslRd w A n rs L) (B : Option Addr) (m c' : Nat) (rs' : List Row) (L' : List (List Int)) (I' : IslRd w B m rs' L') :
    Calls Tryz.prog 25 #[.slice A n c, .slice B m c'] w (fun ex w' => ∃ v, ex = .returned v ∧ (fun v w' => v = .bool (decide (L = L')) ∧ Below w.heap.size w w') v w') := by
  have hla := I.n_eq.1
  have hra := I.n_eq.2
  have hba := I.hd.bound
  have hlb := I'.n_eq.1
  have hrb := I'.n_eq.2
  have hbb := I'.hd.bound
  refine calls_of_W #[.tmp 4] 27 Tryz.func25 rfl Tryz.results25 Tryz.ntmps25 rfl ?_
  have M0 := Mem.refl w
  refine W_seq ?_
  refine W_region ?_
  refine wl_q (r_assign (.bool false) rfl) rfl rfl ?_
  refine wl_nil ?_
  refine thenN ?_
  refine W_seq ?_
  refine W_seq ?_
  refine W_region ?_
  refine wl_q (r_move (.slice _ _ _) rfl) rfl rfl ?_
  refine wl_q (r_lenS Tryz.underlying50 rfl) rfl rfl ?_
  refine wl_q (r_move (.slice _ _ _) rfl) rfl rfl ?_
  refine wl_q (r_lenS Tryz.underlying50 rfl) rfl rfl ?_
  refine wl_q (r_bin (.bool (decide _)) rfl rfl rfl) rfl rfl ?_
  refine wl_nil ?_
  refine thenN ?_
  refine W_condD rfl (fun h10 => ?_) (fun h10 => ?_)
  · skip
    refine W_seq ?_
    refine W_region ?_
    refine wl_q (r_assign (.bool false) rfl) rfl rfl ?_
    refine wl_nil ?_
    refine thenN ?_
    refine W_ret ?_
    refine thenR ?_
    skip
    refine fin1 (.bool false) rfl ?_
    exact ⟨bF (fun h => by rw [h] at hla; omega), M0.below⟩
  · skip
    have hnm : n = m := by omega
    refine W_skip ?_
    refine thenN ?_
    refine W_seq ?_
    refine W_seq ?_
    refine W_region ?_
    refine wl_q (r_assign (.int _ _) rfl) rfl rfl ?_
    refine wl_nil ?_
    refine thenN ?_
    refine W_block ?_
    refine W_loop (σ := Nat) [0, 1] (fun k => [(5, .int .i64 (k : Int))]) (fun k w' => (k ≤ n ∧ ∀ (j : Nat) (x : List Int), j < k → L[j]? = some x → L'[j]? = some x) ∧ Mem w [] [] w') (fun k => n - k) 0 (agC rfl agN) (⟨⟨by omega, fun j x hj => by omega⟩, M0⟩) ?_
    rintro k ρ1 w1 ⟨⟨hk, hal⟩, hM1⟩
    refine W_seq ?_
    refine W_seq ?_
    refine W_region ?_
    refine wl_q (r_move (.int _ _) rfl) rfl rfl ?_
    refine wl_q (r_move (.slice _ _ _) rfl) rfl rfl ?_
    refine wl_q (r_lenS Tryz.underlying50 rfl) rfl rfl ?_
    refine wl_q (r_bin (.bool (decide _)) rfl rfl rfl) rfl rfl ?_
    refine wl_nil ?_
    refine thenN ?_
    refine W_condD rfl (fun h14 => ?_) (fun h14 => ?_)
    · skip
      obtain ⟨r1, hr1⟩ := getSome (xs := rs) (k := k) I.n_eq.2 (by omega)
      obtain ⟨l1, hl1⟩ := getSome (xs := L) (k := k) I.n_eq.1 (by omega)
      obtain ⟨r2, hr2⟩ := getSome (xs := rs') (k := k) I'.n_eq.2 (by omega)
      obtain ⟨l2, hl2⟩ := getSome (xs := L') (k := k) I'.n_eq.1 (by omega)
      refine W_skip ?_
      refine thenN ?_
      refine W_seq ?_
      refine W_block ?_
      refine W_seq ?_
      refine W_draw [(0, 0), (1, 0), (2, 1), (3, 1), (4, 0), (5, 0), (6, 1), (7, 1), (8, 2), (9, 0)] mixed rfl (by kernel_rfl) (fun w2 hb2 hh2 => ?_)
      have M2 := hM1.drew hb2 hh2
      refine D_p rfl rfl rfl (fun _ => r_move (.slice _ _ _) rfl) ?_
      refine D_p rfl rfl rfl (fun _ => r_move (.int _ _) rfl) ?_
      refine D_r rfl rfl rfl (r_idxR (k) sl50 rfl rfl rfl ((I.mem M2).hd.below_len (mapGet hdr hr1)) ((I.mem M2).hd.someK (mapGet hdr hr1))) ?_
      refine D_r rfl rfl rfl (r_ldE0 (.slice _ _ _) one52 (I.mem M2).hd (mapGet hdr hr1) rfl) ?_
      refine D_p rfl rfl rfl (fun _ => r_move (.slice _ _ _) rfl) ?_
      refine D_p rfl rfl rfl (fun _ => r_move (.int _ _) rfl) ?_
      refine D_r rfl rfl rfl (r_idxR (k) sl50 rfl rfl rfl ((I'.mem M2).hd.below_len (mapGet hdr hr2)) ((I'.mem M2).hd.someK (mapGet hdr hr2))) ?_
      refine D_r rfl rfl rfl (r_ldE0 (.slice _ _ _) one52 (I'.mem M2).hd (mapGet hdr hr2) rfl) ?_
      refine D_e [true, true, true, true] rfl (by kernel_rfl) ?_
      refine wl_cal cal49 rfl rfl rfl ?_
      refine (ref07_Keys _ _ _ _ l1 ((I.mem M2).row _ _ _ hr1 hl1) _ _ _ l2 ((I'.mem M2).row _ _ _ hr2 hl2)).mono ?_
      rintro _ w3 ⟨v3, rfl, ⟨rfl, hb3⟩⟩
      refine ⟨_, rfl, ?_⟩
      have M3 := M2.callB hb3
      refine wl_nil (thenN ⟨alN, ?_⟩)
      refine D_p rfl rfl rfl (fun _ => r_not rfl) ?_
      refine D_nil ?_
      refine thenN ?_
      refine W_condD rfl (fun h26 => ?_) (fun h26 => ?_)
      · skip
        refine W_seq ?_
        refine W_region ?_
        refine wl_q (r_assign (.bool false) rfl) rfl rfl ?_
        refine wl_nil ?_
        refine thenN ?_
        refine W_ret ?_
        refine blkR ?_
        refine thenR ?_
        refine roundR ?_
        refine blkR ?_
        refine thenR ?_
        skip
        refine fin1 (.bool false) rfl ?_
        exact ⟨bF (fun h => by rw [h, hl2] at hl1; injection hl1 with hl1; exact h26 hl1.symm), M3.below⟩
      · skip
        refine W_skip ?_
        refine blkN ?_
        refine thenN ?_
        refine W_region ?_
        refine wl_q (r_move (.int _ _) rfl) rfl rfl ?_
        refine wl_q (r_add rfl rfl (by omega) (by omega)) rfl rfl ?_
        refine wl_q (r_assign (.int _ _) rfl) rfl rfl ?_
        refine wl_nil ?_
        refine roundN (k + 1) (agC rfl agN) (akC rfl (akC rfl akN)) ?_ ?_
        · exact ⟨⟨by omega, allNext (p := fun j x => L'[j]? = some x) hal hl1 (by rw [hl2, Decidable.not_not.1 h26])⟩, M3⟩
        · omega
    · skip
      refine W_exit ?_
      refine thenX ?_
      refine roundX ?_
      refine blkH ?_
      refine thenN ?_
      refine W_seq ?_
      refine W_region ?_
      refine wl_q (r_assign (.bool true) rfl) rfl rfl ?_
      refine wl_nil ?_
      refine thenN ?_
      refine W_ret ?_
      skip
      refine fin1 (.bool true) rfl ?_
      exact ⟨bT (listSame hla hlb hnm (fun j x hj hx => hal j x (by omega) hx)), hM1.below⟩

end Go.Proofs.YtmcddmhkjcgneaaGreatDoor

/- Walks of Go functions over the frame of this claim: what each computes, for every input of the stated types (R25). -/
set_option linter.unusedVariables false
set_option linter.unusedSimpArgs false
set_option linter.unnecessarySimpa false
namespace Go.Proofs.YtmcddmhkjcgneaaGreatDoor
open Go.Bil
open Go.RowKit (Below)
open Go.Proofs

set_option maxHeartbeats 4000000 in
theorem isl_Find1 (w : World) (key : Int) (bk : Nat) (K : Rd w 1 (some ⟨bk, 0, none⟩) 1 [[.int .u32 key]]) (A : Option Addr) (n c : Nat) (xs : List Int) (R : Rd w 1 A n (xs.map keyCell)) :
    Calls Tryz.prog 54 #[.slice A n c, .pointer (some ⟨bk, 0, none⟩)] w (fun ex w' => ∃ v, ex = .returned v ∧ (fun v w' => v = .bool (decide (key ∈ xs)) ∧ Below w.heap.size w w') v w') := by
  rw [← elt_zero bk]
  refine calls_of_W #[.tmp 3] 7 Tryz.func54 rfl Tryz.results54 Tryz.ntmps54 rfl ?_
  have M0 := Mem.refl w
  refine W_seq ?_
  refine W_region ?_
  refine wl_q (r_assign (.bool false) rfl) rfl rfl ?_
  refine wl_nil ?_
  refine thenN ?_
  refine W_seq ?_
  refine W_region ?_
  refine wl_q (r_move (.slice _ _ _) rfl) rfl rfl ?_
  refine wl_q (r_ldE (o := 0) (.int _ _) one30 (K.mem M0) (show ([[.int .u32 key]] : List (List Value))[0]? = some [.int .u32 key] from rfl) rfl rfl) rfl rfl ?_
  refine wl_cal cal55 rfl rfl rfl ?_
  refine (slices_ContainsK _ key _ _ _ xs (R.mem M0)).mono ?_
  rintro _ w1 ⟨v1, rfl, ⟨rfl, hb1⟩⟩
  refine ⟨_, rfl, ?_⟩
  have M1 := M0.callB hb1
  refine wl_q (r_assign (.bool (decide _)) rfl) rfl rfl ?_
  refine wl_nil ?_
  refine thenN ?_
  refine W_ret ?_
  skip
  refine fin1 (.bool (decide _)) rfl ?_
  exact ⟨rfl, M1.below⟩

set_option maxHeartbeats 4000000 in
theorem slices_IndexFuncI (w : World) (bk : Nat) (key : Int) (K : Rd w 1 (some ⟨bk, 0, none⟩) 1 [[.int .u32 key]]) (A : Option Addr) (n c : Nat) (rs : List Row) (L : List (List Int)) (I : IslRd w A n rs L) :
    Calls Tryz.prog 53 #[.slice A n c, .func (.func 54) #[] #[.pointer (some ⟨bk, 0, none⟩)]] w (fun ex w' => ∃ v, ex = .returned v ∧ (fun v w' => v = .int .i64 (findL key L) ∧ Below w.heap.size w w') v w') := by
  have hla := I.n_eq.1
  have hra := I.n_eq.2
  have hba := I.hd.bound
  refine calls_of_W #[.tmp 4] 19 Tryz.func53 rfl Tryz.results53 Tryz.ntmps53 rfl ?_
  have M0 := Mem.refl w
  refine W_seq ?_
  refine W_region ?_
  refine wl_q (r_assign (.int _ _) rfl) rfl rfl ?_
  refine wl_nil ?_
  refine thenN ?_
  refine W_seq ?_
  refine W_seq ?_
  refine W_region ?_
  refine wl_q (r_move (.slice _ _ _) rfl) rfl rfl ?_
  refine wl_q (r_lenS Tryz.underlying50 rfl) rfl rfl ?_
  refine wl_q (r_move (.int _ _) rfl) rfl rfl ?_
  refine wl_nil ?_
  refine thenN ?_
  refine W_block ?_
  refine W_loop (σ := Nat) [0, 1, 7] (fun k => [(8, .int .i64 (k : Int))]) (fun k w' => (k ≤ n ∧ ∀ (j : Nat) (l : List Int), j < k → L[j]? = some l → key ∉ l) ∧ Mem w [] [] w') (fun k => n - k) 0 (agC rfl agN) (⟨⟨by omega, fun j c hj => by omega⟩, M0⟩) ?_
  rintro k ρ1 w1 ⟨⟨hk, hne⟩, hM1⟩
  refine W_seq ?_
  refine W_region ?_
  refine wl_q (r_bin (.bool (decide _)) rfl rfl rfl) rfl rfl ?_
  refine wl_nil ?_
  refine thenN ?_
  refine W_seq ?_
  refine W_condD rfl (fun h9 => ?_) (fun h9 => ?_)
  · skip
    obtain ⟨r1, hr1⟩ := getSome (xs := rs) (k := k) I.n_eq.2 (by omega)
    obtain ⟨l1, hl1⟩ := getSome (xs := L) (k := k) I.n_eq.1 (by omega)
    refine W_skip ?_
    refine thenN ?_
    refine W_seq ?_
    refine W_block ?_
    refine W_seq ?_
    refine W_region ?_
    refine wl_q (r_move (.int _ _) rfl) rfl rfl ?_
    refine wl_q (r_assign (.int _ _) rfl) rfl rfl ?_
    refine wl_nil ?_
    refine thenN ?_
    refine W_seq ?_
    refine W_region ?_
    refine wl_q (r_move (.func _ _ _) rfl) rfl rfl ?_
    refine wl_q (r_move (.slice _ _ _) rfl) rfl rfl ?_
    refine wl_q (r_move (.int _ _) rfl) rfl rfl ?_
    refine wl_q (r_idxR (k) sl50 rfl rfl rfl ((I.mem hM1).hd.below_len (mapGet hdr hr1)) ((I.mem hM1).hd.someK (mapGet hdr hr1))) rfl rfl ?_
    refine wl_q (r_ldE0 (.slice _ _ _) one52 (I.mem hM1).hd (mapGet hdr hr1) rfl) rfl rfl ?_
    refine wl_cal cal54 rfl rfl rfl ?_
    refine (isl_Find1 _ key bk (K.mem hM1) _ _ _ l1 ((I.mem hM1).row _ _ _ hr1 hl1)).mono ?_
    rintro _ w2 ⟨v2, rfl, ⟨rfl, hb2⟩⟩
    refine ⟨_, rfl, ?_⟩
    have M2 := hM1.callB hb2
    refine wl_nil ?_
    refine thenN ?_
    refine W_condD rfl (fun h16 => ?_) (fun h16 => ?_)
    · skip
      refine W_seq ?_
      refine W_region ?_
      refine wl_q (r_move (.int _ _) rfl) rfl rfl ?_
      refine wl_q (r_assign (.int _ _) rfl) rfl rfl ?_
      refine wl_nil ?_
      refine thenN ?_
      refine W_ret ?_
      refine blkR ?_
      refine thenR ?_
      refine roundR ?_
      refine blkR ?_
      refine thenR ?_
      skip
      refine fin1 (.int _ _) rfl ?_
      exact ⟨iE (findL_at hl1 h16 hne).symm, M2.below⟩
    · skip
      refine W_skip ?_
      refine blkN ?_
      refine thenN ?_
      refine W_region ?_
      refine wl_q (r_add rfl rfl (by omega) (by omega)) rfl rfl ?_
      refine wl_q (r_move (.int _ _) rfl) rfl rfl ?_
      refine wl_nil ?_
      refine roundN (k + 1) (agC rfl agN) (akC rfl (akC rfl (akC rfl akN))) ?_ ?_
      · exact ⟨⟨by omega, allNext (p := fun _ l => key ∉ l) hne hl1 h16⟩, M2⟩
      · omega
  · skip
    refine W_exit ?_
    refine thenX ?_
    refine roundX ?_
    refine blkH ?_
    refine thenN ?_
    refine W_seq ?_
    refine W_region ?_
    refine wl_q (r_assign (.int _ _) rfl) rfl rfl ?_
    refine wl_nil ?_
    refine thenN ?_
    refine W_ret ?_
    skip
    refine fin1 (.int _ _) rfl ?_
    have hkn : k = n := by omega
    exact ⟨iE (findL_neg (fun l hl => by obtain ⟨j, hj⟩ := List.getElem?_of_mem hl; exact hne j l (by have := (List.getElem?_eq_some_iff.1 hj).1; omega) hj)).symm, hM1.below⟩

set_option maxHeartbeats 4000000 in
theorem isl_Find (w : World) (key : Int) (A : Option Addr) (n c : Nat) (rs : List Row) (L : List (List Int)) (I : IslRd w A n rs L) :
    Calls Tryz.prog 29 #[.slice A n c, .int .u32 key] w (fun ex w' => ∃ v, ex = .returned v ∧ (fun v w' => v = .int .i64 (findL key L) ∧ Below w.heap.size w w') v w') := by
  have hla := I.n_eq.1
  have hra := I.n_eq.2
  have hba := I.hd.bound
  refine calls_of_W #[.tmp 4] 8 Tryz.func29 rfl Tryz.results29 Tryz.ntmps29 rfl ?_
  have M0 := Mem.refl w
  refine W_seq ?_
  refine W_region ?_
  refine wl_box (.int _ _) M0 rfl rfl rfl (fun b1 w1 M1 => ?_)
  refine wl_q (r_assign (.int _ _) rfl) rfl rfl ?_
  refine wl_nil ?_
  refine thenN ?_
  refine W_seq ?_
  refine W_region ?_
  refine wl_q (r_move (.slice _ _ _) rfl) rfl rfl ?_
  refine wl_q (r_makeFuncV [] [.pointer _] rfl rfl) rfl rfl ?_
  refine wl_cal cal53 rfl rfl rfl ?_
  refine (slices_IndexFuncI _ b1 key (rdOf 0 M1 rfl rfl) _ _ _ rs L (I.mem M1)).mono ?_
  rintro _ w2 ⟨v2, rfl, ⟨rfl, hb2⟩⟩
  refine ⟨_, rfl, ?_⟩
  have M2 := M1.callB hb2
  refine wl_q (r_assign (.int _ _) rfl) rfl rfl ?_
  refine wl_nil ?_
  refine thenN ?_
  refine W_ret ?_
  skip
  refine fin1 (.int _ _) rfl ?_
  exact ⟨rfl, M2.below⟩

set_option maxHeartbeats 8000000 in
theorem isl_Touching (w : World) (F : Rd w 2 (some ⟨1, 0, none⟩) 1 [[.int .u32 73856093, .int .u32 19349663]]) (N : Rd w 4 (some ⟨0, 0, none⟩) 1 [bxCells noneB]) (A : Option Addr) (n c : Nat) (xs : List Body) (R : Rd w 10 A n (xs.map bodyCells)) (hb : ∀ b ∈ xs, Okb b) (hs : Sorted xs) (hn : n ≤ 4096) (hkx : ∀ b ∈ xs, 0 ≤ b.key) :
    Calls Tryz.prog 28 #[.slice A n c] w (fun ex w' => ∃ v, ex = .returned v ∧ (fun v w' => ∃ (q : Row) (rs : List Row), v = .slice q.A q.n q.c ∧ RowIs 52 1 q.A q.n q.c ((rs).map hdr) q.e ∧ IslR 30 rs (islL (forestOf xs (allC xs)) xs) ∧ Mem w [] ([q.e] ++ rs.map Row.e) w') v w') := by
  have hlen : xs.length = n := by simpa using R.len
  have hbd := R.bound
  refine calls_of_W #[.tmp 2] 13 Tryz.func28 rfl Tryz.results28 Tryz.ntmps28 rfl ?_
  have M0 := Mem.refl w
  refine W_seq ?_
  refine W_region ?_
  refine wl_q (r_assign (.slice _ _ _) rfl) rfl rfl ?_
  refine wl_nil ?_
  refine thenN ?_
  refine W_seq ?_
  refine W_region ?_
  refine wl_q (r_move (.slice _ _ _) rfl) rfl rfl ?_
  refine wl_cal cal34 rfl rfl rfl ?_
  refine (contacts_All _ (F.mem M0) (N.mem M0) _ _ _ xs (R.mem M0) hb hs (by first | decide | omega)).mono ?_
  rintro _ w1 ⟨v1, rfl, ⟨r0, m0, rfl, hfm0, hgm0, hr0, hM1⟩⟩
  refine ⟨_, rfl, ?_⟩
  have M1 : Mem _ _ [_] _ := M0.call0 hM1
  refine wl_q (r_move (.tuple (List.toArray _)) rfl) rfl rfl ?_
  refine wl_q (r_ext (.slice _ _ _) rfl rfl) rfl rfl ?_
  refine wl_q (r_ext (.int _ _) rfl rfl) rfl rfl ?_
  refine wl_q (r_assign (.slice _ _ _) rfl) rfl rfl ?_
  refine wl_q (r_assign (.int _ _) rfl) rfl rfl ?_
  refine wl_nil ?_
  refine thenN ?_
  refine W_seq ?_
  refine W_region ?_
  refine wl_q (r_move (.slice _ _ _) rfl) rfl rfl ?_
  refine wl_q (r_move (.slice _ _ _) rfl) rfl rfl ?_
  refine wl_cal cal26 rfl rfl rfl ?_
  refine (isl_Of _ _ _ _ xs (R.mem M1) _ _ _ (allC xs) (hr0.rd M1 (nthMem (i := 0) rfl)) hb hs hn hkx).mono ?_
  rintro _ w2 ⟨v2, rfl, ⟨q, rs, rfl, hq, hI, hM2⟩⟩
  refine ⟨_, rfl, ?_⟩
  have M2 : Mem _ _ ([_, _] ++ _) _ := Mem.front (L := [_]) (M1.call0T (A := [_]) hM2)
  refine wl_q (r_assign (.slice _ _ _) rfl) rfl rfl ?_
  refine wl_nil ?_
  refine thenN ?_
  refine W_ret ?_
  skip
  refine fin1 (.slice _ _ _) rfl ?_
  exact ⟨q, rs, rfl, hq, hI, Mem.keepL (L := [_, _]) [false, true] M2⟩

end Go.Proofs.YtmcddmhkjcgneaaGreatDoor

/- Walks of Go functions over the frame of this claim: what each computes, for every input of the stated types (A25). -/
set_option linter.unusedVariables false
set_option linter.unusedSimpArgs false
set_option linter.unnecessarySimpa false
namespace Go.Proofs.YtmcddmhkjcgneaaGreatDoor
open Go.Bil
open Go.RowKit (Below)
open Go.Proofs

theorem cons_len (m : List Con) : ∀ y ∈ m.map conCells, y.length = 5 := by
  intro y hy
  obtain ⟨c, _, rfl⟩ := List.mem_map.1 hy
  rfl
theorem aw25_0 : ∀ b ∈ ([⟨1, 65536, 0, 0, 1, 0, 0, 0, 0, 0⟩, ⟨2, 65536, 0, 0, 1, 0, 0, 0, 0, 0⟩, ⟨3, 65536, 0, 0, 0, 0, 0, 0, 0, 0⟩] : List Body), Okb b := fun b hb => check_ok ((by decide : ∀ b ∈ ([⟨1, 65536, 0, 0, 1, 0, 0, 0, 0, 0⟩, ⟨2, 65536, 0, 0, 1, 0, 0, 0, 0, 0⟩, ⟨3, 65536, 0, 0, 0, 0, 0, 0, 0, 0⟩] : List Body), check b = 0) b hb)
theorem aw25_k : ∀ b ∈ ([⟨1, 65536, 0, 0, 1, 0, 0, 0, 0, 0⟩, ⟨2, 65536, 0, 0, 1, 0, 0, 0, 0, 0⟩, ⟨3, 65536, 0, 0, 0, 0, 0, 0, 0, 0⟩] : List Body), 0 ≤ b.key := by decide
theorem aw25_1 : islL (forestOf [⟨1, 65536, 0, 0, 1, 0, 0, 0, 0, 0⟩, ⟨2, 65536, 0, 0, 1, 0, 0, 0, 0, 0⟩, ⟨3, 65536, 0, 0, 0, 0, 0, 0, 0, 0⟩] [⟨1, 3, 0, 0, 0⟩, ⟨2, 3, 0, 0, 0⟩]) [⟨1, 65536, 0, 0, 1, 0, 0, 0, 0, 0⟩, ⟨2, 65536, 0, 0, 1, 0, 0, 0, 0, 0⟩, ⟨3, 65536, 0, 0, 0, 0, 0, 0, 0, 0⟩] = [[1], [2]] := by decide
theorem aw25_2 : islL (forestOf [⟨1, 65536, 0, 0, 1, 0, 0, 0, 0, 0⟩, ⟨2, 65536, 0, 0, 1, 0, 0, 0, 0, 0⟩, ⟨3, 65536, 0, 0, 0, 0, 0, 0, 0, 0⟩] [⟨1, 3, 0, 0, 0⟩, ⟨2, 3, 0, 0, 0⟩, ⟨1, 2, 0, 0, 0⟩]) [⟨1, 65536, 0, 0, 1, 0, 0, 0, 0, 0⟩, ⟨2, 65536, 0, 0, 1, 0, 0, 0, 0, 0⟩, ⟨3, 65536, 0, 0, 0, 0, 0, 0, 0, 0⟩] = [[1, 2]] := by decide
theorem aw25_3 : allC [⟨1, 65536, 0, 0, 1, 0, 0, 0, 0, 0⟩, ⟨2, 65536, 0, 0, 1, 0, 0, 0, 0, 0⟩, ⟨3, 65536, 0, 0, 0, 0, 0, 0, 0, 0⟩] = [⟨1, 2, 65536, 0, 131072⟩, ⟨1, 3, 65536, 0, 131072⟩, ⟨2, 3, 65536, 0, 131072⟩] := by decide
theorem aw25_4 : islL (forestOf [⟨1, 65536, 0, 0, 1, 0, 0, 0, 0, 0⟩, ⟨2, 65536, 0, 0, 1, 0, 0, 0, 0, 0⟩, ⟨3, 65536, 0, 0, 0, 0, 0, 0, 0, 0⟩] (allC [⟨1, 65536, 0, 0, 1, 0, 0, 0, 0, 0⟩, ⟨2, 65536, 0, 0, 1, 0, 0, 0, 0, 0⟩, ⟨3, 65536, 0, 0, 0, 0, 0, 0, 0, 0⟩])) [⟨1, 65536, 0, 0, 1, 0, 0, 0, 0, 0⟩, ⟨2, 65536, 0, 0, 1, 0, 0, 0, 0, 0⟩, ⟨3, 65536, 0, 0, 0, 0, 0, 0, 0, 0⟩] = [[1, 2]] := by rw [aw25_3]; decide

set_option maxHeartbeats 16000000 in
theorem aw25 (w : World) (F : Rd w 2 (some ⟨1, 0, none⟩) 1 [[.int .u32 73856093, .int .u32 19349663]]) (N : Rd w 4 (some ⟨0, 0, none⟩) 1 [bxCells noneB]) :
    Calls Tryz.prog 23 #[] w (fun ex w' => ∃ v, ex = .returned v ∧ (fun v w' => v = .bool true ∧ Below w.heap.size w w') v w') := by
  refine calls_of_W #[.tmp 0] 51 Tryz.func23 rfl Tryz.results23 Tryz.ntmps23 rfl ?_
  have M0 := Mem.refl w
  refine W_seq ?_
  refine W_region ?_
  refine wl_q (r_assign (.bool false) rfl) rfl rfl ?_
  refine wl_nil ?_
  refine thenN ?_
  refine W_seq ?_
  refine W_region ?_
  refine wl_cal cal47 rfl rfl rfl ?_
  refine (law25_ball _ 1 1).mono ?_
  rintro _ w1 ⟨v1, rfl, ⟨rfl, hb1⟩⟩
  refine ⟨_, rfl, ?_⟩
  have M1 := M0.callB hb1
  refine wl_cal cal47 rfl rfl rfl ?_
  refine (law25_ball _ 2 1).mono ?_
  rintro _ w2 ⟨v2, rfl, ⟨rfl, hb2⟩⟩
  refine ⟨_, rfl, ?_⟩
  have M2 := M1.callB hb2
  refine wl_cal cal47 rfl rfl rfl ?_
  refine (law25_ball _ 3 0).mono ?_
  rintro _ w3 ⟨v3, rfl, ⟨rfl, hb3⟩⟩
  refine ⟨_, rfl, ?_⟩
  have M3 := M2.callB hb3
  refine wl_bslice [.agg (List.toArray _), .agg (List.toArray _), .agg (List.toArray _)] [bodyCells ⟨1, 65536, 0, 0, 1, 0, 0, 0, 0, 0⟩, bodyCells ⟨2, 65536, 0, 0, 1, 0, 0, 0, 0, 0⟩, bodyCells ⟨3, 65536, 0, 0, 0, 0, 0, 0, 0, 0⟩] rfl sl22 M3 rfl rfl rfl rfl (lens_of rfl) (by decide) (fun b4 w4 M4 => ?_)
  have hlit8 := rowLit (T := 32) (b := b4) ([⟨1, 65536, 0, 0, 1, 0, 0, 0, 0, 0⟩, ⟨2, 65536, 0, 0, 1, 0, 0, 0, 0, 0⟩, ⟨3, 65536, 0, 0, 0, 0, 0, 0, 0, 0⟩].map bodyCells) (bodies_len _) rfl (by decide)
  refine wl_q (r_assign (.slice _ _ _) rfl) rfl rfl ?_
  refine wl_nil ?_
  refine thenN ?_
  refine W_seq ?_
  refine W_region ?_
  refine wl_q (r_build [(0, .int _ _), (1, .int _ _)] _ struct61 rfl rfl) rfl rfl ?_
  refine wl_q (r_build [(0, .agg (List.toArray _))] _ struct63 rfl rfl) rfl rfl ?_
  refine wl_q (r_build [(0, .int _ _), (1, .int _ _)] _ struct61 rfl rfl) rfl rfl ?_
  refine wl_q (r_build [(0, .agg (List.toArray _))] _ struct63 rfl rfl) rfl rfl ?_
  refine wl_bslice [.agg (List.toArray _), .agg (List.toArray _)] [conCells ⟨1, 3, 0, 0, 0⟩, conCells ⟨2, 3, 0, 0, 0⟩] rfl sl45 M4 rfl rfl rfl rfl (lens_of rfl) (by decide) (fun b5 w5 M5 => ?_)
  have hlit13 := rowLit (T := 63) (b := b5) ([⟨1, 3, 0, 0, 0⟩, ⟨2, 3, 0, 0, 0⟩].map conCells) (cons_len _) rfl (by decide)
  refine wl_q (r_assign (.slice _ _ _) rfl) rfl rfl ?_
  refine wl_nil ?_
  refine thenN ?_
  refine W_seq ?_
  refine W_region ?_
  refine wl_q (r_move (.slice _ _ _) rfl) rfl rfl ?_
  refine wl_q (r_move (.slice _ _ _) rfl) rfl rfl ?_
  refine wl_cal cal26 rfl rfl rfl ?_
  refine (isl_Of _ _ _ _ [⟨1, 65536, 0, 0, 1, 0, 0, 0, 0, 0⟩, ⟨2, 65536, 0, 0, 1, 0, 0, 0, 0, 0⟩, ⟨3, 65536, 0, 0, 0, 0, 0, 0, 0, 0⟩] (hlit8.rd M5 (nthMem (i := 0) rfl)) _ _ _ [⟨1, 3, 0, 0, 0⟩, ⟨2, 3, 0, 0, 0⟩] (hlit13.rd M5 (nthMem (i := 1) rfl)) aw25_0 (adjB_sorted (by decide)) (by decide) aw25_k).mono ?_
  rintro _ w6 ⟨v6, rfl, ⟨q0, rs0, rfl, hq0, hI0, hM6⟩⟩
  refine ⟨_, rfl, ?_⟩
  rw [aw25_1] at hI0
  obtain ⟨ra, rb, rfl⟩ := two_rows hI0.len
  have hrow_ra := hI0.row 0 _ _ rfl rfl
  have hrow_rb := hI0.row 1 _ _ rfl rfl
  have M6 : Mem _ _ [_, _, _, _, _] _ := M5.call0 hM6
  refine wl_q (r_assign (.slice _ _ _) rfl) rfl rfl ?_
  refine wl_nil ?_
  refine thenN ?_
  refine W_seq ?_
  refine W_region ?_
  refine wl_q (r_move (.slice _ _ _) rfl) rfl rfl ?_
  refine wl_q (r_move (.slice _ _ _) rfl) rfl rfl ?_
  refine wl_q (r_build [(0, .int _ _), (1, .int _ _)] _ struct61 rfl rfl) rfl rfl ?_
  refine wl_q (r_build [(0, .agg (List.toArray _))] _ struct63 rfl rfl) rfl rfl ?_
  refine wl_bslice [.agg (List.toArray _)] [conCells ⟨1, 2, 0, 0, 0⟩] rfl sl45 M6 rfl rfl rfl rfl (lens_of rfl) (by decide) (fun b7 w7 M7 => ?_)
  refine wl_append 1 [conCells ⟨1, 2, 0, 0, 0⟩] sl45 M7 rfl rfl rfl rfl rfl hlit13 rfl (by simp [conCells, Go.Bil.one]) (Cells.ofMem 5 M7 rfl) (by decide) (fun A8 c8 e8 w8 M8 hR8 => ?_)
  refine wl_cal cal26 rfl rfl rfl ?_
  refine (isl_Of _ _ _ _ [⟨1, 65536, 0, 0, 1, 0, 0, 0, 0, 0⟩, ⟨2, 65536, 0, 0, 1, 0, 0, 0, 0, 0⟩, ⟨3, 65536, 0, 0, 0, 0, 0, 0, 0, 0⟩] (hlit8.rd M8 (nthMem (i := 0) rfl)) _ _ _ [⟨1, 3, 0, 0, 0⟩, ⟨2, 3, 0, 0, 0⟩, ⟨1, 2, 0, 0, 0⟩] (hR8.rd M8 (nthMem (i := 1) rfl)) aw25_0 (adjB_sorted (by decide)) (by decide) aw25_k).mono ?_
  rintro _ w9 ⟨v9, rfl, ⟨q1, rs1, rfl, hq1, hI1, hM9⟩⟩
  refine ⟨_, rfl, ?_⟩
  rw [aw25_2] at hI1
  obtain ⟨rc, rfl⟩ := one_row hI1.len
  have hrow_rc := hI1.row 0 _ _ rfl rfl
  have M9 : Mem _ _ [_, _, _, _, _, _, _, _] _ := M8.call0 hM9
  refine wl_q (r_assign (.slice _ _ _) rfl) rfl rfl ?_
  refine wl_nil ?_
  refine thenN ?_
  refine W_seq ?_
  refine W_region ?_
  refine wl_q (r_move (.slice _ _ _) rfl) rfl rfl ?_
  refine wl_bslice [.int _ _] [keyCell 1] rfl sl52 M9 rfl rfl rfl rfl (lens_of rfl) (by decide) (fun b10 w10 M10 => ?_)
  have hlit25 := rowLit (T := 30) (b := b10) (([1] : List Int).map keyCell) (keys_len _) rfl (by decide)
  refine wl_bslice [.int _ _] [keyCell 2] rfl sl52 M10 rfl rfl rfl rfl (lens_of rfl) (by decide) (fun b11 w11 M11 => ?_)
  have hlit26 := rowLit (T := 30) (b := b11) (([2] : List Int).map keyCell) (keys_len _) rfl (by decide)
  refine wl_bslice [.slice _ _ _, .slice _ _ _] [[.slice (some ⟨b10, 0, none⟩) 1 1], [.slice (some ⟨b11, 0, none⟩) 1 1]] rfl sl50 M11 rfl rfl rfl rfl (lens_of rfl) (by decide) (fun b12 w12 M12 => ?_)
  have hlit27 := rowLit (T := 52) (sz := 1) (b := b12) ([[.slice (some ⟨b10, 0, none⟩) 1 1], [.slice (some ⟨b11, 0, none⟩) 1 1]] : List (List Value)) (by simp) rfl (Nat.le_of_ble_eq_true rfl)
  refine wl_cal cal25 rfl rfl rfl ?_
  refine (ref25_Same _ _ _ _ _ [[1], [2]] (hI0.rd hq0 M12 (nthMem (i := 2) rfl) (fun r hr => by simp at hr; first | (rcases hr with rfl | rfl <;> simp) | (subst hr; simp))) _ _ _ _ [[1], [2]] (IslRd.two (l1 := [1]) (l2 := [2]) (hlit27.rd M12 (nthMem (i := 10) rfl)) (hlit25.rd M12 (nthMem (i := 8) rfl)) (hlit26.rd M12 (nthMem (i := 9) rfl)))).mono ?_
  rintro _ w13 ⟨v13, rfl, ⟨rfl, hb13⟩⟩
  refine ⟨_, rfl, ?_⟩
  have M13 := M12.callB hb13
  refine wl_re 28 (.bool true) (bT rfl).symm ?_
  refine wl_q (r_move (.bool true) rfl) rfl rfl ?_
  refine wl_q (r_move (.slice _ _ _) rfl) rfl rfl ?_
  refine wl_bslice [.int _ _, .int _ _] [keyCell 1, keyCell 2] rfl sl52 M13 rfl rfl rfl rfl (lens_of rfl) (by decide) (fun b14 w14 M14 => ?_)
  have hlit31 := rowLit (T := 30) (b := b14) (([1, 2] : List Int).map keyCell) (keys_len _) rfl (by decide)
  refine wl_bslice [.slice _ _ _] [[.slice (some ⟨b14, 0, none⟩) 2 2]] rfl sl50 M14 rfl rfl rfl rfl (lens_of rfl) (by decide) (fun b15 w15 M15 => ?_)
  have hlit32 := rowLit (T := 52) (sz := 1) (b := b15) ([[.slice (some ⟨b14, 0, none⟩) 2 2]] : List (List Value)) (by simp) rfl (Nat.le_of_ble_eq_true rfl)
  refine wl_cal cal25 rfl rfl rfl ?_
  refine (ref25_Same _ _ _ _ _ [[1, 2]] (hI1.rd hq1 M15 (nthMem (i := 6) rfl) (fun r hr => by simp at hr; first | (rcases hr with rfl | rfl <;> simp) | (subst hr; simp))) _ _ _ _ [[1, 2]] (IslRd.one (l1 := [1, 2]) (hlit32.rd M15 (nthMem (i := 12) rfl)) (hlit31.rd M15 (nthMem (i := 11) rfl)))).mono ?_
  rintro _ w16 ⟨v16, rfl, ⟨rfl, hb16⟩⟩
  refine ⟨_, rfl, ?_⟩
  have M16 := M15.callB hb16
  refine wl_re 33 (.bool true) (bT rfl).symm ?_
  refine wl_q (r_pick true (.bool true) rfl rfl) rfl rfl ?_
  refine wl_q (r_move (.bool true) rfl) rfl rfl ?_
  refine wl_q (r_move (.slice _ _ _) rfl) rfl rfl ?_
  refine wl_cal cal28 rfl rfl rfl ?_
  refine (isl_Touching _ (F.mem M16) (N.mem M16) _ _ _ [⟨1, 65536, 0, 0, 1, 0, 0, 0, 0, 0⟩, ⟨2, 65536, 0, 0, 1, 0, 0, 0, 0, 0⟩, ⟨3, 65536, 0, 0, 0, 0, 0, 0, 0, 0⟩] (hlit8.rd M16 (nthMem (i := 0) rfl)) aw25_0 (adjB_sorted (by decide)) (by decide) aw25_k).mono ?_
  rintro _ w17 ⟨v17, rfl, ⟨q2, rs2, rfl, hq2, hI2, hM17⟩⟩
  refine ⟨_, rfl, ?_⟩
  rw [aw25_4] at hI2
  obtain ⟨rd, rfl⟩ := one_row hI2.len
  have hrow_rd := hI2.row 0 _ _ rfl rfl
  have M17 : Mem _ _ [_, _, _, _, _, _, _, _, _, _, _, _, _, _, _] _ := M16.call0 hM17
  refine wl_q (r_move (.slice _ _ _) rfl) rfl rfl ?_
  refine wl_cal cal25 rfl rfl rfl ?_
  refine (ref25_Same _ _ _ _ _ [[1, 2]] (hI2.rd hq2 M17 (nthMem (i := 13) rfl) (fun r hr => by simp at hr; first | (rcases hr with rfl | rfl <;> simp) | (subst hr; simp))) _ _ _ _ [[1, 2]] (hI1.rd hq1 M17 (nthMem (i := 6) rfl) (fun r hr => by simp at hr; first | (rcases hr with rfl | rfl <;> simp) | (subst hr; simp)))).mono ?_
  rintro _ w18 ⟨v18, rfl, ⟨rfl, hb18⟩⟩
  refine ⟨_, rfl, ?_⟩
  have M18 := M17.callB hb18
  refine wl_re 39 (.bool true) (bT rfl).symm ?_
  refine wl_q (r_pick true (.bool true) rfl rfl) rfl rfl ?_
  refine wl_q (r_move (.bool true) rfl) rfl rfl ?_
  refine wl_q (r_move (.slice _ _ _) rfl) rfl rfl ?_
  refine wl_cal cal29 rfl rfl rfl ?_
  refine (isl_Find _ 2 _ _ _ _ [[1], [2]] (hI0.rd hq0 M18 (nthMem (i := 2) rfl) (fun r hr => by simp at hr; first | (rcases hr with rfl | rfl <;> simp) | (subst hr; simp)))).mono ?_
  rintro _ w19 ⟨v19, rfl, ⟨rfl, hb19⟩⟩
  refine ⟨_, rfl, ?_⟩
  have M19 := M18.callB hb19
  refine wl_q (r_bin (.bool (decide _)) rfl rfl rfl) rfl rfl ?_
  refine wl_re 44 (.bool true) (bT (by decide)).symm ?_
  refine wl_q (r_pick true (.bool true) rfl rfl) rfl rfl ?_
  refine wl_q (r_move (.bool true) rfl) rfl rfl ?_
  refine wl_q (r_move (.slice _ _ _) rfl) rfl rfl ?_
  refine wl_cal cal29 rfl rfl rfl ?_
  refine (isl_Find _ 3 _ _ _ _ [[1], [2]] (hI0.rd hq0 M19 (nthMem (i := 2) rfl) (fun r hr => by simp at hr; first | (rcases hr with rfl | rfl <;> simp) | (subst hr; simp)))).mono ?_
  rintro _ w20 ⟨v20, rfl, ⟨rfl, hb20⟩⟩
  refine ⟨_, rfl, ?_⟩
  have M20 := M19.callB hb20
  refine wl_q (r_bin (.bool (decide _)) rfl rfl rfl) rfl rfl ?_
  refine wl_re 49 (.bool true) (bT (by decide)).symm ?_
  refine wl_q (r_pick true (.bool true) rfl rfl) rfl rfl ?_
  refine wl_q (r_assign (.bool true) rfl) rfl rfl ?_
  refine wl_nil ?_
  refine thenN ?_
  refine W_ret ?_
  skip
  refine fin1 (.bool true) rfl ?_
  exact ⟨rfl, M20.below⟩

end Go.Proofs.YtmcddmhkjcgneaaGreatDoor
