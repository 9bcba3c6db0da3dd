/- Part of the proof of the laws of this seat: V15. No conditions. -/
import Derived.Test.YtmcddmhkjcgneaaGreatDoorK5
import Derived.Test.YtmcddmhkjcgneaaGreatDoorK21
import Derived.Test.YtmcddmhkjcgneaaGreatDoorK18
import Derived.Test.YtmcddmhkjcgneaaGreatDoorK16
import Derived.Test.YtmcddmhkjcgneaaGreatDoorK11
/- Walks of Go functions over the frame of this claim: what each computes, for every input of the stated types (V15). -/
set_option linter.unusedVariables false
set_option linter.unusedSimpArgs false
set_option linter.unnecessarySimpa false
namespace Go.Proofs.YtmcddmhkjcgneaaGreatDoor
open Go.Bil
open Go.RowKit (Below)
open Go.Proofs

set_option maxHeartbeats 4000000 in
theorem coll_pair (w : World) (bl pm : Nat) (f : Int → Option Body) (em : Ent) (hme : MapE .u32 encBo f (some pm) em) (r : Row) (cs : List Con) (hr : RowIs 63 5 r.A r.n r.c ((cs).map conCells) r.e) (hn : r.n ≤ 1099511627776) (z : Int × Int) (a b : Body) (h1 : f z.1 = some a) (h2 : f z.2 = some b) (ha : Okb a) (hb : Okb b) (hO : Own [(some bl, bc [.map (some pm), .slice r.A r.n r.c] 102), em, r.e] w) :
    Calls Tryz.prog 60 #[.pointer (some ⟨bl, 0, none⟩), (.agg (pairCells z).toArray)] w (fun ex w' => ∃ v, ex = .returned v ∧ (fun v w' => v = .tuple #[] ∧ ∃ q : Row, RowIs 63 5 q.A q.n q.c ((cs ++ (conP f z).toList).map conCells) q.e ∧ Mem w (blks [(some bl, bc [.map (some pm), .slice r.A r.n r.c] 102), em, r.e]) [(some bl, bc [.map (some pm), .slice q.A q.n q.c] 102), em, q.e] w') v w') := by
  refine calls_of_W #[] 35 Tryz.func60 rfl Tryz.results60 Tryz.ntmps60 rfl ?_
  have M0 := hO.mem
  refine W_seq ?_
  refine W_region ?_
  refine wl_box (.agg (List.toArray _)) M0 rfl rfl rfl (fun b1 w1 M1 => ?_)
  refine wl_nil ?_
  refine thenN ?_
  refine W_seq ?_
  refine W_fork [(0, 0), (1, 0), (2, 0), (3, 1), (4, 0), (5, 1), (6, 1), (7, 0), (8, 0), (9, 0), (10, 1), (11, 0), (12, 1), (13, 1)] 14 18 [(15, 0), (16, 0), (17, 0), (18, 2), (19, 2), (20, 0)] [(14, 2), (15, 0), (16, 0), (17, 0), (19, 2), (20, 0)] mixed rfl (by kernel_rfl) (fun w2 hb2 hh2 => ?_)
  have M2 := M1.drew hb2 hh2
  refine DK_p rfl rfl rfl (fun _ => r_move (.pointer _) rfl) ?_
  refine DK_p rfl rfl rfl (fun _ => r_nilCheck rfl) ?_
  refine DK_p rfl rfl rfl (fun _ => r_fieldAddr 0 fld102_0 rfl) ?_
  refine DK_r rfl rfl rfl (r_ld 0 (.map _) one100 M2 rfl rfl rfl) ?_
  refine DK_p rfl rfl rfl (fun _ => r_fieldAddr 0 fld61_0 rfl) ?_
  refine DK_r rfl rfl rfl (r_ld 3 (.int _ _) one30 M2 rfl rfl rfl) ?_
  refine DK_r rfl rfl rfl (r_lookup1 (enc := encBo) z0Bo 1 map100 zv32 M2 rfl hme rfl rfl) ?_
  refine DK_re 13 ((.agg (bodyCells a).toArray)) (congrArg encBo (by rw [h1]; rfl)) ?_
  refine DK_p rfl rfl rfl (fun _ => r_move (.pointer _) rfl) ?_
  refine DK_p rfl rfl rfl (fun _ => r_nilCheck rfl) ?_
  refine DK_p rfl rfl rfl (fun _ => r_fieldAddr 0 fld102_0 rfl) ?_
  refine DK_r rfl rfl rfl (r_ld 0 (.map _) one100 M2 rfl rfl rfl) ?_
  refine DK_p rfl rfl rfl (fun _ => r_fieldAddr 1 fld61_1 rfl) ?_
  refine DK_r rfl rfl rfl (r_ld 3 (.int _ _) one30 M2 rfl rfl rfl) ?_
  refine DK_r rfl rfl rfl (r_lookup1 (enc := encBo) z0Bo 1 map100 zv32 M2 rfl hme rfl rfl) ?_
  refine DK_re 20 ((.agg (bodyCells b).toArray)) (congrArg encBo (by rw [h2]; rfl)) ?_
  refine DK_fork ?_ ?_
  · skip
    refine D_e [true, true, true, true, true, true] rfl (by kernel_rfl) ?_
    refine wl_cal cal77 rfl rfl rfl ?_
    refine (contact_Of _ a b ha hb).mono ?_
    rintro _ w3 ⟨v3, rfl, ⟨rfl, hb3⟩⟩
    refine ⟨_, rfl, ?_⟩
    have M3 := M2.callB hb3
    refine wl_nil (thenN ⟨alN, ?_⟩)
    refine D_p rfl rfl rfl (fun _ => r_move (.tuple (List.toArray _)) rfl) ?_
    refine D_p rfl rfl rfl (fun _ => r_ext (.agg (List.toArray _)) rfl rfl) ?_
    refine D_p rfl rfl rfl (fun _ => r_ext (.bool _) rfl rfl) ?_
    refine D_e [] rfl (by kernel_rfl) ?_
    refine wl_alloc zero63 M3 rfl rfl (fun b4 w4 M4 => ?_)
    refine wl_nil (thenN ⟨alN, ?_⟩)
    refine D_e [] rfl (by kernel_rfl) ?_
    refine wl_stW 4 _ agg63 M4 rfl rfl rfl rfl rfl (ones_of rfl) rfl (fun w5 M5 => ?_)
    refine wl_nil (thenN ⟨alN, ?_⟩)
    refine D_p rfl rfl rfl (fun _ => r_assign (.bool _) rfl) ?_
    refine D_nil ?_
    refine thenN ?_
    refine W_seq ?_
    refine W_region ?_
    refine wl_q (r_move (.bool _) rfl) rfl rfl ?_
    refine wl_nil ?_
    refine thenN ?_
    refine W_cond _ rfl (fun h24 => ?_) (fun h24 => ?_)
    · skip
      obtain ⟨cc, hcc⟩ := Option.isSome_iff_exists.1 h24
      refine W_draw [(0, 0), (1, 0), (2, 0), (3, 0), (4, 1), (5, 1), (6, 2), (7, 2), (8, 0), (9, 0), (10, 2)] mixed rfl (by kernel_rfl) (fun w6 hb6 hh6 => ?_)
      have M6 := M5.drew hb6 hh6
      refine D_p rfl rfl rfl (fun _ => r_move (.pointer _) rfl) ?_
      refine D_p rfl rfl rfl (fun _ => r_move (.pointer _) rfl) ?_
      refine D_p rfl rfl rfl (fun _ => r_nilCheck rfl) ?_
      refine D_p rfl rfl rfl (fun _ => r_fieldAddr 1 fld102_1 rfl) ?_
      refine D_r rfl rfl rfl (r_ld 0 (.slice _ _ _) one45 M6 rfl rfl rfl) ?_
      refine D_r rfl rfl rfl (r_ldW 4 agg63 M6 rfl rfl rfl) ?_
      refine D_re 30 (.agg (conCells cc).toArray) (congrArg (fun o => Value.agg (conO o).toArray) hcc) ?_
      refine D_e [true, false] rfl (by kernel_rfl) ?_
      refine wl_bslice [.agg (List.toArray _)] [conCells cc] rfl sl45 M6 rfl rfl rfl rfl (lens_of rfl) (by decide) (fun b7 w7 M7 => ?_)
      refine wl_nil (thenN ⟨(alC (Yl_of rfl (r_ld 0 (.slice _ _ _) one45 M7 rfl rfl rfl)) alN), ?_⟩)
      refine D_e [true] rfl (by kernel_rfl) ?_
      refine wl_append 2 [conCells cc] sl45 M7 rfl rfl rfl rfl rfl hr rfl (by simp [conCells, Go.Bil.one]) (Cells.ofMem 5 M7 rfl) (by omega) (fun A8 c8 e8 w8 M8 hR8 => ?_)
      refine wl_nil (thenN ⟨alN, ?_⟩)
      refine D_p rfl rfl rfl (fun _ => r_nilCheck rfl) ?_
      refine D_p rfl rfl rfl (fun _ => r_fieldAddr 1 fld102_1 rfl) ?_
      refine D_e [] rfl (by kernel_rfl) ?_
      refine wl_st 0 (.slice _ _ _) one45 M8 rfl rfl rfl rfl rfl rfl (fun w9 M9 => ?_)
      refine wl_nil (thenN ⟨alN, ?_⟩)
      refine D_nil ?_
      refine fin0n ?_
      exact ⟨rfl, ⟨A8, r.n + 1, c8, e8⟩, by rw [conP_eq h1 h2, hcc, List.map_append]; exact hR8, M9.keep [true, true, true, false, false, false]⟩
    · skip
      have hcc : conOf a b = none := by simpa using h24
      refine W_skip ?_
      refine fin0n ?_
      exact ⟨rfl, r, by rw [conP_eq h1 h2, hcc]; simpa using hr, M5.keep [true, true, true, false, false]⟩
  · skip
    refine D_e [false, false, false, false, false, false] rfl (by kernel_rfl) ?_
    refine wl_alloc zero63 M2 rfl rfl (fun b10 w10 M10 => ?_)
    refine wl_nil (thenN ⟨(alC (Yl_of rfl (r_lookup1 (enc := encBo) z0Bo 1 map100 zv32 M10 rfl hme rfl rfl)) (alC (Yl_of rfl (r_ld 3 (.int _ _) one30 M10 rfl rfl rfl)) (alC (Yl_of rfl (r_ld 0 (.map _) one100 M10 rfl rfl rfl)) (alC (Yl_of rfl (r_lookup1 (enc := encBo) z0Bo 1 map100 zv32 M10 rfl hme rfl rfl)) (alC (Yl_of rfl (r_ld 3 (.int _ _) one30 M10 rfl rfl rfl)) (alC (Yl_of rfl (r_ld 0 (.map _) one100 M10 rfl rfl rfl)) alN)))))), ?_⟩)
    refine D_e [true, true, true, true, true, true] rfl (by kernel_rfl) ?_
    refine wl_cal cal77 rfl rfl rfl ?_
    refine (contact_Of _ a b ha hb).mono ?_
    rintro _ w11 ⟨v11, rfl, ⟨rfl, hb11⟩⟩
    refine ⟨_, rfl, ?_⟩
    have M11 := M10.callB hb11
    refine wl_nil (thenN ⟨alN, ?_⟩)
    refine D_p rfl rfl rfl (fun _ => r_move (.tuple (List.toArray _)) rfl) ?_
    refine D_p rfl rfl rfl (fun _ => r_ext (.agg (List.toArray _)) rfl rfl) ?_
    refine D_p rfl rfl rfl (fun _ => r_ext (.bool _) rfl rfl) ?_
    refine D_e [] rfl (by kernel_rfl) ?_
    refine wl_stW 4 _ agg63 M11 rfl rfl rfl rfl rfl (ones_of rfl) rfl (fun w12 M12 => ?_)
    refine wl_nil (thenN ⟨alN, ?_⟩)
    refine D_p rfl rfl rfl (fun _ => r_assign (.bool _) rfl) ?_
    refine D_nil ?_
    refine thenN ?_
    refine W_seq ?_
    refine W_region ?_
    refine wl_q (r_move (.bool _) rfl) rfl rfl ?_
    refine wl_nil ?_
    refine thenN ?_
    refine W_cond _ rfl (fun h24 => ?_) (fun h24 => ?_)
    · skip
      obtain ⟨cc, hcc⟩ := Option.isSome_iff_exists.1 h24
      refine W_draw [(0, 0), (1, 0), (2, 0), (3, 0), (4, 1), (5, 1), (6, 2), (7, 2), (8, 0), (9, 0), (10, 2)] mixed rfl (by kernel_rfl) (fun w13 hb13 hh13 => ?_)
      have M13 := M12.drew hb13 hh13
      refine D_p rfl rfl rfl (fun _ => r_move (.pointer _) rfl) ?_
      refine D_p rfl rfl rfl (fun _ => r_move (.pointer _) rfl) ?_
      refine D_p rfl rfl rfl (fun _ => r_nilCheck rfl) ?_
      refine D_p rfl rfl rfl (fun _ => r_fieldAddr 1 fld102_1 rfl) ?_
      refine D_r rfl rfl rfl (r_ld 0 (.slice _ _ _) one45 M13 rfl rfl rfl) ?_
      refine D_r rfl rfl rfl (r_ldW 4 agg63 M13 rfl rfl rfl) ?_
      refine D_re 30 (.agg (conCells cc).toArray) (congrArg (fun o => Value.agg (conO o).toArray) hcc) ?_
      refine D_e [true, false] rfl (by kernel_rfl) ?_
      refine wl_bslice [.agg (List.toArray _)] [conCells cc] rfl sl45 M13 rfl rfl rfl rfl (lens_of rfl) (by decide) (fun b14 w14 M14 => ?_)
      refine wl_nil (thenN ⟨(alC (Yl_of rfl (r_ld 0 (.slice _ _ _) one45 M14 rfl rfl rfl)) alN), ?_⟩)
      refine D_e [true] rfl (by kernel_rfl) ?_
      refine wl_append 2 [conCells cc] sl45 M14 rfl rfl rfl rfl rfl hr rfl (by simp [conCells, Go.Bil.one]) (Cells.ofMem 5 M14 rfl) (by omega) (fun A15 c15 e15 w15 M15 hR15 => ?_)
      refine wl_nil (thenN ⟨alN, ?_⟩)
      refine D_p rfl rfl rfl (fun _ => r_nilCheck rfl) ?_
      refine D_p rfl rfl rfl (fun _ => r_fieldAddr 1 fld102_1 rfl) ?_
      refine D_e [] rfl (by kernel_rfl) ?_
      refine wl_st 0 (.slice _ _ _) one45 M15 rfl rfl rfl rfl rfl rfl (fun w16 M16 => ?_)
      refine wl_nil (thenN ⟨alN, ?_⟩)
      refine D_nil ?_
      refine fin0n ?_
      exact ⟨rfl, ⟨A15, r.n + 1, c15, e15⟩, by rw [conP_eq h1 h2, hcc, List.map_append]; exact hR15, M16.keep [true, true, true, false, false, false]⟩
    · skip
      have hcc : conOf a b = none := by simpa using h24
      refine W_skip ?_
      refine fin0n ?_
      exact ⟨rfl, r, by rw [conP_eq h1 h2, hcc]; simpa using hr, M12.keep [true, true, true, false, false]⟩

set_option maxHeartbeats 4000000 in
theorem contacts_each (w : World) (A : Option Addr) (n c : Nat) (zs : List (Int × Int)) (R : Rd w 2 A n (zs.map pairCells)) (bl pm : Nat) (f : Int → Option Body) (em : Ent) (hme : MapE .u32 encBo f (some pm) em) (r : Row) (hr : RowIs 63 5 r.A r.n r.c (([]).map conCells) r.e) (hz : ∀ z ∈ zs, ∃ a b, f z.1 = some a ∧ f z.2 = some b ∧ Okb a ∧ Okb b) (hn : n ≤ 1099511627776) (hO : Own [(some bl, bc [.map (some pm), .slice r.A r.n r.c] 102), em, r.e] w) (hdA : 0 < n → ∀ q off, A = some ⟨q, off, none⟩ → q ∉ blks [(some bl, bc [.map (some pm), .slice r.A r.n r.c] 102), em, r.e]) :
    Calls Tryz.prog 59 #[.slice A n c, .func (.func 60) #[.pointer (some ⟨bl, 0, none⟩)] #[]] w (fun ex w' => ∃ v, ex = .returned v ∧ (fun v w' => v = .tuple #[] ∧ ∃ q : Row, RowIs 63 5 q.A q.n q.c ((zs.filterMap (conP f)).map conCells) q.e ∧ Mem w (blks [(some bl, bc [.map (some pm), .slice r.A r.n r.c] 102), em, r.e]) [(some bl, bc [.map (some pm), .slice q.A q.n q.c] 102), em, q.e] w') v w') := by
  have hlen : zs.length = n := by simpa using R.len
  refine calls_of_W #[] 16 Tryz.func59 rfl Tryz.results59 Tryz.ntmps59 rfl ?_
  have M0 := hO.mem
  refine W_seq ?_
  refine W_region ?_
  refine wl_q (r_move (.slice _ _ _) rfl) rfl rfl ?_
  refine wl_q (r_lenS Tryz.underlying103 rfl) rfl rfl ?_
  refine wl_q (r_move (.int _ _) rfl) rfl rfl ?_
  refine wl_nil ?_
  refine thenN ?_
  refine W_block ?_
  refine W_loop (σ := Nat × Row) [1, 6, 7] (fun (k, q) => [(8, .int .i64 (k : Int))]) (fun (k, q) w' => (k ≤ n ∧ RowIs 63 5 q.A q.n q.c (((zs.take k).filterMap (conP f)).map conCells) q.e) ∧ Mem w (blks [(some bl, bc [.map (some pm), .slice r.A r.n r.c] 102), em, r.e]) [(some bl, bc [.map (some pm), .slice q.A q.n q.c] 102), em, q.e] w') (fun (k, q) => n - k) (0, r) (agC rfl agN) (⟨⟨by omega, hr⟩, M0⟩) ?_
  rintro ⟨k, q⟩ ρ1 w1 ⟨⟨hk, hq⟩, hM1⟩
  have hfl := List.length_filterMap_le (conP f) (zs.take k)
  have htl := List.length_take_le k zs
  have hql : ((zs.take k).filterMap (conP f)).length = q.n := by simpa using hq.1
  refine W_seq ?_
  refine W_region ?_
  refine wl_q (r_bin (.bool (decide _)) rfl rfl rfl) rfl rfl ?_
  refine wl_nil ?_
  refine thenN ?_
  refine W_seq ?_
  refine W_condD rfl (fun h9 => ?_) (fun h9 => ?_)
  · skip
    obtain ⟨xz, hxz⟩ := getSome (k := k) hlen (by omega)
    obtain ⟨za, zb, hza, hzb, hoa, hob⟩ := hz xz (List.mem_of_getElem? hxz)
    refine W_skip ?_
    refine thenN ?_
    refine W_seq ?_
    refine W_block ?_
    refine W_seq ?_
    refine W_region ?_
    refine wl_q (r_idxR (k) sl103 rfl rfl rfl ((R.memY hM1 hdA).below_len (mapGet pairCells hxz)) ((R.memY hM1 hdA).someK (mapGet pairCells hxz))) rfl rfl ?_
    refine wl_q (r_ldEA _ agg61 (R.memY hM1 hdA) (mapGet pairCells hxz) rfl) rfl rfl ?_
    refine wl_alloc zero61 hM1 rfl rfl (fun b2 w2 M2 => ?_)
    refine wl_stW 3 _ agg61 M2 rfl rfl rfl rfl rfl (ones_of rfl) rfl (fun w3 M3 => ?_)
    refine wl_nil ?_
    refine thenN ?_
    refine W_region ?_
    refine wl_q (r_move (.func _ _ _) rfl) rfl rfl ?_
    refine wl_q (r_ldW 3 agg61 M3 rfl rfl rfl) rfl rfl ?_
    refine wl_cal cal60 rfl rfl rfl ?_
    refine (coll_pair _ bl pm f em hme q _ hq (by omega) xz za zb hza hzb hoa hob (M3.ownSeg 0 3)).mono ?_
    rintro _ w4 ⟨v4, rfl, ⟨rfl, q2, hq2, hM4⟩⟩
    refine ⟨_, rfl, ?_⟩
    have M4 : Mem _ _ [_, _, _, _] _ := M3.seg 0 3 hM4
    refine wl_nil ?_
    refine blkN ?_
    refine thenN ?_
    refine W_region ?_
    refine wl_q (r_add rfl rfl (by omega) (by omega)) rfl rfl ?_
    refine wl_q (r_move (.int _ _) rfl) rfl rfl ?_
    refine wl_nil ?_
    refine roundN (k + 1, q2) (agC rfl agN) (akC rfl (akC rfl (akC rfl akN))) ?_ ?_
    · exact ⟨⟨by omega, by rw [fm_snoc hxz]; exact hq2⟩, M4.keep [true, true, true, false]⟩
    · (show n - (k + 1) < n - k; omega)
  · skip
    have hkn : k = n := by omega
    rw [List.take_of_length_le (by omega)] at hq
    refine W_exit ?_
    refine thenX ?_
    refine roundX ?_
    refine blkH ?_
    refine fin0n ?_
    exact ⟨rfl, q, hq, hM1⟩

set_option maxHeartbeats 8000000 in
theorem contacts_All (w : World) (F : Rd w 2 (some ⟨1, 0, none⟩) 1 [[.int .u32 73856093, .int .u32 19349663]]) (N : Rd w 4 (some ⟨0, 0, none⟩) 1 [bxCells noneB]) (A : Option Addr) (n c : Nat) (xs : List Body) (R : Rd w 10 A n (xs.map bodyCells)) (hb : ∀ b ∈ xs, Okb b) (hs : Sorted xs) (hn : n ≤ 4096) :
    Calls Tryz.prog 34 #[.slice A n c] w (fun ex w' => ∃ v, ex = .returned v ∧ (fun v w' => ∃ (r : Row) (m : Nat), v = .tuple #[.slice r.A r.n r.c, .int .i64 (m : Int)] ∧ (findP xs).length ≤ m ∧ 2 * m ≤ xs.length * (xs.length - 1) ∧ RowIs 63 5 r.A r.n r.c ((allC xs).map conCells) r.e ∧ Mem w [] [r.e] w') v w') := by
  have hlen : xs.length = n := by simpa using R.len
  have hbd := R.bound
  refine calls_of_W #[.tmp 2, .tmp 3] 39 Tryz.func34 rfl Tryz.results34 Tryz.ntmps34 rfl ?_
  have M0 := Mem.refl w
  refine W_seq ?_
  refine W_region ?_
  refine wl_q (r_assign (.slice _ _ _) rfl) rfl rfl ?_
  refine wl_q (r_assign (.int _ _) rfl) rfl rfl ?_
  refine wl_nil ?_
  refine thenN ?_
  refine W_seq ?_
  refine W_region ?_
  refine wl_makeMap M0 rfl rfl (fun b1 w1 M1 => ?_)
  refine wl_q (r_build [(0, .map _)] _ struct102 rfl rfl) rfl rfl ?_
  refine wl_box (.agg (List.toArray _)) M1 rfl rfl rfl (fun b2 w2 M2 => ?_)
  refine wl_q (r_assign (.pointer _) rfl) rfl rfl ?_
  refine wl_nil ?_
  refine thenN ?_
  refine W_seq ?_
  refine W_seq ?_
  refine W_region ?_
  refine wl_q (r_move (.slice _ _ _) rfl) rfl rfl ?_
  refine wl_q (r_lenS Tryz.underlying22 rfl) rfl rfl ?_
  refine wl_q (r_move (.int _ _) rfl) rfl rfl ?_
  refine wl_nil ?_
  refine thenN ?_
  refine W_block ?_
  refine W_loop (σ := Nat × Ent) [0, 2, 3, 4, 11, 12] (fun (k, em) => [(13, .int .i64 (k : Int))]) (fun (k, em) w' => (k ≤ n ∧ MapE .u32 encBo (boM (xs.take k)) (some b1) em) ∧ Mem w [] [em, (some b2, bc [.map (some b1), .slice none 0 0] 102)] w') (fun (k, em) => n - k) (0, (some b1, .map #[] 0)) (agC rfl agN) (⟨⟨by omega, (MapE.empty _ _ b1).congr (fun q => by rw [List.take_zero]; exact boM_nil q)⟩, M2⟩) ?_
  rintro ⟨k, em⟩ ρ3 w3 ⟨⟨hk, hme⟩, hM3⟩
  refine W_seq ?_
  refine W_region ?_
  refine wl_q (r_bin (.bool (decide _)) rfl rfl rfl) rfl rfl ?_
  refine wl_nil ?_
  refine thenN ?_
  refine W_seq ?_
  refine W_condD rfl (fun h14 => ?_) (fun h14 => ?_)
  · skip
    obtain ⟨xb, hxb⟩ := getSome (k := k) hlen (by omega)
    refine W_skip ?_
    refine thenN ?_
    refine W_seq ?_
    refine W_block ?_
    refine W_seq ?_
    refine W_region ?_
    refine wl_q (r_idxR (k) sl22 rfl rfl rfl ((R.mem hM3).below_len (mapGet bodyCells hxb)) ((R.mem hM3).someK (mapGet bodyCells hxb))) rfl rfl ?_
    refine wl_q (r_ldEA _ agg32 (R.mem hM3) (mapGet bodyCells hxb) rfl) rfl rfl ?_
    refine wl_alloc zero32 hM3 rfl rfl (fun b4 w4 M4 => ?_)
    refine wl_stW 2 _ agg32 M4 rfl rfl rfl rfl rfl (ones_of rfl) rfl (fun w5 M5 => ?_)
    refine wl_nil ?_
    refine thenN ?_
    refine W_draw [(0, 0), (1, 0), (2, 0), (3, 1), (4, 0), (5, 1), (6, 1), (7, 2)] mixed rfl (by kernel_rfl) (fun w6 hb6 hh6 => ?_)
    have M6 := M5.drew hb6 hh6
    refine D_p rfl rfl rfl (fun _ => r_move (.pointer _) rfl) ?_
    refine D_p rfl rfl rfl (fun _ => r_nilCheck rfl) ?_
    refine D_p rfl rfl rfl (fun _ => r_fieldAddr 0 fld102_0 rfl) ?_
    refine D_r rfl rfl rfl (r_ld 1 (.map _) one100 M6 rfl rfl rfl) ?_
    refine D_p rfl rfl rfl (fun _ => r_fieldAddr 0 fld32_0 rfl) ?_
    refine D_r rfl rfl rfl (r_ld 2 (.int _ _) one30 M6 rfl rfl rfl) ?_
    refine D_r rfl rfl rfl (r_ldW 2 agg32 M6 rfl rfl rfl) ?_
    refine D_e [true, true, true] rfl (by kernel_rfl) ?_
    refine wl_mapUpdate (enc := encBo) 0 map100 M6 rfl rfl hme rfl rfl rfl rfl (fun e7 w7 hm7 M7 => ?_)
    refine wl_nil (thenN ⟨alN, ?_⟩)
    refine D_nil ?_
    refine blkN ?_
    refine thenN ?_
    refine W_region ?_
    refine wl_q (r_add rfl rfl (by omega) (by omega)) rfl rfl ?_
    refine wl_q (r_move (.int _ _) rfl) rfl rfl ?_
    refine wl_nil ?_
    refine roundN (k + 1, e7) (agC rfl agN) (akC rfl (akC rfl (akC rfl (akC rfl (akC rfl (akC rfl akN)))))) ?_ ?_
    · exact ⟨⟨by omega, hm7.congr (fun q => boM_snoc hxb q)⟩, M7.keep [true, true, false]⟩
    · (show n - (k + 1) < n - k; omega)
  · skip
    have hkn : k = n := by omega
    rw [List.take_of_length_le (by omega)] at hme
    refine W_exit ?_
    refine thenX ?_
    refine roundX ?_
    refine blkH ?_
    refine thenN ?_
    refine W_seq ?_
    refine W_region ?_
    refine wl_q (r_move (.slice _ _ _) rfl) rfl rfl ?_
    refine wl_cal cal58 rfl rfl rfl ?_
    refine (pairs_Find _ (F.mem hM3) (N.mem hM3) _ _ _ xs (R.mem hM3) hb hs (by first | decide | omega)).mono ?_
    rintro _ w8 ⟨v8, rfl, ⟨r0, m0, rfl, hfm0, hgm0, hr0, hM8⟩⟩
    refine ⟨_, rfl, ?_⟩
    have M8 : Mem _ _ [_, _, _] _ := hM3.call0 hM8
    refine wl_q (r_move (.tuple (List.toArray _)) rfl) rfl rfl ?_
    refine wl_q (r_ext (.slice _ _ _) rfl rfl) rfl rfl ?_
    refine wl_q (r_ext (.int _ _) rfl rfl) rfl rfl ?_
    refine wl_q (r_assign (.slice _ _ _) rfl) rfl rfl ?_
    refine wl_q (r_assign (.int _ _) rfl) rfl rfl ?_
    refine wl_nil ?_
    refine thenN ?_
    refine W_seq ?_
    refine W_region ?_
    refine wl_q (r_move (.slice _ _ _) rfl) rfl rfl ?_
    refine wl_q (r_move (.pointer _) rfl) rfl rfl ?_
    refine wl_q (r_makeFuncV [.pointer _] [] rfl rfl) rfl rfl ?_
    have M9 : Mem _ _ [_, _, _, _] _ := Mem.orderC (M8.dummy default)
    have hfl : (findP xs).length = r0.n := by simpa using hr0.1
    have hnn : xs.length * (xs.length - 1) ≤ 4096 * 4096 := Nat.mul_le_mul (by omega) (by omega)
    refine wl_cal cal59 rfl rfl rfl ?_
    refine (contacts_each _ r0.A r0.n r0.c (findP xs) (hr0.rd M9 (nthMem (i := 0) rfl)) b2 b1 (boM xs) em hme nilRow (RowIs.nil _ _ _) (fun z hz => by obtain ⟨a, b, h1, h2, _, _, h3, h4⟩ := pair_bodies hs hz; exact ⟨a, b, h3, h4, hb a h1, hb b h2⟩) (by omega) (M9.ownSeg 1 3) (hr0.apartTail M9)).mono ?_
    rintro _ w10 ⟨v10, rfl, ⟨rfl, q, hq, hM10⟩⟩
    refine ⟨_, rfl, ?_⟩
    have M10 : Mem _ _ [_, _, _, _] _ := M9.seg 1 3 hM10
    refine wl_nil ?_
    refine thenN ?_
    refine W_seq ?_
    refine W_region ?_
    refine wl_q (r_move (.pointer _) rfl) rfl rfl ?_
    refine wl_q (r_nilCheck rfl) rfl rfl ?_
    refine wl_q (r_fieldAddr 1 fld102_1 rfl) rfl rfl ?_
    refine wl_q (r_ld 1 (.slice _ _ _) one45 M10 rfl rfl rfl) rfl rfl ?_
    refine wl_q (r_move (.int _ _) rfl) rfl rfl ?_
    refine wl_q (r_assign (.slice _ _ _) rfl) rfl rfl ?_
    refine wl_q (r_assign (.int _ _) rfl) rfl rfl ?_
    refine wl_nil ?_
    refine thenN ?_
    refine W_ret ?_
    skip
    refine fin2 (.slice _ _ _) (.int _ _) rfl rfl ?_
    exact ⟨q, m0, rfl, hfm0, hgm0, hq, M10.keep [false, false, false, true]⟩

end Go.Proofs.YtmcddmhkjcgneaaGreatDoor
