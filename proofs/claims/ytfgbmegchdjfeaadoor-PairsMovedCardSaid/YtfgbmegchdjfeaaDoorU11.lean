/- Walks of Go functions over the frame of this claim: what each computes, for every input of the stated types (U11). -/
import Derived.Test.YtfgbmegchdjfeaaDoorTy
import Derived.Test.YtfgbmegchdjfeaaDoorQ10
import Derived.Test.YtfgbmegchdjfeaaDoorMdQ
import Derived.Test.YtfgbmegchdjfeaaDoorR6
set_option linter.unusedVariables false
set_option linter.unusedSimpArgs false
set_option linter.unnecessarySimpa false
namespace Go.Proofs.YtfgbmegchdjfeaaDoor
open Go.Bil
open Go.RowKit (Below)
open Go.Proofs

theorem eqPair (a b : Int × Int) : EqA Tryd.prog 42 (pairCells a) (pairCells b) (decide (a = b)) := by
  have h := eqA42 a.1 a.2 b.1 b.2
  have e : decide (a.1 = b.1 ∧ a.2 = b.2) = decide (a = b) := decide_eq_decide.2 Prod.ext_iff.symm
  rw [e] at h
  exact h

set_option maxHeartbeats 4000000 in
theorem pairs_boxes (w : World) (A : Option Addr) (n c : Nat) (xs : List Body) (R : Rd w 10 A n (xs.map bodyCells)) (hb : ∀ b ∈ xs, Okb b) :
    Calls Tryd.prog 29 #[.slice A n c] w (fun ex w' => ∃ v, ex = .returned v ∧ (fun v w' => ∃ (pm : Nat) (em : Ent), v = .map (some pm) ∧ MapE .u32 encBx (bxM xs) (some pm) em ∧ Mem w [] [em] w') v w') := by
  have hlen : xs.length = n := by simpa using R.len
  have hbd := R.bound
  refine calls_of_W #[.tmp 2] 20 Tryd.func29 rfl Tryd.results29 Tryd.ntmps29 rfl ?_
  have M0 := Mem.refl w
  refine W_seq ?_
  refine W_region ?_
  refine wl_q (r_assign (.map _) rfl) rfl rfl ?_
  refine wl_nil ?_
  refine thenN ?_
  refine W_seq ?_
  refine W_region ?_
  refine wl_makeMap M0 rfl rfl (fun b1 w1 M1 => ?_)
  refine wl_q (r_assign (.map _) rfl) rfl rfl ?_
  refine wl_nil ?_
  refine thenN ?_
  refine W_seq ?_
  refine W_seq ?_
  refine W_region ?_
  refine wl_q (r_move (.slice _ _ _) rfl) rfl rfl ?_
  refine wl_q (r_lenS Tryd.underlying22 rfl) rfl rfl ?_
  refine wl_q (r_move (.int _ _) rfl) rfl rfl ?_
  refine wl_nil ?_
  refine thenN ?_
  refine W_block ?_
  refine W_loop (σ := Nat × Ent) [2, 3, 7, 8] (fun (k, em) => [(9, .int .i64 (k : Int))]) (fun (k, em) w' => (k ≤ n ∧ MapE .u32 encBx (bxM (xs.take k)) (some b1) em) ∧ Mem w [] [em] w') (fun (k, em) => n - k) (0, (some b1, .map #[] 0)) (agC rfl agN) (⟨⟨by omega, (MapE.empty _ _ b1).congr (fun q => by rw [List.take_zero]; exact bxM_nil q)⟩, M1⟩) ?_
  rintro ⟨k, em⟩ ρ2 w2 ⟨⟨hk, hme⟩, hM2⟩
  refine W_seq ?_
  refine W_region ?_
  refine wl_q (r_bin (.bool (decide _)) rfl rfl rfl) rfl rfl ?_
  refine wl_nil ?_
  refine thenN ?_
  refine W_seq ?_
  refine W_condD rfl (fun h10 => ?_) (fun h10 => ?_)
  · skip
    obtain ⟨xb, hxb⟩ := getSome (k := k) hlen (by omega)
    refine W_skip ?_
    refine thenN ?_
    refine W_seq ?_
    refine W_block ?_
    refine W_seq ?_
    refine W_region ?_
    refine wl_q (r_idxR (k) sl22 rfl rfl rfl ((R.mem hM2).below_len (mapGet bodyCells hxb)) ((R.mem hM2).someK (mapGet bodyCells hxb))) rfl rfl ?_
    refine wl_q (r_ldEA _ agg49 (R.mem hM2) (mapGet bodyCells hxb) rfl) rfl rfl ?_
    refine wl_alloc zero49 hM2 rfl rfl (fun b3 w3 M3 => ?_)
    refine wl_stW 1 _ agg49 M3 rfl rfl rfl rfl rfl (ones_of rfl) rfl (fun w4 M4 => ?_)
    refine wl_nil ?_
    refine thenN ?_
    refine W_draw [(0, 0), (1, 0), (2, 1), (3, 1), (4, 2), (5, 2)] mixed rfl (by kernel_rfl) (fun w5 hb5 hh5 => ?_)
    have M5 := M4.drew hb5 hh5
    refine D_p rfl rfl rfl (fun _ => r_move (.map _) rfl) ?_
    refine D_p rfl rfl rfl (fun _ => r_fieldAddr 0 fld49_0 rfl) ?_
    refine D_r rfl rfl rfl (r_ld 1 (.int _ _) one25 M5 rfl rfl rfl) ?_
    refine D_r rfl rfl rfl (r_ldW 1 agg49 M5 rfl rfl rfl) ?_
    refine D_e [true, false] rfl (by kernel_rfl) ?_
    refine wl_cal cal36 rfl rfl rfl ?_
    refine (box_Of _ xb (hb xb (List.mem_of_getElem? hxb))).mono ?_
    rintro _ w6 ⟨v6, rfl, ⟨rfl, hb6⟩⟩
    refine ⟨_, rfl, ?_⟩
    have M6 := M5.callB hb6
    refine wl_nil (thenN ⟨(alC (Yl_of rfl (r_ld 1 (.int _ _) one25 M6 rfl rfl rfl)) alN), ?_⟩)
    refine D_e [true] rfl (by kernel_rfl) ?_
    refine wl_mapUpdate (enc := encBx) 0 map63 M6 rfl rfl hme rfl rfl rfl rfl (fun e7 w7 hm7 M7 => ?_)
    refine wl_nil (thenN ⟨alN, ?_⟩)
    refine D_nil ?_
    refine blkN ?_
    refine thenN ?_
    refine W_region ?_
    refine wl_q (r_add rfl rfl (by omega) (by omega)) rfl rfl ?_
    refine wl_q (r_move (.int _ _) rfl) rfl rfl ?_
    refine wl_nil ?_
    refine roundN (k + 1, e7) (agC rfl agN) (akC rfl (akC rfl (akC rfl (akC rfl akN)))) ?_ ?_
    · exact ⟨⟨by omega, hm7.congr (fun q => bxM_snoc hxb q)⟩, M7.keep [true, false]⟩
    · (show n - (k + 1) < n - k; omega)
  · skip
    have hkn : k = n := by omega
    rw [List.take_of_length_le (by omega)] at hme
    refine W_exit ?_
    refine thenX ?_
    refine roundX ?_
    refine blkH ?_
    refine thenN ?_
    refine W_seq ?_
    refine W_region ?_
    refine wl_q (r_move (.map _) rfl) rfl rfl ?_
    refine wl_q (r_assign (.map _) rfl) rfl rfl ?_
    refine wl_nil ?_
    refine thenN ?_
    refine W_ret ?_
    skip
    refine fin1 (.map _) rfl ?_
    exact ⟨_, _, rfl, hme, hM2⟩

set_option maxHeartbeats 4000000 in
theorem pairs_counting (w : World) (pm : Nat) :
    Calls Tryd.prog 31 #[.map (some pm)] w (fun ex w' => ∃ v, ex = .returned v ∧ (fun v w' => ∃ bm bn, v = .tuple #[.func (.func 47) #[] #[.pointer (some ⟨bn, 0, none⟩), .pointer (some ⟨bm, 0, none⟩)], .func (.func 48) #[] #[.pointer (some ⟨bn, 0, none⟩)]] ∧ Mem w [] [(some bm, bc [.map (some pm)] 63), (some bn, bc [.int .i64 0] 3)] w') v w') := by
  refine calls_of_W #[.tmp 2, .tmp 3] 8 Tryd.func31 rfl Tryd.results31 Tryd.ntmps31 rfl ?_
  have M0 := Mem.refl w
  refine W_seq ?_
  refine W_region ?_
  refine wl_box (.map _) M0 rfl rfl rfl (fun b1 w1 M1 => ?_)
  refine wl_q (r_assign (_) rfl) rfl rfl ?_
  refine wl_q (r_assign (_) rfl) rfl rfl ?_
  refine wl_nil ?_
  refine thenN ?_
  refine W_seq ?_
  refine W_region ?_
  refine wl_alloc zero3 M1 rfl rfl (fun b2 w2 M2 => ?_)
  refine wl_st 1 (.int _ _) one3 M2 rfl rfl rfl rfl rfl rfl (fun w3 M3 => ?_)
  refine wl_nil ?_
  refine thenN ?_
  refine W_seq ?_
  refine W_region ?_
  refine wl_q (r_makeFuncV [] [.pointer _, .pointer _] rfl rfl) rfl rfl ?_
  refine wl_q (r_assign (.func _ _ _) rfl) rfl rfl ?_
  refine wl_nil ?_
  refine thenN ?_
  refine W_seq ?_
  refine W_region ?_
  refine wl_q (r_move (.func _ _ _) rfl) rfl rfl ?_
  refine wl_q (r_makeFuncV [] [.pointer _] rfl rfl) rfl rfl ?_
  refine wl_q (r_assign (.func _ _ _) rfl) rfl rfl ?_
  refine wl_q (r_assign (.func _ _ _) rfl) rfl rfl ?_
  refine wl_nil ?_
  refine thenN ?_
  refine W_ret ?_
  skip
  refine fin2 (.func _ _ _) (.func _ _ _) rfl rfl ?_
  exact ⟨b1, b2, rfl, M3⟩

set_option maxHeartbeats 4000000 in
theorem pairs_counted (w : World) (bn : Nat) (m : Int) (K : Rd w 1 (some ⟨bn, 0, none⟩) 1 [[.int .i64 m]]) :
    Calls Tryd.prog 48 #[.pointer (some ⟨bn, 0, none⟩)] w (fun ex w' => ∃ v, ex = .returned v ∧ (fun v w' => v = .int .i64 m ∧ Below w.heap.size w w') v w') := by
  rw [← elt_zero bn]
  refine calls_of_W #[.tmp 1] 3 Tryd.func48 rfl Tryd.results48 Tryd.ntmps48 rfl ?_
  have M0 := Mem.refl w
  refine W_seq ?_
  refine W_region ?_
  refine wl_q (r_assign (.int _ _) rfl) rfl rfl ?_
  refine wl_nil ?_
  refine thenN ?_
  refine W_seq ?_
  refine W_region ?_
  refine wl_q (r_ldE (o := 0) (.int _ _) one3 (K.mem M0) (show ([[.int .i64 m]] : List (List Value))[0]? = some [.int .i64 m] from rfl) rfl rfl) rfl rfl ?_
  refine wl_q (r_assign (.int _ _) rfl) rfl rfl ?_
  refine wl_nil ?_
  refine thenN ?_
  refine W_ret ?_
  skip
  refine fin1 (.int _ _) rfl ?_
  exact ⟨rfl, M0.below⟩

set_option maxHeartbeats 4000000 in
theorem pairs_apart (w : World) (z : Int × Int) (bn bm m : Nat) (f : Int → Option Bx) (pm : Nat) (em : Ent) (hme : MapE .u32 encBx f (some pm) em) (B : Rd w 1 (some ⟨bm, 0, none⟩) 1 [[.map (some pm)]]) (N : Rd w 4 (some ⟨1, 0, none⟩) 1 [bxCells noneB]) (hO : Own [(some bn, bc [.int .i64 (m : Int)] 3), em] w) (hdB : 0 < 1 → ∀ q off, (some ⟨bm, 0, none⟩ : Option Addr) = some ⟨q, off, none⟩ → q ∉ blks [(some bn, bc [.int .i64 (m : Int)] 3), em]) (hdN : 0 < 1 → ∀ q off, (some ⟨1, 0, none⟩ : Option Addr) = some ⟨q, off, none⟩ → q ∉ blks [(some bn, bc [.int .i64 (m : Int)] 3), em]) (hm : m ≤ 1125899906842624) :
    Calls Tryd.prog 47 #[(.agg (pairCells z).toArray), .pointer (some ⟨bn, 0, none⟩), .pointer (some ⟨bm, 0, none⟩)] w (fun ex w' => ∃ v, ex = .returned v ∧ (fun v w' => v = .bool (apB f z) ∧ Mem w (blks [(some bn, bc [.int .i64 (m : Int)] 3), em]) [(some bn, bc [.int .i64 ((m + 1 : Nat) : Int)] 3), em] w') v w') := by
  rw [← elt_zero bm]
  refine calls_of_W #[.tmp 4] 17 Tryd.func47 rfl Tryd.results47 Tryd.ntmps47 rfl ?_
  have M0 := hO.mem
  refine W_seq ?_
  refine W_region ?_
  refine wl_box (.agg (List.toArray _)) M0 rfl rfl rfl (fun b1 w1 M1 => ?_)
  refine wl_q (r_assign (.bool false) rfl) rfl rfl ?_
  refine wl_nil ?_
  refine thenN ?_
  refine W_seq ?_
  refine W_region ?_
  refine wl_q (r_ld 0 (.int _ _) one3 M1 rfl rfl rfl) rfl rfl ?_
  refine wl_q (r_add rfl rfl (by omega) (by omega)) rfl rfl ?_
  refine wl_re 6 (.int .i64 ((m + 1 : Nat) : Int)) (iE (by omega)) ?_
  refine wl_st 0 (.int _ _) one3 M1 rfl rfl rfl rfl rfl rfl (fun w2 M2 => ?_)
  refine wl_nil ?_
  refine thenN ?_
  refine W_seq ?_
  refine W_region ?_
  refine wl_q (r_ldE (o := 0) (.map _) one63 (B.memY M2 hdB) (show ([[.map (some pm)]] : List (List Value))[0]? = some ([.map (some pm)]) from rfl) rfl rfl) rfl rfl ?_
  refine wl_q (r_fieldAddr 0 fld42_0 rfl) rfl rfl ?_
  refine wl_q (r_ld 2 (.int _ _) one25 M2 rfl rfl rfl) rfl rfl ?_
  refine wl_q (r_lookup1 (enc := encBx) z0B 1 map63 zv32 M2 rfl hme rfl rfl) rfl rfl ?_
  refine wl_q (r_ldE (o := 0) (.map _) one63 (B.memY M2 hdB) (show ([[.map (some pm)]] : List (List Value))[0]? = some ([.map (some pm)]) from rfl) rfl rfl) rfl rfl ?_
  refine wl_q (r_fieldAddr 1 fld42_1 rfl) rfl rfl ?_
  refine wl_q (r_ld 2 (.int _ _) one25 M2 rfl rfl rfl) rfl rfl ?_
  refine wl_q (r_lookup1 (enc := encBx) z0B 1 map63 zv32 M2 rfl hme rfl rfl) rfl rfl ?_
  refine wl_cal cal35 rfl rfl rfl ?_
  refine (box_Overlap _ (N.memY M2 hdN) ((f z.1).getD z0B) ((f z.2).getD z0B)).mono ?_
  rintro _ w3 ⟨v3, rfl, ⟨rfl, hb3⟩⟩
  refine ⟨_, rfl, ?_⟩
  have M3 := M2.callB hb3
  refine wl_q (r_not rfl) rfl rfl ?_
  refine wl_q (r_assign (.bool (decide _)) rfl) rfl rfl ?_
  refine wl_nil ?_
  refine thenN ?_
  refine W_ret ?_
  skip
  refine fin1 (.bool (decide _)) rfl ?_
  exact ⟨rfl, M3.keep [true, true, false]⟩

set_option maxHeartbeats 4000000 in
theorem slices_IndexFuncP (w : World) (A : Option Addr) (n c : Nat) (zs : List (Int × Int)) (R : Rd w 2 A n (zs.map pairCells)) (bn bm m : Nat) (f : Int → Option Bx) (pm : Nat) (em : Ent) (hme : MapE .u32 encBx f (some pm) em) (B : Rd w 1 (some ⟨bm, 0, none⟩) 1 [[.map (some pm)]]) (N : Rd w 4 (some ⟨1, 0, none⟩) 1 [bxCells noneB]) (hO : Own [(some bn, bc [.int .i64 (m : Int)] 3), em] w) (hdA : 0 < n → ∀ q off, A = some ⟨q, off, none⟩ → q ∉ blks [(some bn, bc [.int .i64 (m : Int)] 3), em]) (hdB : 0 < 1 → ∀ q off, (some ⟨bm, 0, none⟩ : Option Addr) = some ⟨q, off, none⟩ → q ∉ blks [(some bn, bc [.int .i64 (m : Int)] 3), em]) (hdN : 0 < 1 → ∀ q off, (some ⟨1, 0, none⟩ : Option Addr) = some ⟨q, off, none⟩ → q ∉ blks [(some bn, bc [.int .i64 (m : Int)] 3), em]) (hm : m + n ≤ 1125899906842624) (hn : n ≤ 1099511627776) :
    Calls Tryd.prog 49 #[.slice A n c, .func (.func 47) #[] #[.pointer (some ⟨bn, 0, none⟩), .pointer (some ⟨bm, 0, none⟩)]] w (fun ex w' => ∃ v, ex = .returned v ∧ (fun v w' => v = .int .i64 (if zs.findIdx (apB f) < n then (zs.findIdx (apB f) : Int) else -1) ∧ Mem w (blks [(some bn, bc [.int .i64 (m : Int)] 3), em]) [(some bn, bc [.int .i64 ((m + min n (zs.findIdx (apB f) + 1) : Nat) : Int)] 3), em] w') v w') := by
  have hlen : zs.length = n := by simpa using R.len
  refine calls_of_W #[.tmp 4] 19 Tryd.func49 rfl Tryd.results49 Tryd.ntmps49 rfl ?_
  have M0 := hO.mem
  refine W_seq ?_
  refine W_region ?_
  refine wl_q (r_assign (.int _ _) rfl) rfl rfl ?_
  refine wl_nil ?_
  refine thenN ?_
  refine W_seq ?_
  refine W_seq ?_
  refine W_region ?_
  refine wl_q (r_move (.slice _ _ _) rfl) rfl rfl ?_
  refine wl_q (r_lenS Tryd.underlying29 rfl) rfl rfl ?_
  refine wl_q (r_move (.int _ _) rfl) rfl rfl ?_
  refine wl_nil ?_
  refine thenN ?_
  refine W_block ?_
  refine W_loop (σ := Nat) [0, 1, 7] (fun k => [(8, .int .i64 (k : Int))]) (fun k w' => (k ≤ n ∧ ∀ (j : Nat) (x : Int × Int), j < k → zs[j]? = some x → apB f x = false) ∧ Mem w (blks [(some bn, bc [.int .i64 (m : Int)] 3), em]) [(some bn, bc [.int .i64 ((m + k : Nat) : Int)] 3), em] w') (fun k => n - k) 0 (agC rfl agN) (⟨⟨by omega, fun j c hj => by omega⟩, M0⟩) ?_
  rintro k ρ1 w1 ⟨⟨hk, hno⟩, hM1⟩
  refine W_seq ?_
  refine W_region ?_
  refine wl_q (r_bin (.bool (decide _)) rfl rfl rfl) rfl rfl ?_
  refine wl_nil ?_
  refine thenN ?_
  refine W_seq ?_
  refine W_condD rfl (fun h9 => ?_) (fun h9 => ?_)
  · skip
    obtain ⟨xz, hxz⟩ := getSome (k := k) hlen (by omega)
    refine W_skip ?_
    refine thenN ?_
    refine W_seq ?_
    refine W_block ?_
    refine W_seq ?_
    refine W_region ?_
    refine wl_q (r_move (.int _ _) rfl) rfl rfl ?_
    refine wl_q (r_assign (.int _ _) rfl) rfl rfl ?_
    refine wl_nil ?_
    refine thenN ?_
    refine W_seq ?_
    refine W_region ?_
    refine wl_q (r_move (.func _ _ _) rfl) rfl rfl ?_
    refine wl_q (r_move (.slice _ _ _) rfl) rfl rfl ?_
    refine wl_q (r_move (.int _ _) rfl) rfl rfl ?_
    refine wl_q (r_idxR (k) sl29 rfl rfl rfl ((R.memY hM1 hdA).below_len (mapGet pairCells hxz)) ((R.memY hM1 hdA).someK (mapGet pairCells hxz))) rfl rfl ?_
    refine wl_q (r_ldEA _ agg42 (R.memY hM1 hdA) (mapGet pairCells hxz) rfl) rfl rfl ?_
    refine wl_cal cal47 rfl rfl rfl ?_
    refine (pairs_apart _ xz bn bm (m + k) f pm em hme (B.memY hM1 hdB) (N.memY hM1 hdN) (hM1.ownSeg 0 2) hdB hdN (by omega)).mono ?_
    rintro _ w2 ⟨v2, rfl, ⟨rfl, hM2⟩⟩
    refine ⟨_, rfl, ?_⟩
    have M2 : Mem _ _ [_, _] _ := hM1.seg 0 2 hM2
    refine wl_nil ?_
    refine thenN ?_
    refine W_cond _ rfl (fun h16 => ?_) (fun h16 => ?_)
    · skip
      refine W_seq ?_
      refine W_region ?_
      refine wl_q (r_move (.int _ _) rfl) rfl rfl ?_
      refine wl_q (r_assign (.int _ _) rfl) rfl rfl ?_
      refine wl_nil ?_
      refine thenN ?_
      refine W_ret ?_
      refine blkR ?_
      refine thenR ?_
      refine roundR ?_
      refine blkR ?_
      refine thenR ?_
      skip
      refine fin1 (.int _ _) rfl ?_
      have hfi := findIdx_at hxz h16 hno
      exact ⟨iE (by rw [hfi, if_pos (by omega)]), by rw [hfi, Nat.min_eq_right (by omega)]; exact M2⟩
    · skip
      refine W_skip ?_
      refine blkN ?_
      refine thenN ?_
      refine W_region ?_
      refine wl_q (r_add rfl rfl (by omega) (by omega)) rfl rfl ?_
      refine wl_q (r_move (.int _ _) rfl) rfl rfl ?_
      refine wl_nil ?_
      refine roundN (k + 1) (agC rfl agN) (akC rfl (akC rfl (akC rfl akN))) ?_ ?_
      · exact ⟨⟨by omega, allNext (p := fun _ x => apB f x = false) hno hxz h16⟩, M2⟩
      · omega
  · skip
    refine W_exit ?_
    refine thenX ?_
    refine roundX ?_
    refine blkH ?_
    refine thenN ?_
    refine W_seq ?_
    refine W_region ?_
    refine wl_q (r_assign (.int _ _) rfl) rfl rfl ?_
    refine wl_nil ?_
    refine thenN ?_
    refine W_ret ?_
    skip
    refine fin1 (.int _ _) rfl ?_
    have hkn : k = n := by omega
    have hfi := findIdx_no (p := apB f) (l := zs) (fun j y hy => hno j y (by have := (List.getElem?_eq_some_iff.1 hy).1; omega) hy)
    exact ⟨iE (by rw [hfi, if_neg (by omega)]), by rw [hfi, Nat.min_eq_left (by omega), ← hkn]; exact hM1⟩

set_option maxHeartbeats 16000000 in
theorem slices_DeleteFuncP (w : World) (A : Option Addr) (n c : Nat) (zs : List (Int × Int)) (er : Ent) (hr : RowIs 42 2 A n c ((zs).map pairCells) er) (bn bm m : Nat) (f : Int → Option Bx) (pm : Nat) (em : Ent) (hme : MapE .u32 encBx f (some pm) em) (B : Rd w 1 (some ⟨bm, 0, none⟩) 1 [[.map (some pm)]]) (N : Rd w 4 (some ⟨1, 0, none⟩) 1 [bxCells noneB]) (hO : Own [er, (some bn, bc [.int .i64 (m : Int)] 3), em] w) (hdB : 0 < 1 → ∀ q off, (some ⟨bm, 0, none⟩ : Option Addr) = some ⟨q, off, none⟩ → q ∉ blks [er, (some bn, bc [.int .i64 (m : Int)] 3), em]) (hdN : 0 < 1 → ∀ q off, (some ⟨1, 0, none⟩ : Option Addr) = some ⟨q, off, none⟩ → q ∉ blks [er, (some bn, bc [.int .i64 (m : Int)] 3), em]) (hm : m + n ≤ 1125899906842624) (hn : n ≤ 1099511627776) :
    Calls Tryd.prog 32 #[.slice A n c, .func (.func 47) #[] #[.pointer (some ⟨bn, 0, none⟩), .pointer (some ⟨bm, 0, none⟩)]] w (fun ex w' => ∃ v, ex = .returned v ∧ (fun v w' => ∃ r : Row, v = .slice r.A r.n r.c ∧ RowIs 42 2 r.A r.n r.c ((zs.filter (fun z => !apB f z)).map pairCells) r.e ∧ Mem w (blks [er, (some bn, bc [.int .i64 (m : Int)] 3), em]) [r.e, (some bn, bc [.int .i64 ((m + n : Nat) : Int)] 3), em] w') v w') := by
  have hlen : zs.length = n := by simpa using hr.1
  have hcap := hr.slice
  refine calls_of_W #[.tmp 4] 42 Tryd.func32 rfl Tryd.results32 Tryd.ntmps32 rfl ?_
  have M0 := hO.mem
  refine W_seq ?_
  refine W_region ?_
  refine wl_q (r_assign (.slice _ _ _) rfl) rfl rfl ?_
  refine wl_nil ?_
  refine thenN ?_
  refine W_seq ?_
  refine W_region ?_
  refine wl_q (r_move (.slice _ _ _) rfl) rfl rfl ?_
  refine wl_q (r_move (.func _ _ _) rfl) rfl rfl ?_
  refine wl_cal cal49 rfl rfl rfl ?_
  refine (slices_IndexFuncP _ A n c zs (hr.rd M0 (nthMem (i := 0) rfl)) bn bm m f pm em hme (B.memY M0 hdB) (N.memY M0 hdN) (M0.ownSeg 1 2) (hr.apartTail M0) (M0.away 1 2 B hdB) (M0.away 1 2 N hdN) hm hn).mono ?_
  rintro _ w1 ⟨v1, rfl, ⟨rfl, hM1⟩⟩
  refine ⟨_, rfl, ?_⟩
  have M1 : Mem _ _ [_, _, _] _ := M0.seg 1 2 hM1
  refine wl_q (r_assign (.int _ _) rfl) rfl rfl ?_
  refine wl_nil ?_
  refine thenN ?_
  refine W_seq ?_
  refine W_seq ?_
  refine W_region ?_
  refine wl_q (r_move (.int _ _) rfl) rfl rfl ?_
  refine wl_q (r_bin (.bool (decide _)) rfl rfl rfl) rfl rfl ?_
  refine wl_nil ?_
  refine thenN ?_
  refine W_condD rfl (fun h12 => ?_) (fun h12 => ?_)
  · skip
    have hge : ¬ zs.findIdx (apB f) < n := fun h => by rw [if_pos h] at h12; omega
    refine W_seq ?_
    refine W_region ?_
    refine wl_q (r_move (.slice _ _ _) rfl) rfl rfl ?_
    refine wl_q (r_assign (.slice _ _ _) rfl) rfl rfl ?_
    refine wl_nil ?_
    refine thenN ?_
    refine W_ret ?_
    refine thenR ?_
    skip
    refine fin1 (.slice _ _ _) rfl ?_
    have e1 : m + min n (zs.findIdx (apB f) + 1) = m + n := by omega
    rw [e1] at M1
    exact ⟨⟨A, n, c, er⟩, rfl, by rw [filter_none (by omega)]; exact hr, M1⟩
  · skip
    have hlt : zs.findIdx (apB f) < n := Decidable.by_contra fun h => h12 (if_neg h)
    refine W_skip ?_
    refine thenN ?_
    refine W_seq ?_
    refine W_seq ?_
    refine W_region ?_
    refine wl_q (r_move (.int _ _) rfl) rfl rfl ?_
    refine wl_q (r_add rfl rfl (by omega) (by omega)) rfl rfl ?_
    refine wl_re 15 (.int .i64 ((zs.findIdx (apB f) + 1 : Nat) : Int)) (iE (by rw [if_pos hlt]; omega)) ?_
    refine wl_q (r_assign (.int _ _) rfl) rfl rfl ?_
    refine wl_nil ?_
    refine thenN ?_
    refine W_block ?_
    refine W_loop (σ := Nat × Nat × List (Int × Int) × Ent) [0, 1, 4] (fun (j, k, zs2, en) => [(5, .int .i64 (k : Int)), (6, .int .i64 (j : Int))]) (fun (j, k, zs2, en) w' => (j ≤ n ∧ k < j ∧ zs2.take k = (zs.take j).filter (fun z => !apB f z) ∧ zs2.drop j = zs.drop j ∧ RowIs 42 2 A n c ((zs2).map pairCells) en) ∧ Mem w (blks [er, (some bn, bc [.int .i64 (m : Int)] 3), em]) [en, (some bn, bc [.int .i64 ((m + j : Nat) : Int)] 3), em] w') (fun (j, k, zs2, en) => n - j) (zs.findIdx (apB f) + 1, zs.findIdx (apB f), zs, er) (agC (iv rfl (if_pos hlt)) (agC rfl agN)) (⟨⟨by omega, by omega, filter_first (by omega), rfl, hr⟩, by
      have e1 : min n (zs.findIdx (apB f) + 1) = zs.findIdx (apB f) + 1 := by omega
      rw [e1] at M1
      exact M1⟩) ?_
    rintro ⟨j, k, zs2, en⟩ ρ2 w2 ⟨⟨hj, hkj, hpre, hsuf, hz2⟩, hM2⟩
    have hl2 : zs2.length = n := by simpa using hz2.1
    refine W_seq ?_
    refine W_seq ?_
    refine W_region ?_
    refine wl_q (r_move (.int _ _) rfl) rfl rfl ?_
    refine wl_q (r_move (.slice _ _ _) rfl) rfl rfl ?_
    refine wl_q (r_lenS Tryd.underlying29 rfl) rfl rfl ?_
    refine wl_q (r_bin (.bool (decide _)) rfl rfl rfl) rfl rfl ?_
    refine wl_nil ?_
    refine thenN ?_
    refine W_condD rfl (fun h19 => ?_) (fun h19 => ?_)
    · skip
      obtain ⟨xz, hxz⟩ := getSome (k := j) hlen (by omega)
      have hxz2 : zs2[j]? = some xz := (drop_get hsuf).trans hxz
      obtain ⟨xk, hxk⟩ := getSome (k := k) hl2 (by omega)
      refine W_skip ?_
      refine thenN ?_
      refine W_seq ?_
      refine W_block ?_
      refine W_seq ?_
      refine W_region ?_
      refine wl_q (r_move (.slice _ _ _) rfl) rfl rfl ?_
      refine wl_q (r_move (.int _ _) rfl) rfl rfl ?_
      refine wl_q (r_idxR (j) sl29 rfl rfl rfl ((hz2.rd hM2 (nthMem (i := 0) rfl)).below_len (mapGet pairCells hxz2)) ((hz2.rd hM2 (nthMem (i := 0) rfl)).someK (mapGet pairCells hxz2))) rfl rfl ?_
      refine wl_q (r_ldEA _ agg42 (hz2.rd hM2 (nthMem (i := 0) rfl)) (mapGet pairCells hxz2) rfl) rfl rfl ?_
      refine wl_alloc zero42 hM2 rfl rfl (fun b3 w3 M3 => ?_)
      refine wl_stW 3 _ agg42 M3 rfl rfl rfl rfl rfl (ones_of rfl) rfl (fun w4 M4 => ?_)
      refine wl_nil ?_
      refine thenN ?_
      refine W_seq ?_
      refine W_region ?_
      refine wl_q (r_move (.func _ _ _) rfl) rfl rfl ?_
      refine wl_q (r_ldW 3 agg42 M4 rfl rfl rfl) rfl rfl ?_
      refine wl_cal cal47 rfl rfl rfl ?_
      refine (pairs_apart _ xz bn bm (m + j) f pm em hme (B.memY M4 hdB) (N.memY M4 hdN) (M4.ownSeg 1 2) (M4.away 1 2 B hdB) (M4.away 1 2 N hdN) (by omega)).mono ?_
      rintro _ w5 ⟨v5, rfl, ⟨rfl, hM5⟩⟩
      refine ⟨_, rfl, ?_⟩
      have M5 : Mem _ _ [_, _, _, _] _ := M4.seg 1 2 hM5
      refine wl_q (r_notB _ rfl rfl) rfl rfl ?_
      refine wl_nil ?_
      refine thenN ?_
      refine W_cond _ rfl (fun h29 => ?_) (fun h29 => ?_)
      · skip
        refine W_seq ?_
        refine W_region ?_
        refine wl_q (r_move (.slice _ _ _) rfl) rfl rfl ?_
        refine wl_q (r_move (.int _ _) rfl) rfl rfl ?_
        refine wl_q (r_ldW 3 agg42 M5 rfl rfl rfl) rfl rfl ?_
        refine wl_q (r_idxR (k) sl29 rfl rfl rfl ((hz2.rd M5 (nthMem (i := 0) rfl)).below_len (mapGet pairCells hxk)) ((hz2.rd M5 (nthMem (i := 0) rfl)).someK (mapGet pairCells hxk))) rfl rfl ?_
        refine wl_stRW 0 _ agg42 M5 rfl hz2 (mapGet pairCells hxk) rfl rfl rfl rfl (ones_of rfl) (fun e6 w6 hR6 M6 => ?_)
        have hQ6 := hR6.mapSet (f := pairCells) (x := xz) rfl
        refine wl_nil ?_
        refine thenN ?_
        refine W_region ?_
        refine wl_q (r_move (.int _ _) rfl) rfl rfl ?_
        refine wl_q (r_add rfl rfl (by omega) (by omega)) rfl rfl ?_
        refine wl_q (r_assign (.int _ _) rfl) rfl rfl ?_
        refine wl_nil ?_
        refine blkN ?_
        refine thenN ?_
        refine W_region ?_
        refine wl_q (r_move (.int _ _) rfl) rfl rfl ?_
        refine wl_q (r_add rfl rfl (by omega) (by omega)) rfl rfl ?_
        refine wl_q (r_assign (.int _ _) rfl) rfl rfl ?_
        refine wl_nil ?_
        refine roundN (j + 1, k + 1, zs2.set k xz, e6) (agC rfl (agC rfl agN)) (akC rfl (akC rfl (akC rfl akN))) ?_ ?_
        · exact ⟨⟨by omega, by omega, by rw [set_take (by omega), hpre, filter_step hxz, if_neg (by simpa using h29)], by rw [set_drop (by omega)]; exact drop_next hsuf, hQ6⟩, M6.keep [true, true, true, false]⟩
        · (show n - (j + 1) < n - j; omega)
      · skip
        refine W_skip ?_
        refine blkN ?_
        refine thenN ?_
        refine W_region ?_
        refine wl_q (r_move (.int _ _) rfl) rfl rfl ?_
        refine wl_q (r_add rfl rfl (by omega) (by omega)) rfl rfl ?_
        refine wl_q (r_assign (.int _ _) rfl) rfl rfl ?_
        refine wl_nil ?_
        refine roundN (j + 1, k, zs2, en) (agC rfl (agC rfl agN)) (akC rfl (akC rfl (akC rfl akN))) ?_ ?_
        · exact ⟨⟨by omega, by omega, by rw [hpre, filter_step hxz, if_pos (by simpa using h29), List.append_nil], drop_next hsuf, hz2⟩, M5.keep [true, true, true, false]⟩
        · (show n - (j + 1) < n - j; omega)
    · skip
      have hjn : j = n := by omega
      rw [hjn, show List.take n zs = zs from List.take_of_length_le (by omega)] at hpre
      refine W_exit ?_
      refine thenX ?_
      refine roundX ?_
      refine blkH ?_
      refine thenN ?_
      refine W_seq ?_
      refine W_region ?_
      refine wl_q (r_move (.slice _ _ _) rfl) rfl rfl ?_
      refine wl_q (r_move (.int _ _) rfl) rfl rfl ?_
      refine wl_q (r_slice ((k : Int)) ((n : Int)) sl29 rfl ⟨_, rfl⟩ rfl (by omega) (by omega) (by omega)) rfl rfl ?_
      refine wl_clear 0 (k) sl29 (fun zv hz => by rw [zv42] at hz; injection hz with hz; subst hz; simp [Go.Bil.one, Value.cells]) hM2 rfl rfl hz2 (by omega) rfl (fun e7 w7 hR7 M7 => ?_)
      refine wl_nil ?_
      refine thenN ?_
      refine W_seq ?_
      refine W_region ?_
      refine wl_q (r_move (.slice _ _ _) rfl) rfl rfl ?_
      refine wl_q (r_move (.int _ _) rfl) rfl rfl ?_
      refine wl_q (r_slice (0) ((k : Int)) sl29 rfl rfl ⟨_, rfl⟩ (by decide) (by omega) (by omega)) rfl rfl ?_
      refine wl_q (r_assign (.slice _ _ _) rfl) rfl rfl ?_
      refine wl_nil ?_
      refine thenN ?_
      refine W_ret ?_
      skip
      refine fin1 (.slice _ _ _) rfl ?_
      rw [hjn] at M7
      have hpf := hR7
      rw [← List.map_take, hpre] at hpf
      exact ⟨⟨_, _, _, e7⟩, rfl, hpf, M7⟩

end Go.Proofs.YtfgbmegchdjfeaaDoor
