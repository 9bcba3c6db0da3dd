/- Part of the proof of the laws of this seat: I25, K25. No conditions. -/
import Derived.Test.YtmcddmhkjcgneaaGreatDoorK5
import Derived.Test.YtmcddmhkjcgneaaGreatDoorK25
import Derived.Test.YtmcddmhkjcgneaaGreatDoorK16
import Derived.Test.YtmcddmhkjcgneaaGreatDoorK27
/- Walks of Go functions over the frame of this claim: what each computes, for every input of the stated types (I25). -/
set_option linter.unusedVariables false
set_option linter.unusedSimpArgs false
set_option linter.unnecessarySimpa false
namespace Go.Proofs.YtmcddmhkjcgneaaGreatDoor
open Go.Bil
open Go.RowKit (Below)
open Go.Proofs

set_option maxHeartbeats 4000000 in
theorem isl_root (w : World) (f : KMap) (pm : Nat) (em : Ent) (hme : MapE .u32 (Value.int .u32) f (some pm) em) (hF : Forest f) (key p : Int) (hp : f key = some p) (hO : Own [em] w) :
    Calls Tryz.prog 52 #[.map (some pm), .int .u32 key] w (fun ex w' => ∃ v, ex = .returned v ∧ (fun v w' => v = .int .u32 (rt f key) ∧ Mem w (blks [em]) [em] w') v w') := by
  refine calls_of_W #[.tmp 4] 14 Tryz.func52 rfl Tryz.results52 Tryz.ntmps52 rfl ?_
  have M0 := hO.mem
  refine W_seq ?_
  refine W_region ?_
  refine wl_q (r_assign (.int _ _) rfl) rfl rfl ?_
  refine wl_nil ?_
  refine thenN ?_
  refine W_scope 0 (fun ρ' w' => ∃ (kk pk : Int), AgreeL ρ' [(0, .map (some pm)), (1, .int .u32 kk)] ∧ (f kk = some pk ∧ rt f kk = rt f key) ∧ Mem w (blks [em]) [em] w') (tmpN 1) rfl ?_ ?_
  · skip
    refine W_seq ?_
    refine W_label ?_
    refine thenN ?_
    refine W_seq ?_
    refine W_seq ?_
    refine W_region ?_
    refine wl_q (r_move (.map _) rfl) rfl rfl ?_
    refine wl_q (r_move (.int _ _) rfl) rfl rfl ?_
    refine wl_q (r_lookup1 (enc := (Value.int .u32)) 0 0 map89 zv30 M0 rfl hme rfl rfl) rfl rfl ?_
    refine wl_re 8 (.int .u32 p) (congrArg (Value.int .u32) (by rw [hp]; rfl)) ?_
    refine wl_q (r_assign (.int _ _) rfl) rfl rfl ?_
    refine wl_nil ?_
    refine thenN ?_
    refine W_seq ?_
    refine W_region ?_
    refine wl_q (r_move (.int _ _) rfl) rfl rfl ?_
    refine wl_q (r_move (.int _ _) rfl) rfl rfl ?_
    refine wl_q (r_bin (.bool (decide _)) rfl rfl rfl) rfl rfl ?_
    refine wl_nil ?_
    refine thenN ?_
    refine W_condD rfl (fun h11 => ?_) (fun h11 => ?_)
    · skip
      refine W_seq ?_
      refine W_region ?_
      refine wl_q (r_move (.int _ _) rfl) rfl rfl ?_
      refine wl_q (r_assign (.int _ _) rfl) rfl rfl ?_
      refine wl_nil ?_
      refine thenN ?_
      refine W_goto ?_
      refine thenG ?_
      obtain ⟨q, hq⟩ := hF.dom _ _ hp
      have hle := hF.le _ _ hp
      have hnn := hF.pn hp
      have hst := rt_step hF hp
      refine jumpG ?_
      exact ⟨p, q, (agC rfl (agC rfl agN)), ⟨hq, hst.symm⟩, M0⟩
    · skip
      refine W_skip ?_
      refine thenN ?_
      refine W_seq ?_
      refine W_region ?_
      refine wl_q (r_move (.int _ _) rfl) rfl rfl ?_
      refine wl_q (r_assign (.int _ _) rfl) rfl rfl ?_
      refine wl_nil ?_
      refine thenN ?_
      refine W_ret ?_
      refine jumpR ?_
      skip
      refine fin1 (.int _ _) rfl ?_
      exact ⟨iE (by rw [show rt f key = rt f key from rfl]; exact (rt_self (by rw [hp]; exact congrArg some (Decidable.not_not.1 h11))).symm), M0⟩
  · skip
    rintro ρ1 w1 ⟨kk, pk, hfr1, ⟨hpk, hrk⟩, hM1⟩
    refine W_fresh hfr1 (fun ρ2 => ?_)
    refine W_seq ?_
    refine W_skip ?_
    refine thenN ?_
    refine W_seq ?_
    refine W_seq ?_
    refine W_region ?_
    refine wl_q (r_move (.map _) rfl) rfl rfl ?_
    refine wl_q (r_move (.int _ _) rfl) rfl rfl ?_
    refine wl_q (r_lookup1 (enc := (Value.int .u32)) 0 0 map89 zv30 hM1 rfl hme rfl rfl) rfl rfl ?_
    refine wl_re 8 (.int .u32 pk) (congrArg (Value.int .u32) (by rw [hpk]; rfl)) ?_
    refine wl_q (r_assign (.int _ _) rfl) rfl rfl ?_
    refine wl_nil ?_
    refine thenN ?_
    refine W_seq ?_
    refine W_region ?_
    refine wl_q (r_move (.int _ _) rfl) rfl rfl ?_
    refine wl_q (r_move (.int _ _) rfl) rfl rfl ?_
    refine wl_q (r_bin (.bool (decide _)) rfl rfl rfl) rfl rfl ?_
    refine wl_nil ?_
    refine thenN ?_
    refine W_condD rfl (fun h11 => ?_) (fun h11 => ?_)
    · skip
      refine W_seq ?_
      refine W_region ?_
      refine wl_q (r_move (.int _ _) rfl) rfl rfl ?_
      refine wl_q (r_assign (.int _ _) rfl) rfl rfl ?_
      refine wl_nil ?_
      refine thenN ?_
      refine W_goto ?_
      refine thenG ?_
      obtain ⟨q, hq⟩ := hF.dom _ _ hpk
      have hle := hF.le _ _ hpk
      have hnn := hF.pn hpk
      have hst := rt_step hF hpk
      refine jumpG ?_
      exact ⟨⟨pk, q, (agC rfl (agC rfl agN)), ⟨hq, hst.symm.trans hrk⟩, hM1⟩, (by rw [tmpN_eq (t := 1) (z := pk) rfl, tmpN_eq hfr1.2.1]; omega)⟩
    · skip
      refine W_skip ?_
      refine thenN ?_
      refine W_seq ?_
      refine W_region ?_
      refine wl_q (r_move (.int _ _) rfl) rfl rfl ?_
      refine wl_q (r_assign (.int _ _) rfl) rfl rfl ?_
      refine wl_nil ?_
      refine thenN ?_
      refine W_ret ?_
      refine jumpR ?_
      skip
      refine fin1 (.int _ _) rfl ?_
      exact ⟨iE (by rw [← hrk]; exact (rt_self (by rw [hpk]; exact congrArg some (Decidable.not_not.1 h11))).symm), hM1⟩

set_option maxHeartbeats 4000000 in
theorem isl_join (w : World) (f : KMap) (pm : Nat) (em : Ent) (hme : MapE .u32 (Value.int .u32) f (some pm) em) (hF : Forest f) (a b pa pb : Int) (ha : f a = some pa) (hb : f b = some pb) (hO : Own [em] w) :
    Calls Tryz.prog 51 #[.map (some pm), .int .u32 a, .int .u32 b] w (fun ex w' => ∃ v, ex = .returned v ∧ (fun v w' => v = .tuple #[] ∧ ∃ em', MapE .u32 (Value.int .u32) (joinK f a b) (some pm) em' ∧ Mem w (blks [em]) [em'] w') v w') := by
  refine calls_of_W #[] 21 Tryz.func51 rfl Tryz.results51 Tryz.ntmps51 rfl ?_
  have M0 := hO.mem
  refine W_seq ?_
  refine W_region ?_
  refine wl_q (r_move (.map _) rfl) rfl rfl ?_
  refine wl_q (r_move (.int _ _) rfl) rfl rfl ?_
  refine wl_cal cal52 rfl rfl rfl ?_
  refine (isl_root _ f pm em hme hF a pa ha (M0.ownSeg 0 1)).mono ?_
  rintro _ w1 ⟨v1, rfl, ⟨rfl, hM1⟩⟩
  refine ⟨_, rfl, ?_⟩
  have M1 : Mem _ _ [_] _ := M0.seg 0 1 hM1
  refine wl_q (r_move (.map _) rfl) rfl rfl ?_
  refine wl_q (r_move (.int _ _) rfl) rfl rfl ?_
  refine wl_cal cal52 rfl rfl rfl ?_
  refine (isl_root _ f pm em hme hF b pb hb (M1.ownSeg 0 1)).mono ?_
  rintro _ w2 ⟨v2, rfl, ⟨rfl, hM2⟩⟩
  refine ⟨_, rfl, ?_⟩
  have M2 : Mem _ _ [_] _ := M1.seg 0 1 hM2
  refine wl_q (r_assign (.int _ _) rfl) rfl rfl ?_
  refine wl_q (r_assign (.int _ _) rfl) rfl rfl ?_
  refine wl_nil ?_
  refine thenN ?_
  refine W_region ?_
  refine wl_q (r_move (.map _) rfl) rfl rfl ?_
  refine wl_q (r_move (.int _ _) rfl) rfl rfl ?_
  refine wl_q (r_move (.int _ _) rfl) rfl rfl ?_
  refine wl_q (r_max2 rfl rfl ) rfl rfl ?_
  refine wl_q (r_move (.int _ _) rfl) rfl rfl ?_
  refine wl_q (r_move (.int _ _) rfl) rfl rfl ?_
  refine wl_q (r_min2 rfl rfl ) rfl rfl ?_
  refine wl_mapUpdate (enc := (Value.int .u32)) 0 map89 M2 rfl rfl hme rfl rfl rfl rfl (fun e3 w3 hm3 M3 => ?_)
  refine wl_nil ?_
  refine fin0n ?_
  exact ⟨rfl, _, hm3, M3⟩

set_option maxHeartbeats 4000000 in
theorem law25_ball (w : World) (key m : Int) :
    Calls Tryz.prog 47 #[.int .u32 key, .int .i32 m] w (fun ex w' => ∃ v, ex = .returned v ∧ (fun v w' => v = (.agg (bodyCells (⟨key, 65536, 0, 0, m, 0, 0, 0, 0, 0⟩ : Body)).toArray) ∧ Below w.heap.size w w') v w') := by
  refine calls_of_W #[.cell 4 32] 8 Tryz.func47 rfl Tryz.results47 Tryz.ntmps47 rfl ?_
  have M0 := Mem.refl w
  refine W_seq ?_
  refine W_region ?_
  refine wl_alloc zero32 M0 rfl rfl (fun b1 w1 M1 => ?_)
  refine wl_nil ?_
  refine thenN ?_
  refine W_seq ?_
  refine W_region ?_
  refine wl_q (r_move (.int _ _) rfl) rfl rfl ?_
  refine wl_q (r_move (.int _ _) rfl) rfl rfl ?_
  refine wl_q (r_build [(0, .int _ _), (1, .int _ _), (3, .int _ _)] _ struct32 rfl rfl) rfl rfl ?_
  refine wl_stW 0 _ agg32 M1 rfl rfl rfl rfl rfl (ones_of rfl) rfl (fun w2 M2 => ?_)
  refine wl_nil ?_
  refine thenN ?_
  refine W_ret ?_
  skip
  refine finC1 0 agg32 M2 rfl rfl rfl ?_
  exact ⟨rfl, M2.below⟩

set_option maxHeartbeats 4000000 in
theorem ref25_Right (w : World) (A : Option Addr) (n c : Nat) (xs : List Body) (R : Rd w 10 A n (xs.map bodyCells)) (B : Option Addr) (m c' : Nat) (cs : List Con) (R' : Rd w 5 B m (cs.map conCells)) :
    Calls Tryz.prog 24 #[.slice A n c, .slice B m c'] w (fun ex w' => ∃ v, ex = .returned v ∧ (fun v w' => v = .bool (decide (RightC xs cs)) ∧ Below w.heap.size w w') v w') := by
  have hlen : xs.length = n := by simpa using R.len
  have hbd := R.bound
  have hlen' : cs.length = m := by simpa using R'.len
  have hbd' := R'.bound
  refine calls_of_W #[.tmp 4] 43 Tryz.func24 rfl Tryz.results24 Tryz.ntmps24 rfl ?_
  have M0 := Mem.refl w
  refine W_seq ?_
  refine W_region ?_
  refine wl_q (r_assign (.bool false) rfl) rfl rfl ?_
  refine wl_nil ?_
  refine thenN ?_
  refine W_seq ?_
  refine W_seq ?_
  refine W_region ?_
  refine wl_q (r_move (.slice _ _ _) rfl) rfl rfl ?_
  refine wl_q (r_lenS Tryz.underlying45 rfl) rfl rfl ?_
  refine wl_q (r_bin (.bool (decide _)) rfl rfl rfl) rfl rfl ?_
  refine wl_nil ?_
  refine thenN ?_
  refine W_condD rfl (fun h9 => ?_) (fun h9 => ?_)
  · skip
    refine W_seq ?_
    refine W_region ?_
    refine wl_q (r_assign (.bool false) rfl) rfl rfl ?_
    refine wl_nil ?_
    refine thenN ?_
    refine W_ret ?_
    refine thenR ?_
    skip
    refine fin1 (.bool false) rfl ?_
    exact ⟨bF (fun h => by have := h.1; omega), M0.below⟩
  · skip
    refine W_skip ?_
    refine thenN ?_
    refine W_seq ?_
    refine W_seq ?_
    refine W_region ?_
    refine wl_q (r_assign (.int _ _) rfl) rfl rfl ?_
    refine wl_nil ?_
    refine thenN ?_
    refine W_block ?_
    refine W_loop (σ := Nat) [0, 1] (fun k => [(5, .int .i64 (k : Int))]) (fun k w' => (k ≤ m ∧ ∀ (j : Nat) (x : Con), j < k → cs[j]? = some x → RightOne xs x) ∧ Mem w [] [] w') (fun k => m - k) 0 (agC rfl agN) (⟨⟨by omega, fun j x hj => by omega⟩, M0⟩) ?_
    rintro k ρ1 w1 ⟨⟨hk, hal⟩, hM1⟩
    refine W_seq ?_
    refine W_seq ?_
    refine W_region ?_
    refine wl_q (r_move (.int _ _) rfl) rfl rfl ?_
    refine wl_q (r_move (.slice _ _ _) rfl) rfl rfl ?_
    refine wl_q (r_lenS Tryz.underlying45 rfl) rfl rfl ?_
    refine wl_q (r_bin (.bool (decide _)) rfl rfl rfl) rfl rfl ?_
    refine wl_nil ?_
    refine thenN ?_
    refine W_condD rfl (fun h13 => ?_) (fun h13 => ?_)
    · skip
      obtain ⟨xc, hxc⟩ := getSome (xs := cs) (k := k) hlen' (by omega)
      refine W_skip ?_
      refine thenN ?_
      refine W_seq ?_
      refine W_block ?_
      refine W_seq ?_
      refine W_region ?_
      refine wl_q (r_move (.slice _ _ _) rfl) rfl rfl ?_
      refine wl_q (r_move (.int _ _) rfl) rfl rfl ?_
      refine wl_q (r_idxR (k) sl45 rfl rfl rfl ((R'.mem hM1).below_len (mapGet conCells hxc)) ((R'.mem hM1).someK (mapGet conCells hxc))) rfl rfl ?_
      refine wl_q (r_ldEA _ agg63 (R'.mem hM1) (mapGet conCells hxc) rfl) rfl rfl ?_
      refine wl_alloc zero63 hM1 rfl rfl (fun b2 w2 M2 => ?_)
      refine wl_stW 0 _ agg63 M2 rfl rfl rfl rfl rfl (ones_of rfl) rfl (fun w3 M3 => ?_)
      refine wl_nil ?_
      refine thenN ?_
      refine W_seq ?_
      refine W_region ?_
      refine wl_q (r_fieldAddr 0 fld63_0 rfl) rfl rfl ?_
      refine wl_q (r_fieldAddr 0 fld61_0 rfl) rfl rfl ?_
      refine wl_q (r_ld 0 (.int _ _) one30 M3 rfl rfl rfl) rfl rfl ?_
      refine wl_q (r_fieldAddr 0 fld63_0 rfl) rfl rfl ?_
      refine wl_q (r_fieldAddr 1 fld61_1 rfl) rfl rfl ?_
      refine wl_q (r_ld 0 (.int _ _) one30 M3 rfl rfl rfl) rfl rfl ?_
      refine wl_q (r_bin (.bool (decide _)) rfl rfl rfl) rfl rfl ?_
      refine wl_q (r_move (.bool (decide _)) rfl) rfl rfl ?_
      refine wl_splitD 27 rfl (fun g27 => ?_) (fun g27 => ?_)
      · skip
        refine wl_skip rfl rfl ?_
        refine wl_skip rfl rfl ?_
        refine wl_skip rfl rfl ?_
        refine wl_skip rfl rfl ?_
        refine wl_skip rfl rfl ?_
        refine wl_skip rfl rfl ?_
        refine wl_q (r_pick true (.bool true) rfl rfl) rfl rfl ?_
        refine wl_q (r_move (.bool true) rfl) rfl rfl ?_
        refine wl_skip rfl rfl ?_
        refine wl_skip rfl rfl ?_
        refine wl_skip rfl rfl ?_
        refine wl_skip rfl rfl ?_
        refine wl_skip rfl rfl ?_
        refine wl_skip rfl rfl ?_
        refine wl_q (r_pick true (.bool true) rfl rfl) rfl rfl ?_
        refine wl_nil ?_
        refine thenN ?_
        refine W_condT rfl ?_
        refine W_seq ?_
        refine W_region ?_
        refine wl_q (r_assign (.bool false) rfl) rfl rfl ?_
        refine wl_nil ?_
        refine thenN ?_
        refine W_ret ?_
        refine blkR ?_
        refine thenR ?_
        refine roundR ?_
        refine blkR ?_
        refine thenR ?_
        skip
        refine fin1 (.bool false) rfl ?_
        exact ⟨bF (fun h => by have h2 := h.2 xc (List.mem_of_getElem? hxc); have a := h2.ne; have b := h2.l; have d := h2.h; omega), M3.below⟩
      · skip
        refine wl_q (r_move (.slice _ _ _) rfl) rfl rfl ?_
        refine wl_q (r_fieldAddr 0 fld63_0 rfl) rfl rfl ?_
        refine wl_q (r_fieldAddr 0 fld61_0 rfl) rfl rfl ?_
        refine wl_q (r_ld 0 (.int _ _) one30 M3 rfl rfl rfl) rfl rfl ?_
        refine wl_cal cal48 rfl rfl rfl ?_
        refine (ref06_Find _ xc.low _ _ _ xs (R.mem M3)).mono ?_
        rintro _ w4 ⟨v4, rfl, ⟨rfl, hb4⟩⟩
        refine ⟨_, rfl, ?_⟩
        have M4 := M3.callB hb4
        refine wl_q (r_bin (.bool (decide _)) rfl rfl rfl) rfl rfl ?_
        refine wl_q (r_pick false (.bool (decide _)) rfl rfl) rfl rfl ?_
        refine wl_q (r_move (.bool (decide _)) rfl) rfl rfl ?_
        refine wl_splitD 35 rfl (fun g35 => ?_) (fun g35 => ?_)
        · skip
          refine wl_skip rfl rfl ?_
          refine wl_skip rfl rfl ?_
          refine wl_skip rfl rfl ?_
          refine wl_skip rfl rfl ?_
          refine wl_skip rfl rfl ?_
          refine wl_skip rfl rfl ?_
          refine wl_q (r_pick true (.bool true) rfl rfl) rfl rfl ?_
          refine wl_nil ?_
          refine thenN ?_
          refine W_condT rfl ?_
          refine W_seq ?_
          refine W_region ?_
          refine wl_q (r_assign (.bool false) rfl) rfl rfl ?_
          refine wl_nil ?_
          refine thenN ?_
          refine W_ret ?_
          refine blkR ?_
          refine thenR ?_
          refine roundR ?_
          refine blkR ?_
          refine thenR ?_
          skip
          refine fin1 (.bool false) rfl ?_
          exact ⟨bF (fun h => by have h2 := h.2 xc (List.mem_of_getElem? hxc); have a := h2.ne; have b := h2.l; have d := h2.h; omega), M4.below⟩
        · skip
          refine wl_q (r_move (.slice _ _ _) rfl) rfl rfl ?_
          refine wl_q (r_fieldAddr 0 fld63_0 rfl) rfl rfl ?_
          refine wl_q (r_fieldAddr 1 fld61_1 rfl) rfl rfl ?_
          refine wl_q (r_ld 0 (.int _ _) one30 M4 rfl rfl rfl) rfl rfl ?_
          refine wl_cal cal48 rfl rfl rfl ?_
          refine (ref06_Find _ xc.high _ _ _ xs (R.mem M4)).mono ?_
          rintro _ w5 ⟨v5, rfl, ⟨rfl, hb5⟩⟩
          refine ⟨_, rfl, ?_⟩
          have M5 := M4.callB hb5
          refine wl_q (r_bin (.bool (decide _)) rfl rfl rfl) rfl rfl ?_
          refine wl_q (r_pick false (.bool (decide _)) rfl rfl) rfl rfl ?_
          refine wl_nil ?_
          refine thenN ?_
          refine W_condD rfl (fun h42 => ?_) (fun h42 => ?_)
          · skip
            refine W_seq ?_
            refine W_region ?_
            refine wl_q (r_assign (.bool false) rfl) rfl rfl ?_
            refine wl_nil ?_
            refine thenN ?_
            refine W_ret ?_
            refine blkR ?_
            refine thenR ?_
            refine roundR ?_
            refine blkR ?_
            refine thenR ?_
            skip
            refine fin1 (.bool false) rfl ?_
            exact ⟨bF (fun h => by have h2 := h.2 xc (List.mem_of_getElem? hxc); have a := h2.ne; have b := h2.l; have d := h2.h; omega), M5.below⟩
          · skip
            refine W_skip ?_
            refine blkN ?_
            refine thenN ?_
            refine W_region ?_
            refine wl_q (r_move (.int _ _) rfl) rfl rfl ?_
            refine wl_q (r_add rfl rfl (by omega) (by omega)) rfl rfl ?_
            refine wl_q (r_assign (.int _ _) rfl) rfl rfl ?_
            refine wl_nil ?_
            refine roundN (k + 1) (agC rfl agN) (akC rfl (akC rfl akN)) ?_ ?_
            · exact ⟨⟨by omega, allNext (p := fun _ x => RightOne xs x) hal hxc ⟨g27, by omega, by omega⟩⟩, M5.keep [false]⟩
            · omega
    · skip
      have hkm : k = m := by omega
      refine W_exit ?_
      refine thenX ?_
      refine roundX ?_
      refine blkH ?_
      refine thenN ?_
      refine W_seq ?_
      refine W_region ?_
      refine wl_q (r_assign (.bool true) rfl) rfl rfl ?_
      refine wl_nil ?_
      refine thenN ?_
      refine W_ret ?_
      skip
      refine fin1 (.bool true) rfl ?_
      exact ⟨bT ⟨by omega, fun x hx => by obtain ⟨j, hj⟩ := List.getElem?_of_mem hx; exact hal j x (by have := (List.getElem?_eq_some_iff.1 hj).1; omega) hj⟩, hM1.below⟩

end Go.Proofs.YtmcddmhkjcgneaaGreatDoor

/- Walks of Go functions over the frame of this claim: what each computes, for every input of the stated types (K25). -/
set_option linter.unusedVariables false
set_option linter.unusedSimpArgs false
set_option linter.unnecessarySimpa false
namespace Go.Proofs.YtmcddmhkjcgneaaGreatDoor
open Go.Bil
open Go.RowKit (Below)
open Go.Proofs

set_option maxHeartbeats 16000000 in
theorem ref25_Links (w : World) (A : Option Addr) (n c : Nat) (xs : List Body) (R : Rd w 10 A n (xs.map bodyCells)) (B : Option Addr) (mc c' : Nat) (cs : List Con) (R' : Rd w 5 B mc (cs.map conCells)) (hb : ∀ b ∈ xs, Okb b) (hs : Sorted xs) (hn : n ≤ 40) (hkx : ∀ b ∈ xs, 0 ≤ b.key) (hright : ∀ x ∈ cs, RightOne xs x) :
    Calls Tryz.prog 30 #[.slice A n c, .slice B mc c'] w (fun ex w' => ∃ v, ex = .returned v ∧ (fun v w' => ∃ (b : Nat) (m : List Bool) (en : Ent), v = .slice (some ⟨b, 0, none⟩) (n * n) (n * n) ∧ RowIs 4 1 (some ⟨b, 0, none⟩) (n * n) (n * n) ((m).map boolCell) en ∧ Cl xs (forestOf xs cs) cs m n ∧ Mem w [] [en] w') v w') := by
  have hlen : xs.length = n := by simpa using R.len
  have hbd := R.bound
  have hlen' : cs.length = mc := by simpa using R'.len
  have hbd' := R'.bound
  have hnn : n * n ≤ 40 * 40 := Nat.mul_le_mul hn hn
  refine calls_of_W #[.tmp 4] 129 Tryz.func30 rfl Tryz.results30 Tryz.ntmps30 rfl ?_
  have M0 := Mem.refl w
  refine W_seq ?_
  refine W_region ?_
  refine wl_q (r_assign (.slice _ _ _) rfl) rfl rfl ?_
  refine wl_nil ?_
  refine thenN ?_
  refine W_seq ?_
  refine W_region ?_
  refine wl_q (r_move (.slice _ _ _) rfl) rfl rfl ?_
  refine wl_q (r_lenS Tryz.underlying22 rfl) rfl rfl ?_
  refine wl_q (r_assign (.int _ _) rfl) rfl rfl ?_
  refine wl_nil ?_
  refine thenN ?_
  refine W_seq ?_
  refine W_region ?_
  refine wl_q (r_move (.int _ _) rfl) rfl rfl ?_
  refine wl_q (r_move (.int _ _) rfl) rfl rfl ?_
  refine wl_q (r_mul rfl rfl (by rw [← Int.natCast_mul]; omega) (by rw [← Int.natCast_mul]; omega)) rfl rfl ?_
  refine wl_re 18 (.int .i64 ((n * n : Nat) : Int)) (iE (by rw [Int.natCast_mul])) ?_
  refine wl_makeSlice (n * n) [.bool false] sl58 zero4 rfl M0 rfl rfl rfl rfl rfl rfl (by omega) (by omega) (fun b1 w1 M1 => ?_)
  have hL0 := rowLit (T := 4) (sz := 1) (b := b1) (nn := n * n) (List.replicate (n * n) [.bool false]) (fun l hl => by rw [List.eq_of_mem_replicate hl]; rfl) (by simp) (by omega)
  rw [rep_bool] at hL0
  rw [rep_bool] at M1
  refine wl_q (r_assign (.slice _ _ _) rfl) rfl rfl ?_
  refine wl_nil ?_
  refine thenN ?_
  refine W_seq ?_
  refine W_seq ?_
  refine W_region ?_
  refine wl_q (r_assign (.int _ _) rfl) rfl rfl ?_
  refine wl_nil ?_
  refine thenN ?_
  refine W_block ?_
  refine W_loop (σ := Nat × List Bool × Ent) [0, 1, 4, 5, 6] (fun (i, m, en) => [(7, .int .i64 (i : Int))]) (fun (i, m, en) w' => (i ≤ n ∧ Dg0 xs m i ∧ RowIs 4 1 (some ⟨b1, 0, none⟩) (n * n) (n * n) ((m).map boolCell) en) ∧ Mem w [] [en] w') (fun (i, m, en) => n - i) (0, List.replicate (n * n) false, (some b1, bc ((List.replicate (n * n) false).map boolCell).flatten 4)) (agC rfl agN) (⟨⟨by omega, by rw [← hlen]; exact dg0_init xs, hL0⟩, M1⟩) ?_
  rintro ⟨i, m, en⟩ ρ2 w2 ⟨⟨hi, hdg, hrow⟩, hM2⟩
  refine W_seq ?_
  refine W_seq ?_
  refine W_region ?_
  refine wl_q (r_move (.int _ _) rfl) rfl rfl ?_
  refine wl_q (r_move (.int _ _) rfl) rfl rfl ?_
  refine wl_q (r_bin (.bool (decide _)) rfl rfl rfl) rfl rfl ?_
  refine wl_nil ?_
  refine thenN ?_
  refine W_condD rfl (fun h22 => ?_) (fun h22 => ?_)
  · skip
    obtain ⟨xb, hxb⟩ := getSome (k := i) hlen (by omega)
    have hix := midx_lt (n := n) (a := i) (b := i) (by omega) (by omega)
    refine W_skip ?_
    refine thenN ?_
    refine W_seq ?_
    refine W_block ?_
    refine W_region ?_
    refine wl_q (r_move (.slice _ _ _) rfl) rfl rfl ?_
    refine wl_q (r_move (.int _ _) rfl) rfl rfl ?_
    refine wl_q (r_move (.int _ _) rfl) rfl rfl ?_
    refine wl_q (r_mul rfl rfl (by rw [← Int.natCast_mul]; omega) (by rw [← Int.natCast_mul]; omega)) rfl rfl ?_
    refine wl_re 28 (.int .i64 ((i * n : Nat) : Int)) (iE (by rw [Int.natCast_mul])) ?_
    refine wl_q (r_move (.int _ _) rfl) rfl rfl ?_
    refine wl_q (r_add rfl rfl (by omega) (by omega)) rfl rfl ?_
    refine wl_re 30 (.int .i64 ((i * n + i : Nat) : Int)) (iE (by omega)) ?_
    refine wl_q (r_move (.slice _ _ _) rfl) rfl rfl ?_
    refine wl_q (r_move (.int _ _) rfl) rfl rfl ?_
    refine wl_q (r_idxR (i) sl22 rfl rfl rfl ((R.mem hM2).below_len (mapGet bodyCells hxb)) ((R.mem hM2).someK (mapGet bodyCells hxb))) rfl rfl ?_
    refine wl_q (r_fieldAddrE 4 fld32_3 (R.mem hM2) (Nat.lt_of_le_of_lt (Nat.zero_le _) ((R.mem hM2).below_len (mapGet bodyCells hxb))) rfl) rfl rfl ?_
    refine wl_q (r_ldE (o := 4) (.int _ _) one21 (R.mem hM2) (mapGet bodyCells hxb) rfl rfl) rfl rfl ?_
    refine wl_q (r_bin (.bool (decide _)) rfl rfl rfl) rfl rfl ?_
    refine wl_q (r_idxR ((i * n + i)) sl58 rfl rfl rfl ((hrow.rd hM2 (nthMem (i := 0) rfl)).below_len (mapGet boolCell (mget_at (n := n) (a := i) (b := i) (by rw [hdg.len, hlen]) (by omega) (by omega)))) ((hrow.rd hM2 (nthMem (i := 0) rfl)).someK (mapGet boolCell (mget_at (n := n) (a := i) (b := i) (by rw [hdg.len, hlen]) (by omega) (by omega))))) rfl rfl ?_
    refine wl_stR0 0 (.bool (decide _)) one4 hM2 rfl hrow (mapGet boolCell (mget_at (n := n) (a := i) (b := i) (by rw [hdg.len, hlen]) (by omega) (by omega))) rfl rfl rfl rfl (fun e3 w3 hR3 M3 => ?_)
    have hQ3 := hR3.mapSet (f := boolCell) (x := (decide (xb.mass > 0))) rfl
    refine wl_nil ?_
    refine blkN ?_
    refine thenN ?_
    refine W_region ?_
    refine wl_q (r_move (.int _ _) rfl) rfl rfl ?_
    refine wl_q (r_add rfl rfl (by omega) (by omega)) rfl rfl ?_
    refine wl_q (r_assign (.int _ _) rfl) rfl rfl ?_
    refine wl_nil ?_
    refine roundN (i + 1, m.set (i * n + i) (decide (xb.mass > 0)), e3) (agC rfl agN) (akC rfl (akC rfl (akC rfl (akC rfl (akC rfl akN))))) ?_ ?_
    · exact ⟨⟨by omega, by rw [← hlen]; exact dg0_step hxb (hb xb (List.mem_of_getElem? hxb)).m.1 hdg, hQ3⟩, M3⟩
    · (show n - (i + 1) < n - i; omega)
  · skip
    obtain rfl : n = i := by omega
    have hlk0 := lk_init (forestOf xs cs) cs (by rw [hlen]; exact hdg)
    refine W_exit ?_
    refine thenX ?_
    refine roundX ?_
    refine blkH ?_
    refine thenN ?_
    refine W_seq ?_
    refine W_seq ?_
    refine W_region ?_
    refine wl_q (r_assign (.int _ _) rfl) rfl rfl ?_
    refine wl_nil ?_
    refine thenN ?_
    refine W_block ?_
    refine W_loop (σ := Nat × List Bool × Ent) [0, 1, 4, 5, 6] (fun (j, m, en) => [(8, .int .i64 (j : Int))]) (fun (j, m, en) w' => (j ≤ mc ∧ Lk xs (forestOf xs cs) cs m j ∧ RowIs 4 1 (some ⟨b1, 0, none⟩) (n * n) (n * n) ((m).map boolCell) en) ∧ Mem w [] [en] w') (fun (j, m, en) => mc - j) (0, m, en) (agC rfl agN) (⟨⟨by omega, hlk0, hrow⟩, hM2⟩) ?_
    rintro ⟨j, m, en⟩ ρ4 w4 ⟨⟨hj, hlk, hrow2⟩, hM4⟩
    refine W_seq ?_
    refine W_seq ?_
    refine W_region ?_
    refine wl_q (r_move (.int _ _) rfl) rfl rfl ?_
    refine wl_q (r_move (.slice _ _ _) rfl) rfl rfl ?_
    refine wl_q (r_lenS Tryz.underlying45 rfl) rfl rfl ?_
    refine wl_q (r_bin (.bool (decide _)) rfl rfl rfl) rfl rfl ?_
    refine wl_nil ?_
    refine thenN ?_
    refine W_condD rfl (fun h41 => ?_) (fun h41 => ?_)
    · skip
      obtain ⟨xc, hxc⟩ := getSome (xs := cs) (k := j) hlen' (by omega)
      have hro := hright xc (List.mem_of_getElem? hxc)
      obtain ⟨p, xp, hxp, hkp0, hfp⟩ := find_at hro.l
      obtain ⟨q, xq, hxq, hkq0, hfq⟩ := find_at hro.h
      have hpl := (List.getElem?_eq_some_iff.1 hxp).1
      have hql := (List.getElem?_eq_some_iff.1 hxq).1
      have hkp : keyAt xs p = xc.low := by show (xs.getD p default).key = _; rw [getD_at hxp]; exact hkp0
      have hkq : keyAt xs q = xc.high := by show (xs.getD q default).key = _; rw [getD_at hxq]; exact hkq0
      have hmp : (xs.getD p default).mass = xp.mass := by rw [getD_at hxp]
      have hmq : (xs.getD q default).mass = xq.mass := by rw [getD_at hxq]
      have hop := (hb xp (List.mem_of_getElem? hxp)).m
      have hoq := (hb xq (List.mem_of_getElem? hxq)).m
      have hpq := midx_lt (n := n) (a := p) (b := q) (by omega) (by omega)
      have hqp := midx_lt (n := n) (a := q) (b := p) (by omega) (by omega)
      refine W_skip ?_
      refine thenN ?_
      refine W_seq ?_
      refine W_block ?_
      refine W_seq ?_
      refine W_region ?_
      refine wl_q (r_move (.slice _ _ _) rfl) rfl rfl ?_
      refine wl_q (r_move (.slice _ _ _) rfl) rfl rfl ?_
      refine wl_q (r_move (.int _ _) rfl) rfl rfl ?_
      refine wl_q (r_idxR (j) sl45 rfl rfl rfl ((R'.mem hM4).below_len (mapGet conCells hxc)) ((R'.mem hM4).someK (mapGet conCells hxc))) rfl rfl ?_
      refine wl_q (r_fieldAddrE 0 fld63_0 (R'.mem hM4) (Nat.lt_of_le_of_lt (Nat.zero_le _) ((R'.mem hM4).below_len (mapGet conCells hxc))) rfl) rfl rfl ?_
      refine wl_q (r_fieldAddrE 0 fld61_0 (R'.mem hM4) (Nat.lt_of_le_of_lt (Nat.zero_le _) ((R'.mem hM4).below_len (mapGet conCells hxc))) rfl) rfl rfl ?_
      refine wl_q (r_ldE (o := 0) (.int _ _) one30 (R'.mem hM4) (mapGet conCells hxc) rfl rfl) rfl rfl ?_
      refine wl_cal cal48 rfl rfl rfl ?_
      refine (ref06_Find _ xc.low _ _ _ xs (R.mem hM4)).mono ?_
      rintro _ w5 ⟨v5, rfl, ⟨rfl, hb5⟩⟩
      refine ⟨_, rfl, ?_⟩
      have M5 := hM4.callB hb5
      refine wl_re 51 (.int .i64 (p : Int)) (iE hfp) ?_
      refine wl_q (r_assign (.int _ _) rfl) rfl rfl ?_
      refine wl_nil ?_
      refine thenN ?_
      refine W_seq ?_
      refine W_region ?_
      refine wl_q (r_move (.slice _ _ _) rfl) rfl rfl ?_
      refine wl_q (r_move (.slice _ _ _) rfl) rfl rfl ?_
      refine wl_q (r_move (.int _ _) rfl) rfl rfl ?_
      refine wl_q (r_idxR (j) sl45 rfl rfl rfl ((R'.mem M5).below_len (mapGet conCells hxc)) ((R'.mem M5).someK (mapGet conCells hxc))) rfl rfl ?_
      refine wl_q (r_fieldAddrE 0 fld63_0 (R'.mem M5) (Nat.lt_of_le_of_lt (Nat.zero_le _) ((R'.mem M5).below_len (mapGet conCells hxc))) rfl) rfl rfl ?_
      refine wl_q (r_fieldAddrE 1 fld61_1 (R'.mem M5) (Nat.lt_of_le_of_lt (Nat.zero_le _) ((R'.mem M5).below_len (mapGet conCells hxc))) rfl) rfl rfl ?_
      refine wl_q (r_ldE (o := 1) (.int _ _) one30 (R'.mem M5) (mapGet conCells hxc) rfl rfl) rfl rfl ?_
      refine wl_cal cal48 rfl rfl rfl ?_
      refine (ref06_Find _ xc.high _ _ _ xs (R.mem M5)).mono ?_
      rintro _ w6 ⟨v6, rfl, ⟨rfl, hb6⟩⟩
      refine ⟨_, rfl, ?_⟩
      have M6 := M5.callB hb6
      refine wl_re 59 (.int .i64 (q : Int)) (iE hfq) ?_
      refine wl_q (r_assign (.int _ _) rfl) rfl rfl ?_
      refine wl_nil ?_
      refine thenN ?_
      refine W_seq ?_
      refine W_region ?_
      refine wl_q (r_move (.slice _ _ _) rfl) rfl rfl ?_
      refine wl_q (r_move (.int _ _) rfl) rfl rfl ?_
      refine wl_q (r_idxR (p) sl22 rfl rfl rfl ((R.mem M6).below_len (mapGet bodyCells hxp)) ((R.mem M6).someK (mapGet bodyCells hxp))) rfl rfl ?_
      refine wl_q (r_fieldAddrE 4 fld32_3 (R.mem M6) (Nat.lt_of_le_of_lt (Nat.zero_le _) ((R.mem M6).below_len (mapGet bodyCells hxp))) rfl) rfl rfl ?_
      refine wl_q (r_ldE (o := 4) (.int _ _) one21 (R.mem M6) (mapGet bodyCells hxp) rfl rfl) rfl rfl ?_
      refine wl_q (r_bin (.bool (decide _)) rfl rfl rfl) rfl rfl ?_
      refine wl_q (r_move (.bool (decide _)) rfl) rfl rfl ?_
      refine wl_splitD 66 rfl (fun g66 => ?_) (fun g66 => ?_)
      · skip
        refine wl_q (r_move (.slice _ _ _) rfl) rfl rfl ?_
        refine wl_q (r_move (.int _ _) rfl) rfl rfl ?_
        refine wl_q (r_idxR (q) sl22 rfl rfl rfl ((R.mem M6).below_len (mapGet bodyCells hxq)) ((R.mem M6).someK (mapGet bodyCells hxq))) rfl rfl ?_
        refine wl_q (r_fieldAddrE 4 fld32_3 (R.mem M6) (Nat.lt_of_le_of_lt (Nat.zero_le _) ((R.mem M6).below_len (mapGet bodyCells hxq))) rfl) rfl rfl ?_
        refine wl_q (r_ldE (o := 4) (.int _ _) one21 (R.mem M6) (mapGet bodyCells hxq) rfl rfl) rfl rfl ?_
        refine wl_q (r_bin (.bool (decide _)) rfl rfl rfl) rfl rfl ?_
        refine wl_q (r_pick true (.bool (decide _)) rfl rfl) rfl rfl ?_
        refine wl_nil ?_
        refine thenN ?_
        refine W_condD rfl (fun h73 => ?_) (fun h73 => ?_)
        · skip
          have hdp : dynAt xs p := by show (xs.getD p default).mass ≠ 0; omega
          have hdq : dynAt xs q := by show (xs.getD q default).mass ≠ 0; omega
          refine W_seq ?_
          refine W_region ?_
          refine wl_q (r_move (.slice _ _ _) rfl) rfl rfl ?_
          refine wl_q (r_move (.int _ _) rfl) rfl rfl ?_
          refine wl_q (r_move (.int _ _) rfl) rfl rfl ?_
          refine wl_q (r_mul rfl rfl (by rw [← Int.natCast_mul]; omega) (by rw [← Int.natCast_mul]; omega)) rfl rfl ?_
          refine wl_re 77 (.int .i64 ((p * n : Nat) : Int)) (iE (by rw [Int.natCast_mul])) ?_
          refine wl_q (r_move (.int _ _) rfl) rfl rfl ?_
          refine wl_q (r_add rfl rfl (by omega) (by omega)) rfl rfl ?_
          refine wl_re 79 (.int .i64 ((p * n + q : Nat) : Int)) (iE (by omega)) ?_
          refine wl_q (r_idxR ((p * n + q)) sl58 rfl rfl rfl ((hrow2.rd M6 (nthMem (i := 0) rfl)).below_len (mapGet boolCell (mget_at (n := n) (a := p) (b := q) (by rw [hlk.snd.len, hlen]) (by omega) (by omega)))) ((hrow2.rd M6 (nthMem (i := 0) rfl)).someK (mapGet boolCell (mget_at (n := n) (a := p) (b := q) (by rw [hlk.snd.len, hlen]) (by omega) (by omega))))) rfl rfl ?_
          refine wl_stR0 0 (.bool true) one4 M6 rfl hrow2 (mapGet boolCell (mget_at (n := n) (a := p) (b := q) (by rw [hlk.snd.len, hlen]) (by omega) (by omega))) rfl rfl rfl rfl (fun e7 w7 hR7 M7 => ?_)
          have hQ7 := hR7.mapSet (f := boolCell) (x := true) rfl
          refine wl_nil ?_
          refine thenN ?_
          refine W_region ?_
          refine wl_q (r_move (.slice _ _ _) rfl) rfl rfl ?_
          refine wl_q (r_move (.int _ _) rfl) rfl rfl ?_
          refine wl_q (r_move (.int _ _) rfl) rfl rfl ?_
          refine wl_q (r_mul rfl rfl (by rw [← Int.natCast_mul]; omega) (by rw [← Int.natCast_mul]; omega)) rfl rfl ?_
          refine wl_re 84 (.int .i64 ((q * n : Nat) : Int)) (iE (by rw [Int.natCast_mul])) ?_
          refine wl_q (r_move (.int _ _) rfl) rfl rfl ?_
          refine wl_q (r_add rfl rfl (by omega) (by omega)) rfl rfl ?_
          refine wl_re 86 (.int .i64 ((q * n + p : Nat) : Int)) (iE (by omega)) ?_
          refine wl_q (r_idxR ((q * n + p)) sl58 rfl rfl rfl ((hQ7.rd M7 (nthMem (i := 0) rfl)).below_len (mapGet boolCell (mget_at (n := n) (a := q) (b := p) (m := m.set (p * n + q) true) (by rw [List.length_set, hlk.snd.len, hlen]) (by omega) (by omega)))) ((hQ7.rd M7 (nthMem (i := 0) rfl)).someK (mapGet boolCell (mget_at (n := n) (a := q) (b := p) (m := m.set (p * n + q) true) (by rw [List.length_set, hlk.snd.len, hlen]) (by omega) (by omega))))) rfl rfl ?_
          refine wl_stR0 0 (.bool true) one4 M7 rfl hQ7 (mapGet boolCell (mget_at (n := n) (a := q) (b := p) (m := m.set (p * n + q) true) (by rw [List.length_set, hlk.snd.len, hlen]) (by omega) (by omega))) rfl rfl rfl rfl (fun e8 w8 hR8 M8 => ?_)
          have hQ8 := hR8.mapSet (f := boolCell) (x := true) rfl
          refine wl_nil ?_
          refine blkN ?_
          refine thenN ?_
          refine W_region ?_
          refine wl_q (r_move (.int _ _) rfl) rfl rfl ?_
          refine wl_q (r_add rfl rfl (by omega) (by omega)) rfl rfl ?_
          refine wl_q (r_assign (.int _ _) rfl) rfl rfl ?_
          refine wl_nil ?_
          refine roundN (j + 1, (m.set (p * n + q) true).set (q * n + p) true, e8) (agC rfl agN) (akC rfl (akC rfl (akC rfl (akC rfl (akC rfl akN))))) ?_ ?_
          · exact ⟨⟨by omega, by rw [← hlen]; exact lk_step hs hlk hxc (by omega) (by omega) hkp hkq hdp hdq (forest_joins hkx cs _ (dyn_fst hkx) xc (List.mem_of_getElem? hxc) ⟨xp, List.mem_of_getElem? hxp, by omega, by omega⟩ ⟨xq, List.mem_of_getElem? hxq, by omega, by omega⟩), hQ8⟩, M8⟩
          · (show mc - (j + 1) < mc - j; omega)
        · skip
          refine W_skip ?_
          refine blkN ?_
          refine thenN ?_
          refine W_region ?_
          refine wl_q (r_move (.int _ _) rfl) rfl rfl ?_
          refine wl_q (r_add rfl rfl (by omega) (by omega)) rfl rfl ?_
          refine wl_q (r_assign (.int _ _) rfl) rfl rfl ?_
          refine wl_nil ?_
          refine roundN (j + 1, m, en) (agC rfl agN) (akC rfl (akC rfl (akC rfl (akC rfl (akC rfl akN))))) ?_ ?_
          · exact ⟨⟨by omega, lk_skip hs hlk hxc (by omega) (by omega) hkp hkq (fun h => by have h2 := h.2; omega), hrow2⟩, M6⟩
          · (show mc - (j + 1) < mc - j; omega)
      · skip
        refine wl_skip rfl rfl ?_
        refine wl_skip rfl rfl ?_
        refine wl_skip rfl rfl ?_
        refine wl_skip rfl rfl ?_
        refine wl_skip rfl rfl ?_
        refine wl_skip rfl rfl ?_
        refine wl_q (r_pick false (.bool false) rfl rfl) rfl rfl ?_
        refine wl_nil ?_
        refine thenN ?_
        refine W_condF rfl ?_
        refine W_skip ?_
        refine blkN ?_
        refine thenN ?_
        refine W_region ?_
        refine wl_q (r_move (.int _ _) rfl) rfl rfl ?_
        refine wl_q (r_add rfl rfl (by omega) (by omega)) rfl rfl ?_
        refine wl_q (r_assign (.int _ _) rfl) rfl rfl ?_
        refine wl_nil ?_
        refine roundN (j + 1, m, en) (agC rfl agN) (akC rfl (akC rfl (akC rfl (akC rfl (akC rfl akN))))) ?_ ?_
        · exact ⟨⟨by omega, lk_skip hs hlk hxc (by omega) (by omega) hkp hkq (fun h => by have h1 := h.1; omega), hrow2⟩, M6⟩
        · (show mc - (j + 1) < mc - j; omega)
    · skip
      obtain rfl : mc = j := by omega
      rw [← hlen'] at hlk
      have hcl0 := cl_init hlk
      refine W_exit ?_
      refine thenX ?_
      refine roundX ?_
      refine blkH ?_
      refine thenN ?_
      refine W_seq ?_
      refine W_seq ?_
      refine W_region ?_
      refine wl_q (r_assign (.int _ _) rfl) rfl rfl ?_
      refine wl_nil ?_
      refine thenN ?_
      refine W_block ?_
      refine W_loop (σ := Nat × List Bool × Ent) [4, 5, 6] (fun (k, m, en) => [(11, .int .i64 (k : Int))]) (fun (k, m, en) w' => (k ≤ n ∧ Cl xs (forestOf xs cs) cs m k ∧ RowIs 4 1 (some ⟨b1, 0, none⟩) (n * n) (n * n) ((m).map boolCell) en) ∧ Mem w [] [en] w') (fun (k, m, en) => n - k) (0, m, en) (agC rfl agN) (⟨⟨by omega, hcl0, hrow2⟩, hM4⟩) ?_
      rintro ⟨k, m, en⟩ ρ9 w9 ⟨⟨hk, hcl, hrow3⟩, hM9⟩
      refine W_seq ?_
      refine W_seq ?_
      refine W_region ?_
      refine wl_q (r_move (.int _ _) rfl) rfl rfl ?_
      refine wl_q (r_move (.int _ _) rfl) rfl rfl ?_
      refine wl_q (r_bin (.bool (decide _)) rfl rfl rfl) rfl rfl ?_
      refine wl_nil ?_
      refine thenN ?_
      refine W_condD rfl (fun h90 => ?_) (fun h90 => ?_)
      · skip
        refine W_skip ?_
        refine thenN ?_
        refine W_seq ?_
        refine W_block ?_
        refine W_seq ?_
        refine W_region ?_
        refine wl_q (r_assign (.int _ _) rfl) rfl rfl ?_
        refine wl_nil ?_
        refine thenN ?_
        refine W_block ?_
        refine W_loop (σ := Nat × List Bool × Ent) [4, 5, 6, 11] (fun (a, m1, en) => [(12, .int .i64 (a : Int))]) (fun (a, m1, en) w' => (a ≤ n ∧ Ph n m m1 k (a * n) ∧ RowIs 4 1 (some ⟨b1, 0, none⟩) (n * n) (n * n) ((m1).map boolCell) en) ∧ Mem w [] [en] w') (fun (a, m1, en) => n - a) (0, m, en) (agC rfl agN) (⟨⟨by omega, by rw [Nat.zero_mul]; exact ph_init (by rw [hcl.lk.snd.len, hlen]) k, hrow3⟩, hM9⟩) ?_
        rintro ⟨a, m1, en⟩ ρ10 w10 ⟨⟨ha, hph, hrow4⟩, hM10⟩
        refine W_seq ?_
        refine W_seq ?_
        refine W_region ?_
        refine wl_q (r_move (.int _ _) rfl) rfl rfl ?_
        refine wl_q (r_move (.int _ _) rfl) rfl rfl ?_
        refine wl_q (r_bin (.bool (decide _)) rfl rfl rfl) rfl rfl ?_
        refine wl_nil ?_
        refine thenN ?_
        refine W_condD rfl (fun h95 => ?_) (fun h95 => ?_)
        · skip
          refine W_skip ?_
          refine thenN ?_
          refine W_seq ?_
          refine W_block ?_
          refine W_seq ?_
          refine W_region ?_
          refine wl_q (r_assign (.int _ _) rfl) rfl rfl ?_
          refine wl_nil ?_
          refine thenN ?_
          refine W_block ?_
          refine W_loop (σ := Nat × List Bool × Ent) [4, 5, 6, 11, 12] (fun (b, m2, en) => [(13, .int .i64 (b : Int))]) (fun (b, m2, en) w' => (b ≤ n ∧ Ph n m m2 k (a * n + b) ∧ RowIs 4 1 (some ⟨b1, 0, none⟩) (n * n) (n * n) ((m2).map boolCell) en) ∧ Mem w [] [en] w') (fun (b, m2, en) => n - b) (0, m1, en) (agC rfl agN) (⟨⟨by omega, hph, hrow4⟩, hM10⟩) ?_
          rintro ⟨b, m2, en⟩ ρ11 w11 ⟨⟨hbn, hph2, hrow5⟩, hM11⟩
          refine W_seq ?_
          refine W_seq ?_
          refine W_region ?_
          refine wl_q (r_move (.int _ _) rfl) rfl rfl ?_
          refine wl_q (r_move (.int _ _) rfl) rfl rfl ?_
          refine wl_q (r_bin (.bool (decide _)) rfl rfl rfl) rfl rfl ?_
          refine wl_nil ?_
          refine thenN ?_
          refine W_condD rfl (fun h100 => ?_) (fun h100 => ?_)
          · skip
            have hak := midx_lt (n := n) (a := a) (b := k) (by omega) (by omega)
            have hkb := midx_lt (n := n) (a := k) (b := b) (by omega) (by omega)
            have hab := midx_lt (n := n) (a := a) (b := b) (by omega) (by omega)
            refine W_skip ?_
            refine thenN ?_
            refine W_seq ?_
            refine W_block ?_
            refine W_seq ?_
            refine W_region ?_
            refine wl_q (r_move (.slice _ _ _) rfl) rfl rfl ?_
            refine wl_q (r_move (.int _ _) rfl) rfl rfl ?_
            refine wl_q (r_move (.int _ _) rfl) rfl rfl ?_
            refine wl_q (r_mul rfl rfl (by rw [← Int.natCast_mul]; omega) (by rw [← Int.natCast_mul]; omega)) rfl rfl ?_
            refine wl_re 106 (.int .i64 ((a * n : Nat) : Int)) (iE (by rw [Int.natCast_mul])) ?_
            refine wl_q (r_move (.int _ _) rfl) rfl rfl ?_
            refine wl_q (r_add rfl rfl (by omega) (by omega)) rfl rfl ?_
            refine wl_re 108 (.int .i64 ((a * n + k : Nat) : Int)) (iE (by omega)) ?_
            refine wl_q (r_idxR ((a * n + k)) sl58 rfl rfl rfl ((hrow5.rd hM11 (nthMem (i := 0) rfl)).below_len (mapGet boolCell (mget_at (n := n) (a := a) (b := k) hph2.len (by omega) (by omega)))) ((hrow5.rd hM11 (nthMem (i := 0) rfl)).someK (mapGet boolCell (mget_at (n := n) (a := a) (b := k) hph2.len (by omega) (by omega))))) rfl rfl ?_
            refine wl_q (r_ldE0 (.bool _) one4 (hrow5.rd hM11 (nthMem (i := 0) rfl)) (mapGet boolCell (mget_at (n := n) (a := a) (b := k) hph2.len (by omega) (by omega))) rfl) rfl rfl ?_
            refine wl_q (r_move (.bool _) rfl) rfl rfl ?_
            refine wl_split 111 _ rfl (fun g111 => ?_) (fun g111 => ?_)
            · skip
              refine wl_q (r_move (.slice _ _ _) rfl) rfl rfl ?_
              refine wl_q (r_move (.int _ _) rfl) rfl rfl ?_
              refine wl_q (r_move (.int _ _) rfl) rfl rfl ?_
              refine wl_q (r_mul rfl rfl (by rw [← Int.natCast_mul]; omega) (by rw [← Int.natCast_mul]; omega)) rfl rfl ?_
              refine wl_re 115 (.int .i64 ((k * n : Nat) : Int)) (iE (by rw [Int.natCast_mul])) ?_
              refine wl_q (r_move (.int _ _) rfl) rfl rfl ?_
              refine wl_q (r_add rfl rfl (by omega) (by omega)) rfl rfl ?_
              refine wl_re 117 (.int .i64 ((k * n + b : Nat) : Int)) (iE (by omega)) ?_
              refine wl_q (r_idxR ((k * n + b)) sl58 rfl rfl rfl ((hrow5.rd hM11 (nthMem (i := 0) rfl)).below_len (mapGet boolCell (mget_at (n := n) (a := k) (b := b) hph2.len (by omega) (by omega)))) ((hrow5.rd hM11 (nthMem (i := 0) rfl)).someK (mapGet boolCell (mget_at (n := n) (a := k) (b := b) hph2.len (by omega) (by omega))))) rfl rfl ?_
              refine wl_q (r_ldE0 (.bool _) one4 (hrow5.rd hM11 (nthMem (i := 0) rfl)) (mapGet boolCell (mget_at (n := n) (a := k) (b := b) hph2.len (by omega) (by omega))) rfl) rfl rfl ?_
              refine wl_q (r_pick true (.bool _) rfl rfl) rfl rfl ?_
              refine wl_nil ?_
              refine thenN ?_
              refine W_cond _ rfl (fun h120 => ?_) (fun h120 => ?_)
              · skip
                refine W_region ?_
                refine wl_q (r_move (.slice _ _ _) rfl) rfl rfl ?_
                refine wl_q (r_move (.int _ _) rfl) rfl rfl ?_
                refine wl_q (r_move (.int _ _) rfl) rfl rfl ?_
                refine wl_q (r_mul rfl rfl (by rw [← Int.natCast_mul]; omega) (by rw [← Int.natCast_mul]; omega)) rfl rfl ?_
                refine wl_re 124 (.int .i64 ((a * n : Nat) : Int)) (iE (by rw [Int.natCast_mul])) ?_
                refine wl_q (r_move (.int _ _) rfl) rfl rfl ?_
                refine wl_q (r_add rfl rfl (by omega) (by omega)) rfl rfl ?_
                refine wl_re 126 (.int .i64 ((a * n + b : Nat) : Int)) (iE (by omega)) ?_
                refine wl_q (r_idxR ((a * n + b)) sl58 rfl rfl rfl ((hrow5.rd hM11 (nthMem (i := 0) rfl)).below_len (mapGet boolCell (mget_at (n := n) (a := a) (b := b) hph2.len (by omega) (by omega)))) ((hrow5.rd hM11 (nthMem (i := 0) rfl)).someK (mapGet boolCell (mget_at (n := n) (a := a) (b := b) hph2.len (by omega) (by omega))))) rfl rfl ?_
                refine wl_stR0 0 (.bool true) one4 hM11 rfl hrow5 (mapGet boolCell (mget_at (n := n) (a := a) (b := b) hph2.len (by omega) (by omega))) rfl rfl rfl rfl (fun e12 w12 hR12 M12 => ?_)
                have hQ12 := hR12.mapSet (f := boolCell) (x := true) rfl
                refine wl_nil ?_
                refine blkN ?_
                refine thenN ?_
                refine W_region ?_
                refine wl_q (r_move (.int _ _) rfl) rfl rfl ?_
                refine wl_q (r_add rfl rfl (by omega) (by omega)) rfl rfl ?_
                refine wl_q (r_assign (.int _ _) rfl) rfl rfl ?_
                refine wl_nil ?_
                refine roundN (b + 1, m2.set (a * n + b) true, e12) (agC rfl agN) (akC rfl (akC rfl (akC rfl (akC rfl (akC rfl akN))))) ?_ ?_
                · exact ⟨⟨by omega, (ph_step hph2 (by omega) (by omega) (by omega)).1 ⟨g111, h120⟩, hQ12⟩, M12⟩
                · (show n - (b + 1) < n - b; omega)
              · skip
                refine W_skip ?_
                refine blkN ?_
                refine thenN ?_
                refine W_region ?_
                refine wl_q (r_move (.int _ _) rfl) rfl rfl ?_
                refine wl_q (r_add rfl rfl (by omega) (by omega)) rfl rfl ?_
                refine wl_q (r_assign (.int _ _) rfl) rfl rfl ?_
                refine wl_nil ?_
                refine roundN (b + 1, m2, en) (agC rfl agN) (akC rfl (akC rfl (akC rfl (akC rfl (akC rfl akN))))) ?_ ?_
                · exact ⟨⟨by omega, (ph_step hph2 (by omega) (by omega) (by omega)).2 (fun h => by rw [h.2] at h120; cases h120), hrow5⟩, hM11⟩
                · (show n - (b + 1) < n - b; omega)
            · skip
              refine wl_skip rfl rfl ?_
              refine wl_skip rfl rfl ?_
              refine wl_skip rfl rfl ?_
              refine wl_skip rfl rfl ?_
              refine wl_skip rfl rfl ?_
              refine wl_skip rfl rfl ?_
              refine wl_skip rfl rfl ?_
              refine wl_skip rfl rfl ?_
              refine wl_q (r_pick false (.bool false) rfl rfl) rfl rfl ?_
              refine wl_nil ?_
              refine thenN ?_
              refine W_condF rfl ?_
              refine W_skip ?_
              refine blkN ?_
              refine thenN ?_
              refine W_region ?_
              refine wl_q (r_move (.int _ _) rfl) rfl rfl ?_
              refine wl_q (r_add rfl rfl (by omega) (by omega)) rfl rfl ?_
              refine wl_q (r_assign (.int _ _) rfl) rfl rfl ?_
              refine wl_nil ?_
              refine roundN (b + 1, m2, en) (agC rfl agN) (akC rfl (akC rfl (akC rfl (akC rfl (akC rfl akN))))) ?_ ?_
              · exact ⟨⟨by omega, (ph_step hph2 (by omega) (by omega) (by omega)).2 (fun h => by rw [h.1] at g111; cases g111), hrow5⟩, hM11⟩
              · (show n - (b + 1) < n - b; omega)
          · skip
            obtain rfl : n = b := by omega
            refine W_exit ?_
            refine thenX ?_
            refine roundX ?_
            refine blkH ?_
            refine blkN ?_
            refine thenN ?_
            refine W_region ?_
            refine wl_q (r_move (.int _ _) rfl) rfl rfl ?_
            refine wl_q (r_add rfl rfl (by omega) (by omega)) rfl rfl ?_
            refine wl_q (r_assign (.int _ _) rfl) rfl rfl ?_
            refine wl_nil ?_
            refine roundN (a + 1, m2, en) (agC rfl agN) (akC rfl (akC rfl (akC rfl (akC rfl akN)))) ?_ ?_
            · exact ⟨⟨by omega, by rw [Nat.add_mul, Nat.one_mul]; exact hph2, hrow5⟩, hM11⟩
            · (show n - (a + 1) < n - a; omega)
        · skip
          obtain rfl : n = a := by omega
          refine W_exit ?_
          refine thenX ?_
          refine roundX ?_
          refine blkH ?_
          refine blkN ?_
          refine thenN ?_
          refine W_region ?_
          refine wl_q (r_move (.int _ _) rfl) rfl rfl ?_
          refine wl_q (r_add rfl rfl (by omega) (by omega)) rfl rfl ?_
          refine wl_q (r_assign (.int _ _) rfl) rfl rfl ?_
          refine wl_nil ?_
          refine roundN (k + 1, m1, en) (agC rfl agN) (akC rfl (akC rfl (akC rfl akN))) ?_ ?_
          · exact ⟨⟨by omega, cl_step hcl (by omega) (by rw [hlen]; exact hph), hrow4⟩, hM10⟩
          · (show n - (k + 1) < n - k; omega)
      · skip
        obtain rfl : n = k := by omega
        refine W_exit ?_
        refine thenX ?_
        refine roundX ?_
        refine blkH ?_
        refine thenN ?_
        refine W_seq ?_
        refine W_region ?_
        refine wl_q (r_move (.slice _ _ _) rfl) rfl rfl ?_
        refine wl_q (r_assign (.slice _ _ _) rfl) rfl rfl ?_
        refine wl_nil ?_
        refine thenN ?_
        refine W_ret ?_
        skip
        refine fin1 (.slice _ _ _) rfl ?_
        exact ⟨_, m, en, rfl, hrow3, hcl, hM9⟩

end Go.Proofs.YtmcddmhkjcgneaaGreatDoor
