/- Part of the proof of the laws of this seat: I25, K25. No conditions. -/
import Derived.Test.YtmcddmhkjcgneaaGreatDoorK5
import Derived.Test.YtmcddmhkjcgneaaGreatDoorK24
import Derived.Test.YtmcddmhkjcgneaaGreatDoorK16
import Derived.Test.YtmcddmhkjcgneaaGreatDoorK26
/- Walks of Go functions over the frame of this claim: what each computes, for every input of the stated types (I25). -/
set_option linter.unusedVariables false
set_option linter.unusedSimpArgs false
set_option linter.unnecessarySimpa false
namespace Go.Proofs.YtmcddmhkjcgneaaGreatDoor
open Go.Bil
open Go.RowKit (Below)
open Go.Proofs

set_option maxHeartbeats 4000000 in
theorem isl_root (w : World) (f : KMap) (pm : Nat) (em : Ent) (hme : MapE .u32 (Value.int .u32) f (some pm) em) (hF : Forest f) (key p : Int) (hp : f key = some p) (hO : Own [em] w) :
    Calls Tryz.prog 52 #[.map (some pm), .int .u32 key] w (fun ex w' => ∃ v, ex = .returned v ∧ (fun v w' => v = .int .u32 (rt f key) ∧ Mem w (blks [em]) [em] w') v w') := by
  refine calls_of_W #[.tmp 4] 14 Tryz.func52 rfl Tryz.results52 Tryz.ntmps52 rfl ?_
  have M0 := hO.mem
  refine W_seq ?_
  refine W_region ?_
  refine wl_q (r_assign (.int _ _) rfl) rfl rfl ?_
  refine wl_nil ?_
  refine thenN ?_
  refine W_scope 0 (fun ρ' w' => ∃ (kk pk : Int), AgreeL ρ' [(0, .map (some pm)), (1, .int .u32 kk)] ∧ (f kk = some pk ∧ rt f kk = rt f key) ∧ Mem w (blks [em]) [em] w') (tmpN 1) rfl ?_ ?_
  · skip
    refine W_seq ?_
    refine W_label ?_
    refine thenN ?_
    refine W_seq ?_
    refine W_seq ?_
    refine W_region ?_
    refine wl_q (r_move (.map _) rfl) rfl rfl ?_
    refine wl_q (r_move (.int _ _) rfl) rfl rfl ?_
    refine wl_q (r_lookup1 (enc := (Value.int .u32)) 0 0 map89 zv30 M0 rfl hme rfl rfl) rfl rfl ?_
    refine wl_re 8 (.int .u32 p) (congrArg (Value.int .u32) (by rw [hp]; rfl)) ?_
    refine wl_q (r_assign (.int _ _) rfl) rfl rfl ?_
    refine wl_nil ?_
    refine thenN ?_
    refine W_seq ?_
    refine W_region ?_
    refine wl_q (r_move (.int _ _) rfl) rfl rfl ?_
    refine wl_q (r_move (.int _ _) rfl) rfl rfl ?_
    refine wl_q (r_bin (.bool (decide _)) rfl rfl rfl) rfl rfl ?_
    refine wl_nil ?_
    refine thenN ?_
    refine W_condD rfl (fun h11 => ?_) (fun h11 => ?_)
    · skip
      refine W_seq ?_
      refine W_region ?_
      refine wl_q (r_move (.int _ _) rfl) rfl rfl ?_
      refine wl_q (r_assign (.int _ _) rfl) rfl rfl ?_
      refine wl_nil ?_
      refine thenN ?_
      refine W_goto ?_
      refine thenG ?_
      obtain ⟨q, hq⟩ := hF.dom _ _ hp
      have hle := hF.le _ _ hp
      have hnn := hF.pn hp
      have hst := rt_step hF hp
      refine jumpG ?_
      exact ⟨p, q, (agC rfl (agC rfl agN)), ⟨hq, hst.symm⟩, M0⟩
    · skip
      refine W_skip ?_
      refine thenN ?_
      refine W_seq ?_
      refine W_region ?_
      refine wl_q (r_move (.int _ _) rfl) rfl rfl ?_
      refine wl_q (r_assign (.int _ _) rfl) rfl rfl ?_
      refine wl_nil ?_
      refine thenN ?_
      refine W_ret ?_
      refine jumpR ?_
      skip
      refine fin1 (.int _ _) rfl ?_
      exact ⟨iE (by rw [show rt f key = rt f key from rfl]; exact (rt_self (by rw [hp]; exact congrArg some (Decidable.not_not.1 h11))).symm), M0⟩
  · skip
    rintro ρ1 w1 ⟨kk, pk, hfr1, ⟨hpk, hrk⟩, hM1⟩
    refine W_fresh hfr1 (fun ρ2 => ?_)
    refine W_seq ?_
    refine W_skip ?_
    refine thenN ?_
    refine W_seq ?_
    refine W_seq ?_
    refine W_region ?_
    refine wl_q (r_move (.map _) rfl) rfl rfl ?_
    refine wl_q (r_move (.int _ _) rfl) rfl rfl ?_
    refine wl_q (r_lookup1 (enc := (Value.int .u32)) 0 0 map89 zv30 hM1 rfl hme rfl rfl) rfl rfl ?_
    refine wl_re 8 (.int .u32 pk) (congrArg (Value.int .u32) (by rw [hpk]; rfl)) ?_
    refine wl_q (r_assign (.int _ _) rfl) rfl rfl ?_
    refine wl_nil ?_
    refine thenN ?_
    refine W_seq ?_
    refine W_region ?_
    refine wl_q (r_move (.int _ _) rfl) rfl rfl ?_
    refine wl_q (r_move (.int _ _) rfl) rfl rfl ?_
    refine wl_q (r_bin (.bool (decide _)) rfl rfl rfl) rfl rfl ?_
    refine wl_nil ?_
    refine thenN ?_
    refine W_condD rfl (fun h11 => ?_) (fun h11 => ?_)
    · skip
      refine W_seq ?_
      refine W_region ?_
      refine wl_q (r_move (.int _ _) rfl) rfl rfl ?_
      refine wl_q (r_assign (.int _ _) rfl) rfl rfl ?_
      refine wl_nil ?_
      refine thenN ?_
      refine W_goto ?_
      refine thenG ?_
      obtain ⟨q, hq⟩ := hF.dom _ _ hpk
      have hle := hF.le _ _ hpk
      have hnn := hF.pn hpk
      have hst := rt_step hF hpk
      refine jumpG ?_
      exact ⟨⟨pk, q, (agC rfl (agC rfl agN)), ⟨hq, hst.symm.trans hrk⟩, hM1⟩, (by rw [tmpN_eq (t := 1) (z := pk) rfl, tmpN_eq hfr1.2.1]; omega)⟩
    · skip
      refine W_skip ?_
      refine thenN ?_
      refine W_seq ?_
      refine W_region ?_
      refine wl_q (r_move (.int _ _) rfl) rfl rfl ?_
      refine wl_q (r_assign (.int _ _) rfl) rfl rfl ?_
      refine wl_nil ?_
      refine thenN ?_
      refine W_ret ?_
      refine jumpR ?_
      skip
      refine fin1 (.int _ _) rfl ?_
      exact ⟨iE (by rw [← hrk]; exact (rt_self (by rw [hpk]; exact congrArg some (Decidable.not_not.1 h11))).symm), hM1⟩

set_option maxHeartbeats 4000000 in
theorem isl_join (w : World) (f : KMap) (pm : Nat) (em : Ent) (hme : MapE .u32 (Value.int .u32) f (some pm) em) (hF : Forest f) (a b pa pb : Int) (ha : f a = some pa) (hb : f b = some pb) (hO : Own [em] w) :
    Calls Tryz.prog 51 #[.map (some pm), .int .u32 a, .int .u32 b] w (fun ex w' => ∃ v, ex = .returned v ∧ (fun v w' => v = .tuple #[] ∧ ∃ em', MapE .u32 (Value.int .u32) (joinK f a b) (some pm) em' ∧ Mem w (blks [em]) [em'] w') v w') := by
  refine calls_of_W #[] 21 Tryz.func51 rfl Tryz.results51 Tryz.ntmps51 rfl ?_
  have M0 := hO.mem
  refine W_seq ?_
  refine W_region ?_
  refine wl_q (r_move (.map _) rfl) rfl rfl ?_
  refine wl_q (r_move (.int _ _) rfl) rfl rfl ?_
  refine wl_cal cal52 rfl rfl rfl ?_
  refine (isl_root _ f pm em hme hF a pa ha (M0.ownSeg 0 1)).mono ?_
  rintro _ w1 ⟨v1, rfl, ⟨rfl, hM1⟩⟩
  refine ⟨_, rfl, ?_⟩
  have M1 : Mem _ _ [_] _ := M0.seg 0 1 hM1
  refine wl_q (r_move (.map _) rfl) rfl rfl ?_
  refine wl_q (r_move (.int _ _) rfl) rfl rfl ?_
  refine wl_cal cal52 rfl rfl rfl ?_
  refine (isl_root _ f pm em hme hF b pb hb (M1.ownSeg 0 1)).mono ?_
  rintro _ w2 ⟨v2, rfl, ⟨rfl, hM2⟩⟩
  refine ⟨_, rfl, ?_⟩
  have M2 : Mem _ _ [_] _ := M1.seg 0 1 hM2
  refine wl_q (r_assign (.int _ _) rfl) rfl rfl ?_
  refine wl_q (r_assign (.int _ _) rfl) rfl rfl ?_
  refine wl_nil ?_
  refine thenN ?_
  refine W_region ?_
  refine wl_q (r_move (.map _) rfl) rfl rfl ?_
  refine wl_q (r_move (.int _ _) rfl) rfl rfl ?_
  refine wl_q (r_move (.int _ _) rfl) rfl rfl ?_
  refine wl_q (r_max2 rfl rfl ) rfl rfl ?_
  refine wl_q (r_move (.int _ _) rfl) rfl rfl ?_
  refine wl_q (r_move (.int _ _) rfl) rfl rfl ?_
  refine wl_q (r_min2 rfl rfl ) rfl rfl ?_
  refine wl_mapUpdate (enc := (Value.int .u32)) 0 map89 M2 rfl rfl hme rfl rfl rfl rfl (fun e3 w3 hm3 M3 => ?_)
  refine wl_nil ?_
  refine fin0n ?_
  exact ⟨rfl, _, hm3, M3⟩

set_option maxHeartbeats 4000000 in
theorem law25_ball (w : World) (key m : Int) :
    Calls Tryz.prog 47 #[.int .u32 key, .int .i32 m] w (fun ex w' => ∃ v, ex = .returned v ∧ (fun v w' => v = (.agg (bodyCells (⟨key, 65536, 0, 0, m, 0, 0, 0, 0, 0⟩ : Body)).toArray) ∧ Below w.heap.size w w') v w') := by
  refine calls_of_W #[.cell 4 32] 8 Tryz.func47 rfl Tryz.results47 Tryz.ntmps47 rfl ?_
  have M0 := Mem.refl w
  refine W_seq ?_
  refine W_region ?_
  refine wl_alloc zero32 M0 rfl rfl (fun b1 w1 M1 => ?_)
  refine wl_nil ?_
  refine thenN ?_
  refine W_seq ?_
  refine W_region ?_
  refine wl_q (r_move (.int _ _) rfl) rfl rfl ?_
  refine wl_q (r_move (.int _ _) rfl) rfl rfl ?_
  refine wl_q (r_build [(0, .int _ _), (1, .int _ _), (3, .int _ _)] _ struct32 rfl rfl) rfl rfl ?_
  refine wl_stW 0 _ agg32 M1 rfl rfl rfl rfl rfl (ones_of rfl) rfl (fun w2 M2 => ?_)
  refine wl_nil ?_
  refine thenN ?_
  refine W_ret ?_
  skip
  refine finC1 0 agg32 M2 rfl rfl rfl ?_
  exact ⟨rfl, M2.below⟩

set_option maxHeartbeats 4000000 in
theorem ref25_Right (w : World) (A : Option Addr) (n c : Nat) (xs : List Body) (R : Rd w 10 A n (xs.map bodyCells)) (B : Option Addr) (m c' : Nat) (cs : List Con) (R' : Rd w 5 B m (cs.map conCells)) :
    Calls Tryz.prog 24 #[.slice A n c, .slice B m c'] w (fun ex w' => ∃ v, ex = .returned v ∧ (fun v w' => v = .bool (decide (RightC xs cs)) ∧ Below w.heap.size w w') v w') := by
  have hlen : xs.length = n := by simpa using R.len
  have hbd := R.bound
  have hlen' : cs.length = m := by simpa using R'.len
  have hbd' := R'.bound
  refine calls_of_W #[.tmp 4] 43 Tryz.func24 rfl Tryz.results24 Tryz.ntmps24 rfl ?_
  have M0 := Mem.refl w
  refine W_seq ?_
  refine W_region ?_
  refine wl_q (r_assign (.bool false) rfl) rfl rfl ?_
  refine wl_nil ?_
  refine thenN ?_
  refine W_seq ?_
  refine W_seq ?_
  refine W_region ?_
  refine wl_q (r_move (.slice _ _ _) rfl) rfl rfl ?_
  refine wl_q (r_lenS Tryz.underlying45 rfl) rfl rfl ?_
  refine wl_q (r_bin (.bool (decide _)) rfl rfl rfl) rfl rfl ?_
  refine wl_nil ?_
  refine thenN ?_
  refine W_condD rfl (fun h9 => ?_) (fun h9 => ?_)
  · skip
    refine W_seq ?_
    refine W_region ?_
    refine wl_q (r_assign (.bool false) rfl) rfl rfl ?_
    refine wl_nil ?_
    refine thenN ?_
    refine W_ret ?_
    refine thenR ?_
    skip
    refine fin1 (.bool false) rfl ?_
    exact ⟨bF (fun h => by have := h.1; omega), M0.below⟩
  · skip
    refine W_skip ?_
    refine thenN ?_
    refine W_seq ?_
    refine W_seq ?_
    refine W_region ?_
    refine wl_q (r_assign (.int _ _) rfl) rfl rfl ?_
    refine wl_nil ?_
    refine thenN ?_
    refine W_block ?_
    refine W_loop (σ := Nat) [0, 1] (fun k => [(5, .int .i64 (k : Int))]) (fun k w' => (k ≤ m ∧ ∀ (j : Nat) (x : Con), j < k → cs[j]? = some x → RightOne xs x) ∧ Mem w [] [] w') (fun k => m - k) 0 (agC rfl agN) (⟨⟨by omega, fun j x hj => by omega⟩, M0⟩) ?_
    rintro k ρ1 w1 ⟨⟨hk, hal⟩, hM1⟩
    refine W_seq ?_
    refine W_seq ?_
    refine W_region ?_
    refine wl_q (r_move (.int _ _) rfl) rfl rfl ?_
    refine wl_q (r_move (.slice _ _ _) rfl) rfl rfl ?_
    refine wl_q (r_lenS Tryz.underlying45 rfl) rfl rfl ?_
    refine wl_q (r_bin (.bool (decide _)) rfl rfl rfl) rfl rfl ?_
    refine wl_nil ?_
    refine thenN ?_
    refine W_condD rfl (fun h13 => ?_) (fun h13 => ?_)
    · skip
      obtain ⟨xc, hxc⟩ := getSome (xs := cs) (k := k) hlen' (by omega)
      refine W_skip ?_
      refine thenN ?_
      refine W_seq ?_
      refine W_block ?_
      refine W_seq ?_
      refine W_region ?_
      refine wl_q (r_move (.slice _ _ _) rfl) rfl rfl ?_
      refine wl_q (r_move (.int _ _) rfl) rfl rfl ?_
      refine wl_q (r_idxR (k) sl45 rfl rfl rfl ((R'.mem hM1).below_len (mapGet conCells hxc)) ((R'.mem hM1).someK (mapGet conCells hxc))) rfl rfl ?_
      refine wl_q (r_ldEA _ agg63 (R'.mem hM1) (mapGet conCells hxc) rfl) rfl rfl ?_
      refine wl_alloc zero63 hM1 rfl rfl (fun b2 w2 M2 => ?_)
      refine wl_stW 0 _ agg63 M2 rfl rfl rfl rfl rfl (ones_of rfl) rfl (fun w3 M3 => ?_)
      refine wl_nil ?_
      refine thenN ?_
      refine W_seq ?_
      refine W_region ?_
      refine wl_q (r_fieldAddr 0 fld63_0 rfl) rfl rfl ?_
      refine wl_q (r_fieldAddr 0 fld61_0 rfl) rfl rfl ?_
      refine wl_q (r_ld 0 (.int _ _) one30 M3 rfl rfl rfl) rfl rfl ?_
      refine wl_q (r_fieldAddr 0 fld63_0 rfl) rfl rfl ?_
      refine wl_q (r_fieldAddr 1 fld61_1 rfl) rfl rfl ?_
      refine wl_q (r_ld 0 (.int _ _) one30 M3 rfl rfl rfl) rfl rfl ?_
      refine wl_q (r_bin (.bool (decide _)) rfl rfl rfl) rfl rfl ?_
      refine wl_q (r_move (.bool (decide _)) rfl) rfl rfl ?_
      refine wl_splitD 27 rfl (fun g27 => ?_) (fun g27 => ?_)
      · skip
        refine wl_skip rfl rfl ?_
        refine wl_skip rfl rfl ?_
        refine wl_skip rfl rfl ?_
        refine wl_skip rfl rfl ?_
        refine wl_skip rfl rfl ?_
        refine wl_skip rfl rfl ?_
        refine wl_q (r_pick true (.bool true) rfl rfl) rfl rfl ?_
        refine wl_q (r_move (.bool true) rfl) rfl rfl ?_
        refine wl_skip rfl rfl ?_
        refine wl_skip rfl rfl ?_
        refine wl_skip rfl rfl ?_
        refine wl_skip rfl rfl ?_
        refine wl_skip rfl rfl ?_
        refine wl_skip rfl rfl ?_
        refine wl_q (r_pick true (.bool true) rfl rfl) rfl rfl ?_
        refine wl_nil ?_
        refine thenN ?_
        refine W_condT rfl ?_
        refine W_seq ?_
        refine W_region ?_
        refine wl_q (r_assign (.bool false) rfl) rfl rfl ?_
        refine wl_nil ?_
        refine thenN ?_
        refine W_ret ?_
        refine blkR ?_
        refine thenR ?_
        refine roundR ?_
        refine blkR ?_
        refine thenR ?_
        skip
        refine fin1 (.bool false) rfl ?_
        exact ⟨bF (fun h => by have h2 := h.2 xc (List.mem_of_getElem? hxc); have a := h2.ne; have b := h2.l; have d := h2.h; omega), M3.below⟩
      · skip
        refine wl_q (r_move (.slice _ _ _) rfl) rfl rfl ?_
        refine wl_q (r_fieldAddr 0 fld63_0 rfl) rfl rfl ?_
        refine wl_q (r_fieldAddr 0 fld61_0 rfl) rfl rfl ?_
        refine wl_q (r_ld 0 (.int _ _) one30 M3 rfl rfl rfl) rfl rfl ?_
        refine wl_cal cal48 rfl rfl rfl ?_
        refine (ref06_Find _ xc.low _ _ _ xs (R.mem M3)).mono ?_
        rintro _ w4 ⟨v4, rfl, ⟨rfl, hb4⟩⟩
        refine ⟨_, rfl, ?_⟩
        have M4 := M3.callB hb4
        refine wl_q (r_bin (.bool (decide _)) rfl rfl rfl) rfl rfl ?_
        refine wl_q (r_pick false (.bool (decide _)) rfl rfl) rfl rfl ?_
        refine wl_q (r_move (.bool (decide _)) rfl) rfl rfl ?_
        refine wl_splitD 35 rfl (fun g35 => ?_) (fun g35 => ?_)
        · skip
          refine wl_skip rfl rfl ?_
          refine wl_skip rfl rfl ?_
          refine wl_skip rfl rfl ?_
          refine wl_skip rfl rfl ?_
          refine wl_skip rfl rfl ?_
          refine wl_skip rfl rfl ?_
          refine wl_q (r_pick true (.bool true) rfl rfl) rfl rfl ?_
          refine wl_nil ?_
          refine thenN ?_
          refine W_condT rfl ?_
          refine W_seq ?_
          refine W_region ?_
          refine wl_q (r_assign (.bool false) rfl) rfl rfl ?_
          refine wl_nil ?_
          refine thenN ?_
          refine W_ret ?_
          refine blkR ?_
          refine thenR ?_
          refine roundR ?_
          refine blkR ?_
          refine thenR ?_
          skip
          refine fin1 (.bool false) rfl ?_
          exact ⟨bF (fun h => by have h2 := h.2 xc (List.mem_of_getElem? hxc); have a := h2.ne; have b := h2.l; have d := h2.h; omega), M4.below⟩
        · skip
          refine wl_q (r_move (.slice _ _ _) rfl) rfl rfl ?_
          refine wl_q (r_fieldAddr 0 fld63_0 rfl) rfl rfl ?_
          refine wl_q (r_fieldAddr 1 fld61_1 rfl) rfl rfl ?_
          refine wl_q (r_ld 0 (.int _ _) one30 M4 rfl rfl rfl) rfl rfl ?_
          refine wl_cal cal48 rfl rfl rfl ?_
          refine (ref06_Find _ xc.high _ _ _ xs (R.mem M4)).mono ?_
          rintro _ w5 ⟨v5, rfl, ⟨rfl, hb5⟩⟩
          refine ⟨_, rfl, ?_⟩
          have M5 := M4.callB hb5
          refine wl_q (r_bin (.bool (decide _)) rfl rfl rfl) rfl rfl ?_
          refine wl_q (r_pick false (.bool (decide _)) rfl rfl) rfl rfl ?_
          refine wl_nil ?_
          refine thenN ?_
          refine W_condD rfl (fun h42 => ?_) (fun h42 => ?_)
          · skip
            refine W_seq ?_
            refine W_region ?_
            refine wl_q (r_assign (.bool false) rfl) rfl rfl ?_
            refine wl_nil ?_
            refine thenN ?_
            refine W_ret ?_
            refine blkR ?_
            refine thenR ?_
            refine roundR ?_
            refine blkR ?_
            refine thenR ?_
            skip
            refine fin1 (.bool false) rfl ?_
            exact ⟨bF (fun h => by have h2 := h.2 xc (List.mem_of_getElem? hxc); have a := h2.ne; have b := h2.l; have d := h2.h; omega), M5.below⟩
          · skip
            refine W_skip ?_
            refine blkN ?_
            refine thenN ?_
            refine W_region ?_
            refine wl_q (r_move (.int _ _) rfl) rfl rfl ?_
            refine wl_q (r_add rfl rfl (by omega) (by omega)) rfl rfl ?_
            refine wl_q (r_assign (.int _ _) rfl) rfl rfl ?_
            refine wl_nil ?_
            refine roundN (k + 1) (agC rfl agN) (akC rfl (akC rfl akN)) ?_ ?_
            · exact ⟨⟨by omega, allNext (p := fun _ x => RightOne xs x) hal hxc ⟨g27, by omega, by omega⟩⟩, M5.keep [false]⟩
            · omega
    · skip
      have hkm : k = m := by omega
      refine W_exit ?_
      refine thenX ?_
      refine roundX ?_
      refine blkH ?_
      refine thenN ?_
      refine W_seq ?_
      refine W_region ?_
      refine wl_q (r_assign (.bool true) rfl) rfl rfl ?_
      refine wl_nil ?_
      refine thenN ?_
      refine W_ret ?_
      skip
      refine fin1 (.bool true) rfl ?_
      exact ⟨bT ⟨by omega, fun x hx => by obtain ⟨j, hj⟩ := List.getElem?_of_mem hx; exact hal j x (by have := (List.getElem?_eq_some_iff.1 hj).1; omega) hj⟩, hM1.below⟩

end Go.Proofs.YtmcddmhkjcgneaaGreatDoor

/- Walks of Go functions over the frame of this claim: what each computes, for every input of the stated types (K25). -/
set_option linter.unusedVariables false
set_option linter.unusedSimpArgs false
set_option linter.unnecessarySimpa false
namespace Go.Proofs.YtmcddmhkjcgneaaGreatDoor
open Go.Bil
open Go.RowKit (Below)
open Go.Proofs

end Go.Proofs.YtmcddmhkjcgneaaGreatDoor
