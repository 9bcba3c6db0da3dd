import Derived.Test.YtmcddmhkjcgneaaGreatDoorK5
import Derived.Test.YtmcddmhkjcgneaaGreatDoorK29
import Derived.Test.YtmcddmhkjcgneaaGreatDoorK23
import Derived.Test.YtmcddmhkjcgneaaGreatDoorK16
import Derived.Test.YtmcddmhkjcgneaaGreatDoorRows
import Derived.Test.YtmcddmhkjcgneaaGreatDoorK30
import Derived.Test.YtmcddmhkjcgneaaGreatDoorTie
import Derived.Test.YtmcddmhkjcgneaaGreatDoorCards
import Derived.WalkKit
import Derived.ProofKit
import Derived.OpenShut
import Derived.ShutString
import Derived.ChangeOld
import Derived.Below
import Derived.SizedLaws
/- Walks of Go functions over the frame of this claim: what each computes, for every input of the stated types (LIslandKeeps). -/
set_option linter.unusedVariables false
set_option linter.unusedSimpArgs false
set_option linter.unnecessarySimpa false
namespace Go.Proofs.YtmcddmhkjcgneaaGreatDoor
open Go.Bil
open Go.RowKit (Below)
open Go.Proofs

set_option maxHeartbeats 16000000 in
theorem law_IslandKeeps (w : World) (F : Rd w 2 (some ⟨1, 0, none⟩) 1 [[.int .u32 73856093, .int .u32 19349663]]) (N : Rd w 4 (some ⟨0, 0, none⟩) 1 [bxCells noneB]) (A : Option Addr) (n c : Nat) (xs : List Body) (R : Rd w 10 A n (xs.map bodyCells)) (B : Option Addr) (mc c' : Nat) (cs : List Con) (R' : Rd w 5 B mc (cs.map conCells)) (hkx : ∀ b ∈ xs, 0 ≤ b.key) :
    Calls Tryz.prog 12 #[.slice A n c, .slice B mc c'] w (fun ex w' => ∃ v, ex = .returned v ∧ (fun v w' => v = .bool true ∧ Below w.heap.size w w') v w') := by
  have hlen : xs.length = n := by simpa using R.len
  have hbd := R.bound
  refine calls_of_W #[.tmp 4] 71 Tryz.func12 rfl Tryz.results12 Tryz.ntmps12 rfl ?_
  have M0 := Mem.refl w
  refine W_seq ?_
  refine W_region ?_
  refine wl_q (r_assign (.bool false) rfl) rfl rfl ?_
  refine wl_nil ?_
  refine thenN ?_
  refine W_seq ?_
  refine W_region ?_
  refine wl_q (r_move (.slice _ _ _) rfl) rfl rfl ?_
  refine wl_cal cal14 rfl rfl rfl ?_
  refine (ref11_View _ _ _ _ xs (R.mem M0)).mono ?_
  rintro _ w1 ⟨v1, rfl, ⟨r, rfl, hr, hM1⟩⟩
  refine ⟨_, rfl, ?_⟩
  have M1 : Mem _ _ [_] _ := M0.call0 hM1
  refine wl_q (r_move (.tuple (List.toArray _)) rfl) rfl rfl ?_
  refine wl_q (r_ext (.slice _ _ _) rfl rfl) rfl rfl ?_
  refine wl_q (r_ext (.bool (decide _)) rfl rfl) rfl rfl ?_
  refine wl_q (r_assign (.slice _ _ _) rfl) rfl rfl ?_
  refine wl_q (r_assign (.bool (decide _)) rfl) rfl rfl ?_
  refine wl_nil ?_
  refine thenN ?_
  refine W_seq ?_
  refine W_seq ?_
  refine W_region ?_
  refine wl_cal cal23 rfl rfl rfl ?_
  refine (aw25 _ (F.mem M1) (N.mem M1)).mono ?_
  rintro _ w2 ⟨v2, rfl, ⟨rfl, hb2⟩⟩
  refine ⟨_, rfl, ?_⟩
  have M2 := M1.callB hb2
  refine wl_q (r_notB false rfl rfl) rfl rfl ?_
  refine wl_q (r_move (.bool false) rfl) rfl rfl ?_
  refine wl_q (r_move (.bool (decide _)) rfl) rfl rfl ?_
  refine wl_q (r_not rfl) rfl rfl ?_
  refine wl_q (r_pick false (.bool (decide _)) rfl rfl) rfl rfl ?_
  refine wl_q (r_move (.bool (decide _)) rfl) rfl rfl ?_
  refine wl_splitD 23 rfl (fun g23 => ?_) (fun g23 => ?_)
  · skip
    refine wl_skip rfl rfl ?_
    refine wl_skip rfl rfl ?_
    refine wl_skip rfl rfl ?_
    refine wl_skip rfl rfl ?_
    refine wl_q (r_pick true (.bool true) rfl rfl) rfl rfl ?_
    refine wl_nil ?_
    refine thenN ?_
    refine W_condT rfl ?_
    refine W_seq ?_
    refine W_region ?_
    refine wl_cal cal23 rfl rfl rfl ?_
    refine (aw25 _ (F.mem M2) (N.mem M2)).mono ?_
    rintro _ w3 ⟨v3, rfl, ⟨rfl, hb3⟩⟩
    refine ⟨_, rfl, ?_⟩
    have M3 := M2.callB hb3
    refine wl_q (r_assign (.bool true) rfl) rfl rfl ?_
    refine wl_nil ?_
    refine thenN ?_
    refine W_ret ?_
    refine thenR ?_
    skip
    refine fin1 (.bool true) rfl ?_
    exact ⟨rfl, M3.below⟩
  · skip
    refine wl_q (r_move (.slice _ _ _) rfl) rfl rfl ?_
    refine wl_q (r_move (.slice _ _ _) rfl) rfl rfl ?_
    refine wl_cal cal24 rfl rfl rfl ?_
    refine (ref25_Right _ _ _ _ (viewL xs) (hr.rd M2 (nthMem (i := 0) rfl)) _ _ _ cs (R'.mem M2)).mono ?_
    rintro _ w4 ⟨v4, rfl, ⟨rfl, hb4⟩⟩
    refine ⟨_, rfl, ?_⟩
    have M4 := M2.callB hb4
    refine wl_q (r_not rfl) rfl rfl ?_
    refine wl_q (r_pick false (.bool (decide _)) rfl rfl) rfl rfl ?_
    refine wl_nil ?_
    refine thenN ?_
    refine W_condD rfl (fun h28 => ?_) (fun h28 => ?_)
    · skip
      refine W_seq ?_
      refine W_region ?_
      refine wl_cal cal23 rfl rfl rfl ?_
      refine (aw25 _ (F.mem M4) (N.mem M4)).mono ?_
      rintro _ w5 ⟨v5, rfl, ⟨rfl, hb5⟩⟩
      refine ⟨_, rfl, ?_⟩
      have M5 := M4.callB hb5
      refine wl_q (r_assign (.bool true) rfl) rfl rfl ?_
      refine wl_nil ?_
      refine thenN ?_
      refine W_ret ?_
      refine thenR ?_
      skip
      refine fin1 (.bool true) rfl ?_
      exact ⟨rfl, M5.below⟩
    · skip
      obtain ⟨hV, hve, hvk⟩ := view_of (Decidable.not_not.1 g23)
      have hvl := hV.len
      have hrn : (viewL xs).length = r.n := by simpa using hr.1
      have hvs := hV.s
      have hvo := hV.okb
      have hrt := Decidable.not_not.1 h28
      have hcs := hrt.1
      have hvn : ∀ b ∈ (viewL xs), 0 ≤ b.key := fun b hb => hkx b (by rw [hve] at hb; exact (sortB_perm xs).mem_iff.1 hb)
      have hclen : cs.length = mc := by simpa using R'.len
      have hbd' := R'.bound
      have hfs := fun l => @forest_fst (viewL xs) hvn l
      refine W_skip ?_
      refine thenN ?_
      refine W_seq ?_
      refine W_region ?_
      refine wl_bslice [] [] rfl sl22 M4 rfl rfl rfl rfl (lens_of rfl) (by decide) (fun b6 w6 M6 => ?_)
      refine wl_q (r_move (.slice _ _ _) rfl) rfl rfl ?_
      refine wl_appendR 1 ((viewL xs).map bodyCells) sl22 M6 rfl rfl rfl rfl rfl (RowIs.empty b6) (hr.rd M6 (nthMem (i := 0) rfl)) (bodies_one (viewL xs)) (by omega) (fun A7 c7 e7 w7 M7 hR7 hA7 => ?_)
      have hOwn1 := hR7
      rw [List.nil_append] at hOwn1
      refine wl_q (r_assign (.slice _ _ _) rfl) rfl rfl ?_
      refine wl_nil ?_
      refine thenN ?_
      refine W_seq ?_
      refine W_region ?_
      refine wl_bslice [] [] rfl sl45 M7 rfl rfl rfl rfl (lens_of rfl) (by decide) (fun b8 w8 M8 => ?_)
      refine wl_q (r_move (.slice _ _ _) rfl) rfl rfl ?_
      refine wl_appendR 2 (cs.map conCells) sl45 M8 rfl rfl rfl rfl rfl (RowIs.empty b8) (R'.mem M8) (cons_one cs) (by omega) (fun A9 c9 e9 w9 M9 hR9 hA9 => ?_)
      have hOwn2 := hR9
      rw [List.nil_append] at hOwn2
      refine wl_q (r_assign (.slice _ _ _) rfl) rfl rfl ?_
      refine wl_nil ?_
      refine thenN ?_
      refine W_seq ?_
      refine W_region ?_
      refine wl_q (r_move (.slice _ _ _) rfl) rfl rfl ?_
      refine wl_q (r_move (.slice _ _ _) rfl) rfl rfl ?_
      refine wl_cal cal26 rfl rfl rfl ?_
      refine (isl_Of _ _ _ _ (viewL xs) (hOwn1.rd M9 (nthMem (i := 1) rfl)) _ _ _ cs (hOwn2.rd M9 (nthMem (i := 2) rfl)) hvo hvs (by omega) hvn).mono ?_
      rintro _ w10 ⟨v10, rfl, ⟨q0, rs0, rfl, hq0, hI0, hM10⟩⟩
      refine ⟨_, rfl, ?_⟩
      have M10 : Mem _ _ ([_, _, _, _] ++ _) _ := Mem.front (L := [_, _, _]) (M9.call0T (A := [_]) hM10)
      have hIl0 := hI0.len
      have hqn0 : rs0.length = q0.n := by simpa using hq0.1
      obtain ⟨L0, hL0⟩ : ∃ L, (islL (forestOf (viewL xs) cs) (viewL xs)) = L := ⟨_, rfl⟩
      rw [hL0] at hI0 hIl0
      have hqb0 := hq0.2.2.1
      refine wl_q (r_assign (.slice _ _ _) rfl) rfl rfl ?_
      refine wl_nil ?_
      refine thenN ?_
      refine W_seq ?_
      refine W_seq ?_
      refine W_region ?_
      refine wl_q (r_assign (.int _ _) rfl) rfl rfl ?_
      refine wl_nil ?_
      refine thenN ?_
      refine W_block ?_
      refine W_loop (σ := Nat × List Row × List (List Int)) [1, 4, 5, 7, 8, 9] (fun (i, rs, L) => [(10, .int .i64 (i : Int))]) (fun (i, rs, L) w' => (i ≤ q0.n ∧ rs.map hdr = rs0.map hdr ∧ IslR 30 rs L) ∧ Mem w [] ([r.e, e7, e9, q0.e] ++ rs.map Row.e) w') (fun (i, rs, L) => q0.n - i) (0, rs0, L0) (agC rfl agN) (⟨⟨by omega, rfl, hI0⟩, M10⟩) ?_
      rintro ⟨i, rs, L⟩ ρ11 w11 ⟨⟨hi, hhd, hIs⟩, hM11⟩
      have hrl : rs.length = rs0.length := by simpa using congrArg List.length hhd
      refine W_seq ?_
      refine W_seq ?_
      refine W_region ?_
      refine wl_q (r_move (.int _ _) rfl) rfl rfl ?_
      refine wl_q (r_move (.slice _ _ _) rfl) rfl rfl ?_
      refine wl_q (r_lenS Tryz.underlying50 rfl) rfl rfl ?_
      refine wl_q (r_bin (.bool (decide _)) rfl rfl rfl) rfl rfl ?_
      refine wl_nil ?_
      refine thenN ?_
      refine W_condD rfl (fun h42 => ?_) (fun h42 => ?_)
      · skip
        obtain ⟨r1, hr1⟩ := getSome (xs := rs0) (k := i) hqn0 (by omega)
        refine W_skip ?_
        refine thenN ?_
        refine W_seq ?_
        refine W_block ?_
        refine W_seq ?_
        refine W_region ?_
        refine wl_q (r_assign (.int _ _) rfl) rfl rfl ?_
        refine wl_nil ?_
        refine thenN ?_
        refine W_block ?_
        refine W_loop (σ := Nat × List Row × List (List Int)) [1, 4, 5, 7, 8, 9, 10] (fun (k, rs, L) => [(11, .int .i64 (k : Int))]) (fun (k, rs, L) w' => (k ≤ r1.n ∧ rs.map hdr = rs0.map hdr ∧ IslR 30 rs L) ∧ Mem w [] ([r.e, e7, e9, q0.e] ++ rs.map Row.e) w') (fun (k, rs, L) => r1.n - k) (0, rs, L) (agC rfl agN) (⟨⟨by omega, hhd, hIs⟩, hM11⟩) ?_
        rintro ⟨k, rs, L⟩ ρ12 w12 ⟨⟨hk, hhd, hIs⟩, hM12⟩
        have hrl : rs.length = rs0.length := by simpa using congrArg List.length hhd
        have hIL := hIs.len
        obtain ⟨rc, hrc, cA, cn, cc⟩ := hdr_at hhd hr1
        obtain ⟨lc, hlc⟩ := getSome (xs := L) (k := i) hIL.symm (by omega)
        have hrowc : RowIs 30 1 r1.A r1.n r1.c (lc.map keyCell) rc.e := by rw [← cA, ← cn, ← cc]; exact hIs.row _ _ _ hrc hlc
        have hr1b := hrowc.2.2.1
        refine W_seq ?_
        refine W_seq ?_
        refine W_region ?_
        refine wl_q (r_move (.int _ _) rfl) rfl rfl ?_
        refine wl_q (r_move (.slice _ _ _) rfl) rfl rfl ?_
        refine wl_q (r_move (.int _ _) rfl) rfl rfl ?_
        refine wl_q (r_idxR (i) sl50 rfl rfl rfl ((hq0.rd hM12 (nthMem (i := 3) rfl)).below_len (mapGet hdr hr1)) ((hq0.rd hM12 (nthMem (i := 3) rfl)).someK (mapGet hdr hr1))) rfl rfl ?_
        refine wl_q (r_ldE0 (.slice _ _ _) one52 (hq0.rd hM12 (nthMem (i := 3) rfl)) (mapGet hdr hr1) rfl) rfl rfl ?_
        refine wl_q (r_lenS Tryz.underlying52 rfl) rfl rfl ?_
        refine wl_q (r_bin (.bool (decide _)) rfl rfl rfl) rfl rfl ?_
        refine wl_nil ?_
        refine thenN ?_
        refine W_condD rfl (fun h51 => ?_) (fun h51 => ?_)
        · skip
          refine W_skip ?_
          refine thenN ?_
          refine W_seq ?_
          refine W_block ?_
          refine W_region ?_
          obtain ⟨rb, hrb, eA, en, ec⟩ := hdr_at hhd hr1
          obtain ⟨lb, hlb⟩ := getSome (xs := L) (k := i) hIL.symm (by omega)
          have hrowb : RowIs 30 1 r1.A r1.n r1.c (lb.map keyCell) rb.e := by rw [← eA, ← en, ← ec]; exact hIs.row _ _ _ hrb hlb
          have hlbn : lb.length = r1.n := by simpa using hrowb.1
          obtain ⟨zk, hzk⟩ := getSome (xs := lb) (k := k) hlbn (by omega)
          have M13 : Mem _ _ ([_, _, _, _, _] ++ (rs.eraseIdx i).map Row.e) _ := Mem.pull (L := [_, _, _, _]) (rs := rs) hM12 hrb
          refine wl_q (r_move (.slice _ _ _) rfl) rfl rfl ?_
          refine wl_q (r_move (.int _ _) rfl) rfl rfl ?_
          refine wl_q (r_idxR (i) sl50 rfl rfl rfl ((hq0.rd M13 (nthMem (i := 3) rfl)).below_len (mapGet hdr hr1)) ((hq0.rd M13 (nthMem (i := 3) rfl)).someK (mapGet hdr hr1))) rfl rfl ?_
          refine wl_q (r_ldE0 (.slice _ _ _) one52 (hq0.rd M13 (nthMem (i := 3) rfl)) (mapGet hdr hr1) rfl) rfl rfl ?_
          refine wl_q (r_move (.int _ _) rfl) rfl rfl ?_
          refine wl_q (r_idxR (k) sl52 rfl rfl rfl ((hrowb.rd M13 (nthMem (i := 4) rfl)).below_len (mapGet keyCell hzk)) ((hrowb.rd M13 (nthMem (i := 4) rfl)).someK (mapGet keyCell hzk))) rfl rfl ?_
          refine wl_q (r_ldE0 (.int _ _) one30 (hrowb.rd M13 (nthMem (i := 4) rfl)) (mapGet keyCell hzk) rfl) rfl rfl ?_
          refine wl_q (r_bin (.int _ _) rfl rfl rfl) rfl rfl ?_
          refine wl_q (r_idxR (k) sl52 rfl rfl rfl ((hrowb.rd M13 (nthMem (i := 4) rfl)).below_len (mapGet keyCell hzk)) ((hrowb.rd M13 (nthMem (i := 4) rfl)).someK (mapGet keyCell hzk))) rfl rfl ?_
          refine wl_stR0 4 (.int _ _) one30 M13 rfl hrowb (mapGet keyCell hzk) rfl rfl rfl rfl (fun e14 w14 hR14 M14 => ?_)
          have hQ14 := hR14.mapSet (f := keyCell) (x := IntKind.wrap .u32 (zk + 1)) rfl
          refine wl_nil ?_
          refine blkN ?_
          refine thenN ?_
          refine W_region ?_
          refine wl_q (r_move (.int _ _) rfl) rfl rfl ?_
          refine wl_q (r_add rfl rfl (by omega) (by omega)) rfl rfl ?_
          refine wl_q (r_assign (.int _ _) rfl) rfl rfl ?_
          refine wl_nil ?_
          refine roundN (k + 1, rs.set i ⟨r1.A, r1.n, r1.c, e14⟩, L.set i (lb.set k (IntKind.wrap .u32 (zk + 1)))) (agC rfl agN) (akC rfl (akC rfl (akC rfl (akC rfl (akC rfl (akC rfl (akC rfl akN))))))) ?_ ?_
          · exact ⟨⟨by omega, hdr_set hhd hr1 rfl, hIs.put (r := ⟨r1.A, r1.n, r1.c, e14⟩) (by omega) hQ14⟩, Mem.push (L := [_, _, _, _]) (rs := rs) ⟨r1.A, r1.n, r1.c, e14⟩ M14 (by omega)⟩
          · (show r1.n - (k + 1) < r1.n - k; omega)
        · skip
          refine W_exit ?_
          refine thenX ?_
          refine roundX ?_
          refine blkH ?_
          refine blkN ?_
          refine thenN ?_
          refine W_region ?_
          refine wl_q (r_move (.int _ _) rfl) rfl rfl ?_
          refine wl_q (r_add rfl rfl (by omega) (by omega)) rfl rfl ?_
          refine wl_q (r_assign (.int _ _) rfl) rfl rfl ?_
          refine wl_nil ?_
          refine roundN (i + 1, rs, L) (agC rfl agN) (akC rfl (akC rfl (akC rfl (akC rfl (akC rfl (akC rfl akN)))))) ?_ ?_
          · exact ⟨⟨by omega, hhd, hIs⟩, hM12⟩
          · (show q0.n - (i + 1) < q0.n - i; omega)
      · skip
        refine W_exit ?_
        refine thenX ?_
        refine roundX ?_
        refine blkH ?_
        refine thenN ?_
        refine W_seq ?_
        refine W_region ?_
        refine wl_q (r_move (.slice _ _ _) rfl) rfl rfl ?_
        refine wl_q (r_move (.slice _ _ _) rfl) rfl rfl ?_
        refine wl_cal cal31 rfl rfl rfl ?_
        refine (ref06_Same _ _ _ _ (viewL xs) (hOwn1.rd hM11 (nthMem (i := 1) rfl)) _ _ _ (viewL xs) (hr.rd hM11 (nthMem (i := 0) rfl))).mono ?_
        rintro _ w15 ⟨v15, rfl, ⟨rfl, hb15⟩⟩
        refine ⟨_, rfl, ?_⟩
        have M15 := hM11.callB hb15
        refine wl_re 65 (.bool true) (bT rfl).symm ?_
        refine wl_q (r_move (.bool true) rfl) rfl rfl ?_
        refine wl_q (r_move (.slice _ _ _) rfl) rfl rfl ?_
        refine wl_q (r_move (.slice _ _ _) rfl) rfl rfl ?_
        refine wl_cal cal32 rfl rfl rfl ?_
        refine (ref15_Same _ _ _ _ cs (hOwn2.rd M15 (nthMem (i := 2) rfl)) _ _ _ cs (R'.mem M15)).mono ?_
        rintro _ w16 ⟨v16, rfl, ⟨rfl, hb16⟩⟩
        refine ⟨_, rfl, ?_⟩
        have M16 := M15.callB hb16
        refine wl_re 69 (.bool true) (bT rfl).symm ?_
        refine wl_q (r_pick true (.bool true) rfl rfl) rfl rfl ?_
        refine wl_q (r_assign (.bool true) rfl) rfl rfl ?_
        refine wl_nil ?_
        refine thenN ?_
        refine W_ret ?_
        skip
        refine fin1 (.bool true) rfl ?_
        exact ⟨rfl, M16.below⟩

end Go.Proofs.YtmcddmhkjcgneaaGreatDoor

set_option linter.unusedVariables false
set_option linter.unusedSimpArgs false
set_option linter.unnecessarySimpa false
namespace Go.Proofs.YtmcddmhkjcgneaaGreatDoor
open Go.Bil
open Go.RowKit (Below)
open Go.Proofs

namespace islandKeeps
open Go.ChangeShapes Go.WideShapes Go.ChangeAt Go.RowKit
open Go.ChangeMaps (open_string shut_string)
theorem own : ownKnob Tryz.prog.godebug = none := by kernel_rfl
theorem laidOut : laidOutB Tryz.prog = true := by kernel_rfl
set_option maxRecDepth 100000 in
theorem lifted (os : Os) (started : os.Started) (H : Type) (enc : TypeId × Value → H) :
    ReturnsInHanded {} Tryz.checked os 12 .any (fun w args => (Rows.islandKeepsSpec.pre enc Tryz.prog Tryz.f12 [] false w args ∧ laidMet Tryz.prog laidL w) ∧ sizedMet enc Tryz.prog Tryz.f12 (OpenSpec.ofChange Rows.islandKeepsSpec) false w args) (Rows.islandKeepsSpec.post enc Tryz.prog Tryz.f12 false true false false) := by
  refine returnsInHanded_of_change_and (C := Tryz.checked) (X := fun w _ => laidMet Tryz.prog laidL w) (fun _ _ _ hh h => h.of_heap hh) own started (by kernel_rfl) Tryz.func12
    (ChangeSpec.witness_at (enc := enc) (C := Tryz.checked) (os := os) (X := fun w _ => laidMet Tryz.prog laidL w) false (laidWorld os) #[.slice none 0 0, .slice none 0 0] 8 rfl (by kernel_rfl) (by kernel_rfl) (by kernel_rfl) (by kernel_rfl) (by kernel_rfl) (laidMet_of_run' 8 (by kernel_rfl) (by kernel_rfl))) ?_
  intro W base args ds gs before hval0 hW hcnd hsz0 hL _
  have hsz : (DataW.weightsEach Tryz.prog (Tryz.f12.params.toList ++ Rows.islandKeepsSpec.plain.varTypes Tryz.prog) (ds ++ gs)).all (· ≤ reachBytes) = true := hsz0
  have hval : ∀ (j : Nat) t v, Tryz.f12.params[j]? = some t → args[j]? = some v → Value.okWide Tryz.prog W .any base t v := hval0
  have hW' := hW
  obtain ⟨p, q, hA0, hV, rfl, hfz, hnd⟩ := hW
  have hA : DataW.TrodAll enc Tryz.prog W 0 (fun _ => true) true Tryz.f12.params.toList args.toList ds p := hA0
  rw [Tryz.params12] at hA hval hsz
  obtain ⟨v0, vs0, d0, ds0, p0, q0, hargs, rfl, rfl, h0, r0⟩ := trodAll_cons hA
  obtain ⟨v1, vs1, d1, ds1, p1, q1, rfl, rfl, rfl, h1, r1⟩ := trodAll_cons r0
  obtain ⟨rfl, rfl, rfl⟩ := trodAll_nil r1
  obtain rfl : args = #[v0, v1] := by cases args; simp_all
  obtain ⟨rfl, rfl⟩ := trodVars_none hV
  have k0 := h0
  have lt0 : ∀ x ∈ p0, x.block < W.heap.size := by obtain ⟨m, hm⟩ := k0; exact DataW.trod_lt m _ _ _ hm
  obtain ⟨a0, len0, cap0, rfl⟩ := okWide_slice Tryz.underlying22 (hval 0 22 v0 rfl rfl)
  have y0 := sized_rows hsz (j := 0) (t := 22) rfl rfl sl22 h0
  obtain ⟨ls0, R0, hi0⟩ := open_rows sl22 leaves32 rfl y0 h0
  obtain ⟨xs0, rfl, hx0⟩ := list_of bodyOf ls0 hi0
  have k1 := h1
  have lt1 : ∀ x ∈ p1, x.block < W.heap.size := by obtain ⟨m, hm⟩ := k1; exact DataW.trod_lt m _ _ _ hm
  obtain ⟨a1, len1, cap1, rfl⟩ := okWide_slice Tryz.underlying45 (hval 1 45 v1 rfl rfl)
  have y1 := sized_rows hsz (j := 1) (t := 45) rfl rfl sl45 h1
  obtain ⟨ls1, R1, hi1⟩ := open_rows sl45 leaves63 rfl y1 h1
  obtain ⟨xs1, rfl, hx1⟩ := list_of conOf5 ls1 hi1
  clear hA0 hval0 hsz0 hsz
  refine (law_IslandKeeps W (rdF hL) (rdN hL) _ _ _ xs0 R0 _ _ _ xs1 R1 (fun b hb => (hx0 b hb).key.1)).mono fun e W' ⟨v, he, hv, bel⟩ => ?_
  subst he
  subst hv
  exact ⟨_, rfl, _, _, _, [], _, [], hW', trodAll_mk1 (shut_bool Tryz.underlying4 _), (trodAll_cons_mk (Below.trod laidOut (by kernel_rfl) (of_decide_eq_true (by kernel_rfl)) k0 bel lt0) (trodAll_cons_mk (Below.trod laidOut (by kernel_rfl) (of_decide_eq_true (by kernel_rfl)) k1 bel lt1) trodAll_mk0)), rfl, bel.frame _, fun h => by cases h⟩
theorem over : Rows.islandKeepsRow.holds Tryz.pinned (OpenSpec.ofChange Rows.islandKeepsSpec) :=
  OpenClaim.holds_of_wide 12 Tryz.f12 rfl rfl rfl rfl rfl rfl rfl ⟨rfl, rfl, rfl, rfl, rfl⟩ rfl rfl rfl rfl rfl (by kernel_rfl) Tryz.func12 (by kernel_rfl)
    (of_decide_eq_true (by kernel_rfl)) (by unfold Func.isWrapper; first | (rw [if_pos (by decide +kernel)]; kernel_rfl) | (rw [if_neg (by decide +kernel)]; exact ⟨rfl, rfl⟩))
    (fun os started H enc _ => lifted os started H enc)
end islandKeeps
theorem islandKeeps_holds : Rows.IslandKeepsSaid := islandKeeps.over
#print axioms islandKeeps_holds
theorem islandKeeps_card : Rows.IslandKeepsCardSaid :=
  Claim7.holds_tied_plain_at .later [] [.data, .data] true (true, "9f8295c113a943455c4832a95346352d7118fae4d0dcf065aaf106ad8bcb4f65") false
    islandKeeps_holds (fun _ h => by cases h) (by kernel_rfl) (fun _ h => by cases h) islandKeeps_row_tie rfl ⟨rfl, rfl⟩ (by kernel_rfl) rfl
    (fun f fn hf hfn => by
      obtain rfl : f = 12 := Option.some.inj ((show Tryz.prog.funcNamed "billiard/billiardlaw25.IslandKeeps" = some 12 by kernel_rfl).symm.trans hf) |>.symm
      obtain rfl : fn = Tryz.f12 := (Option.some.inj (Tryz.func12.symm.trans hfn)).symm
      exact ⟨by kernel_rfl, fun j t ht => by
        rw [Tryz.params12] at ht
        have hm : t ∈ [22, 45] := by simpa using Array.mem_of_getElem? ht
        have hall : ([22, 45].all fun u => !Tryz.prog.wantsStandIn u) = true := by kernel_rfl
        exact (show Tryz.prog.wantsStandIn t = false by simpa using List.all_eq_true.1 hall t hm)⟩)
    (by kernel_rfl)
#print axioms islandKeeps_card

end Go.Proofs.YtmcddmhkjcgneaaGreatDoor
