import Derived.Test.YtmcddmhkjcgneaaGreatDoorK5
import Derived.Test.YtmcddmhkjcgneaaGreatDoorK29
import Derived.Test.YtmcddmhkjcgneaaGreatDoorK23
import Derived.Test.YtmcddmhkjcgneaaGreatDoorK16
import Derived.Test.YtmcddmhkjcgneaaGreatDoorRows
import Derived.Test.YtmcddmhkjcgneaaGreatDoorK30
import Derived.Test.YtmcddmhkjcgneaaGreatDoorTie
import Derived.Test.YtmcddmhkjcgneaaGreatDoorCards
import Derived.WalkKit
import Derived.ProofKit
import Derived.OpenShut
import Derived.ShutString
import Derived.ChangeOld
import Derived.Below
import Derived.SizedLaws
/- Walks of Go functions over the frame of this claim: what each computes, for every input of the stated types (LIslandOrder). -/
set_option linter.unusedVariables false
set_option linter.unusedSimpArgs false
set_option linter.unnecessarySimpa false
namespace Go.Proofs.YtmcddmhkjcgneaaGreatDoor
open Go.Bil
open Go.RowKit (Below)
open Go.Proofs

set_option maxHeartbeats 16000000 in
theorem law_IslandOrder (w : World) (F : Rd w 2 (some ⟨1, 0, none⟩) 1 [[.int .u32 73856093, .int .u32 19349663]]) (N : Rd w 4 (some ⟨0, 0, none⟩) 1 [bxCells noneB]) (A : Option Addr) (n c : Nat) (xs : List Body) (R : Rd w 10 A n (xs.map bodyCells)) (B : Option Addr) (mc c' : Nat) (cs : List Con) (R' : Rd w 5 B mc (cs.map conCells)) (hkx : ∀ b ∈ xs, 0 ≤ b.key) (f : Nat) (hf : f ≤ 255) :
    Calls Tryz.prog 10 #[.slice A n c, .slice B mc c', .int .u8 (f : Int)] w (fun ex w' => ∃ v, ex = .returned v ∧ (fun v w' => v = .bool true ∧ Below w.heap.size w w') v w') := by
  have hlen : xs.length = n := by simpa using R.len
  have hbd := R.bound
  refine calls_of_W #[.tmp 6] 78 Tryz.func10 rfl Tryz.results10 Tryz.ntmps10 rfl ?_
  have M0 := Mem.refl w
  refine W_seq ?_
  refine W_region ?_
  refine wl_q (r_assign (.bool false) rfl) rfl rfl ?_
  refine wl_nil ?_
  refine thenN ?_
  refine W_seq ?_
  refine W_region ?_
  refine wl_q (r_move (.slice _ _ _) rfl) rfl rfl ?_
  refine wl_cal cal14 rfl rfl rfl ?_
  refine (ref11_View _ _ _ _ xs (R.mem M0)).mono ?_
  rintro _ w1 ⟨v1, rfl, ⟨r, rfl, hr, hM1⟩⟩
  refine ⟨_, rfl, ?_⟩
  have M1 : Mem _ _ [_] _ := M0.call0 hM1
  refine wl_q (r_move (.tuple (List.toArray _)) rfl) rfl rfl ?_
  refine wl_q (r_ext (.slice _ _ _) rfl rfl) rfl rfl ?_
  refine wl_q (r_ext (.bool (decide _)) rfl rfl) rfl rfl ?_
  refine wl_q (r_assign (.slice _ _ _) rfl) rfl rfl ?_
  refine wl_q (r_assign (.bool (decide _)) rfl) rfl rfl ?_
  refine wl_nil ?_
  refine thenN ?_
  refine W_seq ?_
  refine W_seq ?_
  refine W_region ?_
  refine wl_cal cal23 rfl rfl rfl ?_
  refine (aw25 _ (F.mem M1) (N.mem M1)).mono ?_
  rintro _ w2 ⟨v2, rfl, ⟨rfl, hb2⟩⟩
  refine ⟨_, rfl, ?_⟩
  have M2 := M1.callB hb2
  refine wl_q (r_notB false rfl rfl) rfl rfl ?_
  refine wl_q (r_move (.bool false) rfl) rfl rfl ?_
  refine wl_q (r_move (.bool (decide _)) rfl) rfl rfl ?_
  refine wl_q (r_not rfl) rfl rfl ?_
  refine wl_q (r_pick false (.bool (decide _)) rfl rfl) rfl rfl ?_
  refine wl_q (r_move (.bool (decide _)) rfl) rfl rfl ?_
  refine wl_splitD 24 rfl (fun g24 => ?_) (fun g24 => ?_)
  · skip
    refine wl_skip rfl rfl ?_
    refine wl_skip rfl rfl ?_
    refine wl_skip rfl rfl ?_
    refine wl_skip rfl rfl ?_
    refine wl_q (r_pick true (.bool true) rfl rfl) rfl rfl ?_
    refine wl_q (r_move (.bool true) rfl) rfl rfl ?_
    refine wl_skip rfl rfl ?_
    refine wl_skip rfl rfl ?_
    refine wl_skip rfl rfl ?_
    refine wl_q (r_pick true (.bool true) rfl rfl) rfl rfl ?_
    refine wl_nil ?_
    refine thenN ?_
    refine W_condT rfl ?_
    refine W_seq ?_
    refine W_region ?_
    refine wl_cal cal23 rfl rfl rfl ?_
    refine (aw25 _ (F.mem M2) (N.mem M2)).mono ?_
    rintro _ w3 ⟨v3, rfl, ⟨rfl, hb3⟩⟩
    refine ⟨_, rfl, ?_⟩
    have M3 := M2.callB hb3
    refine wl_q (r_assign (.bool true) rfl) rfl rfl ?_
    refine wl_nil ?_
    refine thenN ?_
    refine W_ret ?_
    refine thenR ?_
    skip
    refine fin1 (.bool true) rfl ?_
    exact ⟨rfl, M3.below⟩
  · skip
    refine wl_q (r_move (.slice _ _ _) rfl) rfl rfl ?_
    refine wl_q (r_move (.slice _ _ _) rfl) rfl rfl ?_
    refine wl_cal cal24 rfl rfl rfl ?_
    refine (ref25_Right _ _ _ _ (viewL xs) (hr.rd M2 (nthMem (i := 0) rfl)) _ _ _ cs (R'.mem M2)).mono ?_
    rintro _ w4 ⟨v4, rfl, ⟨rfl, hb4⟩⟩
    refine ⟨_, rfl, ?_⟩
    have M4 := M2.callB hb4
    refine wl_q (r_not rfl) rfl rfl ?_
    refine wl_q (r_pick false (.bool (decide _)) rfl rfl) rfl rfl ?_
    refine wl_q (r_move (.bool (decide _)) rfl) rfl rfl ?_
    refine wl_splitD 30 rfl (fun g30 => ?_) (fun g30 => ?_)
    · skip
      refine wl_skip rfl rfl ?_
      refine wl_skip rfl rfl ?_
      refine wl_skip rfl rfl ?_
      refine wl_q (r_pick true (.bool true) rfl rfl) rfl rfl ?_
      refine wl_nil ?_
      refine thenN ?_
      refine W_condT rfl ?_
      refine W_seq ?_
      refine W_region ?_
      refine wl_cal cal23 rfl rfl rfl ?_
      refine (aw25 _ (F.mem M4) (N.mem M4)).mono ?_
      rintro _ w5 ⟨v5, rfl, ⟨rfl, hb5⟩⟩
      refine ⟨_, rfl, ?_⟩
      have M5 := M4.callB hb5
      refine wl_q (r_assign (.bool true) rfl) rfl rfl ?_
      refine wl_nil ?_
      refine thenN ?_
      refine W_ret ?_
      refine thenR ?_
      skip
      refine fin1 (.bool true) rfl ?_
      exact ⟨rfl, M5.below⟩
    · skip
      refine wl_q (r_move (.slice _ _ _) rfl) rfl rfl ?_
      refine wl_q (r_lenS Tryz.underlying45 rfl) rfl rfl ?_
      refine wl_q (r_bin (.bool (decide _)) rfl rfl rfl) rfl rfl ?_
      refine wl_q (r_pick false (.bool (decide _)) rfl rfl) rfl rfl ?_
      refine wl_nil ?_
      refine thenN ?_
      refine W_condD rfl (fun h34 => ?_) (fun h34 => ?_)
      · skip
        refine W_seq ?_
        refine W_region ?_
        refine wl_cal cal23 rfl rfl rfl ?_
        refine (aw25 _ (F.mem M4) (N.mem M4)).mono ?_
        rintro _ w6 ⟨v6, rfl, ⟨rfl, hb6⟩⟩
        refine ⟨_, rfl, ?_⟩
        have M6 := M4.callB hb6
        refine wl_q (r_assign (.bool true) rfl) rfl rfl ?_
        refine wl_nil ?_
        refine thenN ?_
        refine W_ret ?_
        refine thenR ?_
        skip
        refine fin1 (.bool true) rfl ?_
        exact ⟨rfl, M6.below⟩
      · skip
        obtain ⟨hV, hve, hvk⟩ := view_of (Decidable.not_not.1 g24)
        have hvl := hV.len
        have hrn : (viewL xs).length = r.n := by simpa using hr.1
        have hvs := hV.s
        have hvo := hV.okb
        have hrt := Decidable.not_not.1 g30
        have hcs := hrt.1
        have hvn : ∀ b ∈ (viewL xs), 0 ≤ b.key := fun b hb => hkx b (by rw [hve] at hb; exact (sortB_perm xs).mem_iff.1 hb)
        have hclen : cs.length = mc := by simpa using R'.len
        have hbd' := R'.bound
        have hfs := fun l => @forest_fst (viewL xs) hvn l
        obtain ⟨kk, hkk⟩ : ∃ kk : Nat, kk = f % mc := ⟨_, rfl⟩
        have hkl : kk < mc := by rw [hkk]; exact Nat.mod_lt _ (by omega)
        refine W_skip ?_
        refine thenN ?_
        refine W_seq ?_
        refine W_region ?_
        refine wl_q (r_move (.int _ _) rfl) rfl rfl ?_
        refine wl_q (r_convK us5 Tryz.underlying3 rfl (w64 _ (by omega) (by omega))) rfl rfl ?_
        refine wl_q (r_move (.slice _ _ _) rfl) rfl rfl ?_
        refine wl_q (r_lenS Tryz.underlying45 rfl) rfl rfl ?_
        refine wl_q (r_rem rfl rfl (by omega)) rfl rfl ?_
        refine wl_re 40 (.int .i64 (kk : Int)) (iE (tmod_nat rfl hkk)) ?_
        refine wl_q (r_assign (.int _ _) rfl) rfl rfl ?_
        refine wl_nil ?_
        refine thenN ?_
        refine W_seq ?_
        refine W_region ?_
        refine wl_q (r_assign (.slice _ _ _) rfl) rfl rfl ?_
        have M7 := M4.dummy default
        refine wl_nil ?_
        refine thenN ?_
        refine W_seq ?_
        refine W_seq ?_
        refine W_region ?_
        refine wl_q (r_assign (.int _ _) rfl) rfl rfl ?_
        refine wl_nil ?_
        refine thenN ?_
        refine W_block ?_
        refine W_loop (σ := Nat × Row) [1, 6, 7, 9] (fun (i, q) => [(10, .slice q.A q.n q.c), (11, .int .i64 (i : Int))]) (fun (i, q) w' => (i ≤ mc ∧ RowIs 63 5 q.A q.n q.c ((turnC cs kk i).map conCells) q.e) ∧ Mem w [] [r.e, q.e] w') (fun (i, q) => mc - i) (0, nilRow) (agC rfl (agC rfl agN)) (⟨⟨by omega, RowIs.nil _ _ _⟩, M7⟩) ?_
        rintro ⟨i, q⟩ ρ8 w8 ⟨⟨hi, hq⟩, hM8⟩
        have hqn : i = q.n := by simpa [turnC_len] using hq.1
        refine W_seq ?_
        refine W_seq ?_
        refine W_region ?_
        refine wl_q (r_move (.int _ _) rfl) rfl rfl ?_
        refine wl_q (r_move (.slice _ _ _) rfl) rfl rfl ?_
        refine wl_q (r_lenS Tryz.underlying45 rfl) rfl rfl ?_
        refine wl_q (r_bin (.bool (decide _)) rfl rfl rfl) rfl rfl ?_
        refine wl_nil ?_
        refine thenN ?_
        refine W_condD rfl (fun h44 => ?_) (fun h44 => ?_)
        · skip
          have hml := Nat.mod_lt (kk + mc - i) (show mc > 0 by omega)
          obtain ⟨xc, hxc⟩ := getSome (xs := cs) (k := ((kk + mc - i) % mc)) hclen hml
          refine W_skip ?_
          refine thenN ?_
          refine W_seq ?_
          refine W_block ?_
          refine W_seq ?_
          refine W_region ?_
          refine wl_q (r_move (.slice _ _ _) rfl) rfl rfl ?_
          refine wl_q (r_move (.int _ _) rfl) rfl rfl ?_
          refine wl_q (r_move (.slice _ _ _) rfl) rfl rfl ?_
          refine wl_q (r_lenS Tryz.underlying45 rfl) rfl rfl ?_
          refine wl_q (r_add rfl rfl (by omega) (by omega)) rfl rfl ?_
          refine wl_q (r_move (.int _ _) rfl) rfl rfl ?_
          refine wl_q (r_sub rfl rfl (by omega) (by omega)) rfl rfl ?_
          refine wl_re 53 (.int .i64 ((kk + mc - i : Nat) : Int)) (iE (by omega)) ?_
          refine wl_q (r_move (.slice _ _ _) rfl) rfl rfl ?_
          refine wl_q (r_lenS Tryz.underlying45 rfl) rfl rfl ?_
          refine wl_q (r_rem rfl rfl (by omega)) rfl rfl ?_
          refine wl_re 56 (.int .i64 ((((kk + mc - i) % mc) : Nat) : Int)) (iE (tmod_nat rfl rfl)) ?_
          refine wl_q (r_idxR (((kk + mc - i) % mc)) sl45 rfl rfl rfl ((R'.mem hM8).below_len (mapGet conCells hxc)) ((R'.mem hM8).someK (mapGet conCells hxc))) rfl rfl ?_
          refine wl_q (r_ldEA _ agg63 (R'.mem hM8) (mapGet conCells hxc) rfl) rfl rfl ?_
          refine wl_alloc zero63 hM8 rfl rfl (fun b9 w9 M9 => ?_)
          refine wl_stW 2 _ agg63 M9 rfl rfl rfl rfl rfl (ones_of rfl) rfl (fun w10 M10 => ?_)
          refine wl_nil ?_
          refine thenN ?_
          refine W_seq ?_
          refine W_region ?_
          refine wl_q (r_fieldAddr 0 fld63_0 rfl) rfl rfl ?_
          refine wl_q (r_fieldAddr 1 fld61_1 rfl) rfl rfl ?_
          refine wl_q (r_ld 2 (.int _ _) one30 M10 rfl rfl rfl) rfl rfl ?_
          refine wl_q (r_fieldAddr 0 fld63_0 rfl) rfl rfl ?_
          refine wl_q (r_fieldAddr 0 fld61_0 rfl) rfl rfl ?_
          refine wl_q (r_ld 2 (.int _ _) one30 M10 rfl rfl rfl) rfl rfl ?_
          refine wl_q (r_build [(0, .int _ _), (1, .int _ _)] _ struct61 rfl rfl) rfl rfl ?_
          refine wl_q (r_fieldAddr 0 fld63_0 rfl) rfl rfl ?_
          refine wl_stA 2 _ agg61 M10 rfl rfl rfl rfl rfl (ones_of rfl) (Nat.le_of_ble_eq_true rfl) (fun w11 M11 => ?_)
          refine wl_nil ?_
          refine thenN ?_
          refine W_region ?_
          refine wl_q (r_move (.slice _ _ _) rfl) rfl rfl ?_
          refine wl_q (r_ldW 2 agg63 M11 rfl rfl rfl) rfl rfl ?_
          refine wl_bslice [.agg (List.toArray _)] [conCells (swapC xc)] rfl sl45 M11 rfl rfl rfl rfl (lens_of rfl) (by decide) (fun b12 w12 M12 => ?_)
          refine wl_append 1 [conCells (swapC xc)] sl45 M12 rfl rfl rfl rfl rfl hq rfl (by simp [conCells, Go.Bil.one]) (Cells.ofMem 3 M12 rfl) (by omega) (fun A13 c13 e13 w13 M13 hR13 => ?_)
          refine wl_q (r_assign (.slice _ _ _) rfl) rfl rfl ?_
          refine wl_nil ?_
          refine blkN ?_
          refine thenN ?_
          refine W_region ?_
          refine wl_q (r_move (.int _ _) rfl) rfl rfl ?_
          refine wl_q (r_add rfl rfl (by omega) (by omega)) rfl rfl ?_
          refine wl_q (r_assign (.int _ _) rfl) rfl rfl ?_
          refine wl_nil ?_
          refine roundN (i + 1, ⟨A13, q.n + 1, c13, e13⟩) (agC rfl (agC rfl agN)) (akC rfl (akC rfl (akC rfl (akC rfl akN)))) ?_ ?_
          · exact ⟨⟨by omega, by rw [turnC_snoc (by rw [hclen]; exact hxc), List.map_append]; exact hR13⟩, M13.keep [true, true, false, false]⟩
          · (show mc - (i + 1) < mc - i; omega)
        · skip
          have him : i = mc := by omega
          rw [him] at hq
          refine W_exit ?_
          refine thenX ?_
          refine roundX ?_
          refine blkH ?_
          refine thenN ?_
          refine W_seq ?_
          refine W_region ?_
          refine wl_q (r_move (.slice _ _ _) rfl) rfl rfl ?_
          refine wl_q (r_move (.slice _ _ _) rfl) rfl rfl ?_
          refine wl_cal cal26 rfl rfl rfl ?_
          refine (isl_Of _ _ _ _ (viewL xs) (hr.rd hM8 (nthMem (i := 0) rfl)) _ _ _ cs (R'.mem hM8) hvo hvs (by omega) hvn).mono ?_
          rintro _ w14 ⟨v14, rfl, ⟨q0, rs0, rfl, hq0, hI0, hM14⟩⟩
          refine ⟨_, rfl, ?_⟩
          have M14 : Mem _ _ ([_, _, _] ++ _) _ := Mem.front (L := [_, _]) (hM8.call0T (A := [_]) hM14)
          have hIl0 := hI0.len
          have hqn0 : rs0.length = q0.n := by simpa using hq0.1
          refine wl_q (r_move (.slice _ _ _) rfl) rfl rfl ?_
          refine wl_q (r_move (.slice _ _ _) rfl) rfl rfl ?_
          refine wl_cal cal26 rfl rfl rfl ?_
          refine (isl_Of _ _ _ _ (viewL xs) (hr.rd M14 (nthMem (i := 0) rfl)) _ _ _ (turnC cs kk mc) (hq.rd M14 (nthMem (i := 1) rfl)) hvo hvs (by omega) hvn).mono ?_
          rintro _ w15 ⟨v15, rfl, ⟨q1, rs1, rfl, hq1, hI1, hM15⟩⟩
          refine ⟨_, rfl, ?_⟩
          have M15 : Mem _ _ ([_, _, _, _] ++ _) _ := Mem.front (L := [_, _, _]) (Mem.call0U (L := [_, _, _]) (A := [_]) M14 hM15)
          have hIl1 := hI1.len
          have hqn1 : rs1.length = q1.n := by simpa using hq1.1
          refine wl_cal cal25 rfl rfl rfl ?_
          refine (ref25_Same _ _ _ _ rs0 (islL (forestOf (viewL xs) cs) (viewL xs)) (hI0.rd hq0 M15 (nthMem (i := 2) rfl) (fun r hr => List.mem_append_right _ (List.mem_append_left _ (List.mem_map_of_mem hr)))) _ _ _ rs1 (islL (forestOf (viewL xs) (turnC cs kk mc)) (viewL xs)) (hI1.rd hq1 M15 (nthMem (i := 3) rfl) (fun r hr => List.mem_append_right _ (List.mem_append_right _ (List.mem_map_of_mem hr))))).mono ?_
          rintro _ w16 ⟨v16, rfl, ⟨rfl, hb16⟩⟩
          refine ⟨_, rfl, ?_⟩
          have M16 := M15.callB hb16
          refine wl_re 77 (.bool true) (bT (by have h := turn_order hvn (k := kk) (cs := cs) (by omega); rw [hclen] at h; exact h)).symm ?_
          refine wl_q (r_assign (.bool true) rfl) rfl rfl ?_
          refine wl_nil ?_
          refine thenN ?_
          refine W_ret ?_
          skip
          refine fin1 (.bool true) rfl ?_
          exact ⟨rfl, M16.below⟩

end Go.Proofs.YtmcddmhkjcgneaaGreatDoor

set_option linter.unusedVariables false
set_option linter.unusedSimpArgs false
set_option linter.unnecessarySimpa false
namespace Go.Proofs.YtmcddmhkjcgneaaGreatDoor
open Go.Bil
open Go.RowKit (Below)
open Go.Proofs

namespace islandOrder
open Go.ChangeShapes Go.WideShapes Go.ChangeAt Go.RowKit
open Go.ChangeMaps (open_string shut_string)
theorem own : ownKnob Tryz.prog.godebug = none := by kernel_rfl
theorem laidOut : laidOutB Tryz.prog = true := by kernel_rfl
set_option maxRecDepth 100000 in
theorem lifted (os : Os) (started : os.Started) (H : Type) (enc : TypeId × Value → H) :
    ReturnsInHanded {} Tryz.checked os 10 .any (fun w args => (Rows.islandOrderSpec.pre enc Tryz.prog Tryz.f10 [] false w args ∧ laidMet Tryz.prog laidL w) ∧ sizedMet enc Tryz.prog Tryz.f10 (OpenSpec.ofChange Rows.islandOrderSpec) false w args) (Rows.islandOrderSpec.post enc Tryz.prog Tryz.f10 false true false false) := by
  refine returnsInHanded_of_change_and (C := Tryz.checked) (X := fun w _ => laidMet Tryz.prog laidL w) (fun _ _ _ hh h => h.of_heap hh) own started (by kernel_rfl) Tryz.func10
    (ChangeSpec.witness_at (enc := enc) (C := Tryz.checked) (os := os) (X := fun w _ => laidMet Tryz.prog laidL w) false (laidWorld os) #[.slice none 0 0, .slice none 0 0, .int .u8 0] 8 rfl (by kernel_rfl) (by kernel_rfl) (by kernel_rfl) (by kernel_rfl) (by kernel_rfl) (laidMet_of_run' 8 (by kernel_rfl) (by kernel_rfl))) ?_
  intro W base args ds gs before hval0 hW hcnd hsz0 hL _
  have hsz : (DataW.weightsEach Tryz.prog (Tryz.f10.params.toList ++ Rows.islandOrderSpec.plain.varTypes Tryz.prog) (ds ++ gs)).all (· ≤ reachBytes) = true := hsz0
  have hval : ∀ (j : Nat) t v, Tryz.f10.params[j]? = some t → args[j]? = some v → Value.okWide Tryz.prog W .any base t v := hval0
  have hW' := hW
  obtain ⟨p, q, hA0, hV, rfl, hfz, hnd⟩ := hW
  have hA : DataW.TrodAll enc Tryz.prog W 0 (fun _ => true) true Tryz.f10.params.toList args.toList ds p := hA0
  rw [Tryz.params10] at hA hval hsz
  obtain ⟨v0, vs0, d0, ds0, p0, q0, hargs, rfl, rfl, h0, r0⟩ := trodAll_cons hA
  obtain ⟨v1, vs1, d1, ds1, p1, q1, rfl, rfl, rfl, h1, r1⟩ := trodAll_cons r0
  obtain ⟨v2, vs2, d2, ds2, p2, q2, rfl, rfl, rfl, h2, r2⟩ := trodAll_cons r1
  obtain ⟨rfl, rfl, rfl⟩ := trodAll_nil r2
  obtain rfl : args = #[v0, v1, v2] := by cases args; simp_all
  obtain ⟨rfl, rfl⟩ := trodVars_none hV
  have k0 := h0
  have lt0 : ∀ x ∈ p0, x.block < W.heap.size := by obtain ⟨m, hm⟩ := k0; exact DataW.trod_lt m _ _ _ hm
  obtain ⟨a0, len0, cap0, rfl⟩ := okWide_slice Tryz.underlying22 (hval 0 22 v0 rfl rfl)
  have y0 := sized_rows hsz (j := 0) (t := 22) rfl rfl sl22 h0
  obtain ⟨ls0, R0, hi0⟩ := open_rows sl22 leaves32 rfl y0 h0
  obtain ⟨xs0, rfl, hx0⟩ := list_of bodyOf ls0 hi0
  have k1 := h1
  have lt1 : ∀ x ∈ p1, x.block < W.heap.size := by obtain ⟨m, hm⟩ := k1; exact DataW.trod_lt m _ _ _ hm
  obtain ⟨a1, len1, cap1, rfl⟩ := okWide_slice Tryz.underlying45 (hval 1 45 v1 rfl rfl)
  have y1 := sized_rows hsz (j := 1) (t := 45) rfl rfl sl45 h1
  obtain ⟨ls1, R1, hi1⟩ := open_rows sl45 leaves63 rfl y1 h1
  obtain ⟨xs1, rfl, hx1⟩ := list_of conOf5 ls1 hi1
  obtain ⟨a2, rfl, rfl, rfl, w2⟩ := open_int Tryz.underlying5 (hval 2 5 v2 rfl rfl) h2
  have b2 : 0 ≤ a2 ∧ a2 ≤ 255 := wf_int w2
  clear hA0 hval0 hsz0 hsz
  obtain ⟨t2, rfl⟩ := Int.eq_ofNat_of_zero_le b2.1
  refine (law_IslandOrder W (rdF hL) (rdN hL) _ _ _ xs0 R0 _ _ _ xs1 R1 (fun b hb => (hx0 b hb).key.1) t2 (by omega)).mono fun e W' ⟨v, he, hv, bel⟩ => ?_
  subst he
  subst hv
  exact ⟨_, rfl, _, _, _, [], _, [], hW', trodAll_mk1 (shut_bool Tryz.underlying4 _), (trodAll_cons_mk (Below.trod laidOut (by kernel_rfl) (of_decide_eq_true (by kernel_rfl)) k0 bel lt0) (trodAll_cons_mk (Below.trod laidOut (by kernel_rfl) (of_decide_eq_true (by kernel_rfl)) k1 bel lt1) (trodAll_cons_mk (shut_int Tryz.underlying5 w2) trodAll_mk0))), rfl, bel.frame _, fun h => by cases h⟩
theorem over : Rows.islandOrderRow.holds Tryz.pinned (OpenSpec.ofChange Rows.islandOrderSpec) :=
  OpenClaim.holds_of_wide 10 Tryz.f10 rfl rfl rfl rfl rfl rfl rfl ⟨rfl, rfl, rfl, rfl, rfl⟩ rfl rfl rfl rfl rfl (by kernel_rfl) Tryz.func10 (by kernel_rfl)
    (of_decide_eq_true (by kernel_rfl)) (by unfold Func.isWrapper; first | (rw [if_pos (by decide +kernel)]; kernel_rfl) | (rw [if_neg (by decide +kernel)]; exact ⟨rfl, rfl⟩))
    (fun os started H enc _ => lifted os started H enc)
end islandOrder
theorem islandOrder_holds : Rows.IslandOrderSaid := islandOrder.over
#print axioms islandOrder_holds
theorem islandOrder_card : Rows.IslandOrderCardSaid :=
  Claim7.holds_tied_plain_at .later [] [.data, .data] true (true, "9f8295c113a943455c4832a95346352d7118fae4d0dcf065aaf106ad8bcb4f65") false
    islandOrder_holds (fun _ h => by cases h) (by kernel_rfl) (fun _ h => by cases h) islandOrder_row_tie rfl ⟨rfl, rfl⟩ (by kernel_rfl) rfl
    (fun f fn hf hfn => by
      obtain rfl : f = 10 := Option.some.inj ((show Tryz.prog.funcNamed "billiard/billiardlaw25.IslandOrder" = some 10 by kernel_rfl).symm.trans hf) |>.symm
      obtain rfl : fn = Tryz.f10 := (Option.some.inj (Tryz.func10.symm.trans hfn)).symm
      exact ⟨by kernel_rfl, fun j t ht => by
        rw [Tryz.params10] at ht
        have hm : t ∈ [22, 45, 5] := by simpa using Array.mem_of_getElem? ht
        have hall : ([22, 45, 5].all fun u => !Tryz.prog.wantsStandIn u) = true := by kernel_rfl
        exact (show Tryz.prog.wantsStandIn t = false by simpa using List.all_eq_true.1 hall t hm)⟩)
    (by kernel_rfl)
#print axioms islandOrder_card

end Go.Proofs.YtmcddmhkjcgneaaGreatDoor
