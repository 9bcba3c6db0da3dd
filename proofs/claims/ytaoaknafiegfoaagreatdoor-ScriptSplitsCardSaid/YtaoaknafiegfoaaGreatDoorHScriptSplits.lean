import Derived.Test.YtaoaknafiegfoaaGreatDoorK2
import Derived.Test.YtaoaknafiegfoaaGreatDoorK5
import Derived.Test.YtaoaknafiegfoaaGreatDoorK36
import Derived.Test.YtaoaknafiegfoaaGreatDoorRows
import Derived.Test.YtaoaknafiegfoaaGreatDoorK37
import Derived.Test.YtaoaknafiegfoaaGreatDoorTie
import Derived.Test.YtaoaknafiegfoaaGreatDoorCards
import Derived.WalkKit
import Derived.ProofKit
import Derived.OpenShut
import Derived.ShutString
import Derived.ChangeOld
import Derived.Below
import Derived.SizedLaws
set_option linter.unusedVariables false
set_option linter.unusedSimpArgs false
set_option linter.unnecessarySimpa false
namespace Go.Proofs.YtaoaknafiegfoaaGreatDoor
open Go.Bil
open Go.RowKit (Below)
open Go.Proofs
set_option maxHeartbeats 64000000 in
theorem zT (w : World) (F : Rd w 2 (some ⟨0, 0, none⟩) 1 [[.int .u32 73856093, .int .u32 19349663]]) (N : Rd w 4 (some ⟨3, 0, none⟩) 1 [eK jY]) (A : Option Addr) (n c : Nat) (l : List OpRow) (hl : OpsRd w A n l) (hcap : n ≤ c) (f : Nat) (hf : f ≤ 255) :
  Calls Tryz.prog 7 #[.slice A n c, .int .u8 (f : Int)] w (fun ex w' => ∃ v, ex = .returned v ∧ (fun v w' => v = .bool true ∧ Below w.heap.size w w') v w') := by
 have hlen : l.length = n := by simpa using hl.rd.len
 have hbd := hl.rd.bound
 refine aI #[.tmp 4] 131 Tryz.func7 rfl Tryz.results7 Tryz.ntmps7 rfl ?_
 have M0 := Mem.refl w
 refine aE (aA (wq (aJ (.bool false) rfl) rfl (aB (aC (aE (aE (aA (bY bJb rfl rfl (bRm _ (F.mem M0) (N.mem M0)) ?_))))))))
 rintro v1 w1 ⟨rfl, hb1⟩
 have M1 := M0.callB hb1
 refine wq (gI false rfl rfl) rfl (wq (aH (.bool false) rfl) rfl (dH rfl rfl (bY bQk rfl rfl (aXp _ A n c l (hl.mem M1)) ?_)))
 rintro v2 w2 ⟨⟨g, rfl, hg⟩, hb2⟩
 have M2 := M1.callB hb2
 refine wq (gI _ rfl rfl) rfl (wq (bQ false (.bool _) rfl rfl) rfl (aB (aC ?_)))
 refine iD _ rfl (fun h20 => ?_) (fun h20 => ?_)
 ·refine aE (aA (bY bJb rfl rfl (bRm _ (F.mem M2) (N.mem M2)) ?_))
  rintro v3 w3 ⟨rfl, hb3⟩
  have M3 := M2.callB hb3
  refine wq (aJ (.bool true) rfl) rfl (aB (aC (aO (cO (cG (.bool true) rfl ?_)))))
  exact ⟨rfl, M3.below⟩
 ·obtain ⟨hn40, hby⟩ := hg (by simpa using h20)
  have hby2 : ∀ x ∈ l, x.n ≤ 1000000 := fun x hx => Nat.le_trans (hby x hx) (by decide)
  have hn2 : n ≤ 1000000 := by omega
  obtain ⟨kk, hkk⟩ : ∃ kk : Nat, kk = f % (n + 1) := ⟨_, rfl⟩
  have hkl : kk < n + 1 := by rw [hkk]; exact Nat.mod_lt _ (by omega)
  have hA0 := hl.sub 0 kk (Nat.zero_le _) (by omega) hcap
  rw [List.drop_zero, Nat.sub_zero] at hA0
  have hB0 := hl.sub kk n (by omega) (Nat.le_refl _) hcap
  rw [List.take_of_length_le (by rw [List.length_drop]; omega)] at hB0
  have ela : (l.take kk).length = kk := by rw [List.length_take]; omega
  have elb : (l.drop kk).length = n - kk := by rw [List.length_drop]; omega
  refine aL (aC (aE (aA (aP rfl rfl (wq (bA us5 Tryz.underlying3 rfl (fG _ (by omega) (by omega))) rfl (dH rfl rfl (wq (cZ Tryz.underlying22 rfl) rfl (wq (aY rfl rfl (by omega) (by omega)) rfl ?_))))))))
  refine aK 26 (.int .i64 ((n + 1 : Nat) : Int)) (iE (by omega)) (wq (iK rfl rfl (by omega)) rfl (aK 27 (.int .i64 (kk : Int)) (iE (aZo rfl hkk)) (bH rfl rfl (aB (aC (aE (aA (bY bAn rfl rfl (rY _ (F.mem M2) (N.mem M2) none 0 0 [] (OpsRd.none _) (by simp) (by decide)) ?_))))))))
  rintro v4 w4 ⟨wb, r0, rfl, hr0, hM4⟩
  have M4 : Mem _ _ [_, _, _] _ := M2.call0 hM4
  have hr0 : dF 39 r0 [] := hr0
  refine wq (aJ (.pointer _) rfl) rfl (aB (aC (aE (aA (wq (aH (.pointer _) rfl) rfl (dH rfl rfl (aP rfl rfl (wq (eM (0) ((kk : Int)) aGl rfl rfl ⟨_, rfl⟩ (by omega) (by omega) (by omega)) rfl ?_))))))))
  refine bY aSc rfl rfl (uE _ _ (kk - 0) _ (l.take kk) (hA0.mem M4) (by omega)) ?_
  rintro v5 w5 ⟨q1, rfl, hq1, hM5⟩
  have M5 : Mem _ _ [_, _, _, _] _ := M4.call0 hM5
  have hq1n : ((l.take kk)).length = q1.n := by simpa using hq1.1
  refine bY aNd rfl rfl (oW _ (F.mem M5) (N.mem M5) _ r0 _ hr0 (M5.ownSeg 0 3) (M5.away 0 3 F (by simp)) (M5.away 0 3 N (by simp)) q1.A q1.n q1.c (l.take kk) ⟨(hq1.rd M5 (aZ (i := 3) rfl)), fun x hx => (hA0.each x hx).mem M5⟩ (fun x hx => hby2 x (List.mem_of_mem_take hx)) (by omega) (hq1.awayS M5 0 3 3 rfl rfl) (fun x hx => M5.away 0 3 (hA0.each x hx).rd (by simp))) ?_
  rintro v6 w6 ⟨r2, q2, rsa, rfl, hr2, hq2, hoR1, hM6⟩
  have M6 : Mem _ _ ([_, _, _, _, _] ++ _) _ := M5.seg 0 3 hM6
  have hq2n : (jF [] (gH ((l.take kk)))).length = q2.n := by have h : (mD _ rsa).length = q2.n := hq2.1; rwa [oL hoR1.len] at h
  rw [nI, lZ] at hq2n
  refine eI rfl rfl (aB (aC (aE (aA (wq (aH (.pointer _) rfl) rfl (dH rfl rfl (aP rfl rfl (wq (eM ((kk : Int)) ((n : Int)) aGl rfl ⟨_, rfl⟩ rfl (by omega) (by omega) (by omega)) rfl ?_))))))))
  refine bY aSc rfl rfl (uE _ _ (n - kk) _ (l.drop kk) (hB0.mem M6) (by omega)) ?_
  rintro v7 w7 ⟨q3, rfl, hq3, hM7⟩
  have M7 : Mem _ _ ([_, _, _, _, _, _] ++ _) _ := Mem.front (L := [_, _, _, _, _]) (M6.call0 hM7)
  have hq3n : ((l.drop kk)).length = q3.n := by simpa using hq3.1
  refine bY aNd rfl rfl (oW _ (F.mem M7) (N.mem M7) _ r2 _ hr2 (M7.ownSeg 0 3) (M7.away 0 3 F (by simp)) (M7.away 0 3 N (by simp)) q3.A q3.n q3.c (l.drop kk) ⟨(hq3.rd M7 (aZ (i := 5) rfl)), fun x hx => (hB0.each x hx).mem M7⟩ (fun x hx => hby2 x (List.mem_of_mem_drop hx)) (by omega) (hq3.awayS M7 0 3 5 rfl rfl) (fun x hx => M7.away 0 3 (hB0.each x hx).rd (by simp))) ?_
  rintro v8 w8 ⟨r3, q4, rsb, rfl, hr3, hq4, hoR2, hM8⟩
  have M8 : Mem _ _ ([_, _, _, _, _, _, _] ++ _) _ := Mem.front (L := [_, _, _, _, _, _]) (Mem.segU (L := [_, _, _, _, _, _]) (B := [_, _, _]) (A := [_]) 0 3 M7 (Nat.le_of_ble_eq_true rfl) hM8)
  have hq4n : (jF (nS [] (gH (l.take kk))) (gH ((l.drop kk)))).length = q4.n := by have h : (mD _ rsb).length = q4.n := hq4.1; rwa [oL hoR2.len] at h
  rw [nI, lZ] at hq4n
  refine eI rfl rfl (aB (aC (aE (aA (dH rfl rfl (aP rfl rfl (wq (eM (0) ((kk : Int)) aGl rfl rfl ⟨_, rfl⟩ (by omega) (by omega) (by omega)) rfl (bY aSc rfl rfl (uE _ _ (kk - 0) _ (l.take kk) (hA0.mem M8) (by omega)) ?_))))))))
  rintro v9 w9 ⟨q5, rfl, hq5, hM9⟩
  have M9 : Mem _ _ ([_, _, _, _, _, _, _, _] ++ _) _ := Mem.front (L := [_, _, _, _, _, _, _]) (M8.call0 hM9)
  have hq5n : ((l.take kk)).length = q5.n := by simpa using hq5.1
  refine bY bAn rfl rfl (rY _ (F.mem M9) (N.mem M9) q5.A q5.n q5.c (l.take kk) ⟨(hq5.rd M9 (aZ (i := 7) rfl)), fun x hx => (hA0.each x hx).mem M9⟩ (fun x hx => hby2 x (List.mem_of_mem_take hx)) (by omega)) ?_
  rintro v10 w10 ⟨wb2, r4, rfl, hr4, hM10⟩
  have M10 : Mem _ _ ([_, _, _, _, _, _, _, _, _, _, _] ++ _) _ := Mem.front (L := [_, _, _, _, _, _, _, _]) (M9.call0 hM10)
  refine wq (aJ (.pointer _) rfl) rfl (aB (aC (aE (aA (wq (aH (.pointer _) rfl) rfl (dH rfl rfl (aP rfl rfl (wq (eM ((kk : Int)) ((n : Int)) aGl rfl ⟨_, rfl⟩ rfl (by omega) (by omega) (by omega)) rfl ?_))))))))
  refine bY aSc rfl rfl (uE _ _ (n - kk) _ (l.drop kk) (hB0.mem M10) (by omega)) ?_
  rintro v11 w11 ⟨q6, rfl, hq6, hM11⟩
  have M11 : Mem _ _ ([_, _, _, _, _, _, _, _, _, _, _, _] ++ _) _ := Mem.front (L := [_, _, _, _, _, _, _, _, _, _, _]) (M10.call0 hM11)
  have hq6n : ((l.drop kk)).length = q6.n := by simpa using hq6.1
  refine bY aNd rfl rfl (oW _ (F.mem M11) (N.mem M11) _ r4 _ hr4 (M11.ownSeg 8 3) (M11.away 8 3 F (by simp)) (M11.away 8 3 N (by simp)) q6.A q6.n q6.c (l.drop kk) ⟨(hq6.rd M11 (aZ (i := 11) rfl)), fun x hx => (hB0.each x hx).mem M11⟩ (fun x hx => hby2 x (List.mem_of_mem_drop hx)) (by omega) (hq6.awayS M11 8 3 11 rfl rfl) (fun x hx => M11.away 8 3 (hB0.each x hx).rd (by simp))) ?_
  rintro v12 w12 ⟨r5, q7, rsc, rfl, hr5, hq7, hoR3, hM12⟩
  have M12 : Mem _ _ ([_, _, _, _, _, _, _, _, _, _, _, _, _] ++ _) _ := Mem.front (L := [_, _, _, _, _, _, _, _, _, _, _, _]) (Mem.segU (L := [_, _, _, _, _, _, _, _, _, _, _, _]) (B := [_, _, _]) (A := [_]) 8 3 M11 (Nat.le_of_ble_eq_true rfl) hM12)
  have hq7n : (jF (nS [] (gH (l.take kk))) (gH ((l.drop kk)))).length = q7.n := by have h : (mD _ rsc).length = q7.n := hq7.1; rwa [oL hoR3.len] at h
  rw [nI, lZ] at hq7n
  refine eI rfl rfl (aB (aC (aE (aA (dH rfl rfl (bY bRk rfl rfl (aQd _ A n c l (hl.mem M12) hby2 hn2) ?_))))))
  rintro v13 w13 ⟨v1, o1, rsw, rfl, hv1, ho1, hoRw, hM13⟩
  have M13 : Mem _ _ ([_, _, _, _, _, _, _, _, _, _, _, _, _, _, _] ++ _) _ := Mem.front (L := [_, _, _, _, _, _, _, _, _, _, _, _, _]) (Mem.call0U (L := [_, _, _, _, _, _, _, _, _, _, _, _, _]) (A := [_, _]) M12 hM13)
  have ho1n : (jF [] (gH (l))).length = o1.n := by have h : (mD _ rsw).length = o1.n := ho1.1; rwa [oL hoRw.len] at h
  rw [nI, lZ] at ho1n
  refine wq (aH (.tuple (List.toArray _)) rfl) rfl (wq (bN (.slice _ _ _) rfl rfl) rfl (wq (bN (.slice _ _ _) rfl rfl) rfl (eI rfl rfl (eI rfl rfl (aB (aC (aE (aE (aA ?_)))))))))
  refine dH rfl rfl (wq (cZ Tryz.underlying63 rfl) rfl (aP rfl rfl (cY rfl rfl rfl rfl (oG 60 rfl (by omega) (wq (aH (.bool false) rfl) rfl ?_)))))
  refine dH rfl rfl (wq (cZ Tryz.underlying63 rfl) rfl (dH rfl rfl (wq (cZ Tryz.underlying22 rfl) rfl (aP rfl rfl (wq (fR rfl rfl (by omega) (by omega)) rfl ?_)))))
  refine cY rfl rfl rfl rfl (oG 68 rfl (by omega) (wq (bQ false (.bool false) rfl rfl) rfl (wq (aH (.bool false) rfl) rfl (dH rfl rfl (wq (cZ Tryz.underlying63 rfl) rfl ?_)))))
  refine dH rfl rfl (wq (cZ Tryz.underlying63 rfl) rfl (cY rfl rfl rfl rfl (oG 75 rfl (by omega) (wq (bQ false (.bool false) rfl rfl) rfl (aB (aC ?_))))))
  refine cJ rfl (aL (aC (aE (aE (aA (bH rfl rfl (aB (aC (aQ (dS (σ := Nat) [0, 5, 7, 8, 10, 12] (fun i => [(13, .int .i64 (i : Int))]) (fun i w' => i ≤ n ∧ Mem w [] ([(some wb, bc [.slice r3.A r3.n r3.c, .map r3.p] 107), r3.er, r3.em, q1.e, q2.e, q3.e, q4.e, q5.e, (some wb2, bc [.slice r5.A r5.n r5.c, .map r5.p] 107), r5.er, r5.em, q6.e, q7.e, v1.e, o1.e] ++ (rsa.map Row.e ++ rsb.map Row.e ++ rsc.map Row.e ++ rsw.map Row.e)) w') (fun i => n - i) 0 (bB rfl dZ) (⟨by omega, M13⟩) ?_))))))))))
  rintro i ρ14 w14 ⟨hi, hM14⟩
  refine aE (aE (aA (aP rfl rfl (dH rfl rfl (wq (cZ Tryz.underlying22 rfl) rfl (cY rfl rfl rfl rfl (aB (aC ?_))))))))
  refine aW rfl (fun h80 => ?_) (fun h80 => ?_)
  ·obtain ⟨z, hz⟩ := cV (xs := jF [] (gH l)) (k := i) (uO _ _) (by omega)
   obtain ⟨pw, hpw1, hpw2⟩ := oD (j := i) hoRw.len hz
   refine aL (aC (aE (aQ (aE (bR [(0, 0), (1, 0), (2, 0), (3, 0), (4, 0), (5, 0), (6, 1), (7, 1), (8, 0), (9, 0), (10, 1), (11, 1), (12, 2), (13, 0), (14, 0), (15, 0), (16, 0), (17, 0), (18, 0), (19, 0), (20, 0), (21, 0), (22, 0), (23, 0), (24, 1), (25, 1), (26, 0), (27, 0), (28, 1), (29, 1), (30, 2), (31, 0), (32, 0), (33, 0), (34, 0), (35, 0), (36, 0), (37, 1), (38, 1), (39, 0), (40, 0), (41, 1), (42, 1), (43, 2), (44, 0), (45, 0), (46, 0), (47, 0)] mixed rfl (by kernel_rfl) (fun w15 hb15 hh15 => ?_))))))
   have M15 := hM14.drew hb15 hh15
   refine eB rfl rfl rfl (eB rfl rfl rfl (aU rfl rfl rfl (fun _ => cA (.bool (decide _)) rfl rfl rfl) (aU rfl rfl rfl (fun _ => aH (.bool (decide _)) rfl) ?_)))
   refine wW 86 rfl (fun g86 => ?_) (fun g86 => ?_)
   ·have hza := aYk (kk := kk) (by omega) hz
    obtain ⟨pa, hpa1, hpa2⟩ := oD (j := i) hoR1.len hza
    refine kN rfl rfl rfl (eB rfl rfl rfl (bS rfl rfl rfl (bO (i) aCz rfl rfl rfl ((hq2.rd M15 (aZ (i := 4) rfl)).below_len (hpa2)) ((hq2.rd M15 (aZ (i := 4) rfl)).someK (hpa2))) (bS rfl rfl rfl (dI _ iL (hq2.rd M15 (aZ (i := 4) rfl)) (hpa2) rfl) (dQ 90 (.agg (dY z pa).toArray) rfl ?_))))
    refine kN rfl rfl rfl (eB rfl rfl rfl (bS rfl rfl rfl (bO (i) bEi rfl rfl rfl ((ho1.rd M15 (aZ (i := 14) rfl)).below_len (hpw2)) ((ho1.rd M15 (aZ (i := 14) rfl)).someK (hpw2))) (bS rfl rfl rfl (dI _ sG (ho1.rd M15 (aZ (i := 14) rfl)) (hpw2) rfl) (dQ 94 (.agg (dY z pw).toArray) rfl ?_))))
    refine dU [true, true, true, true] rfl (by kernel_rfl) (bY aSn rfl rfl (rR _ z pa pw (hoR1.rd M15 (aBj (aWa (aWa (aWa aQs)))) hpa1 hza) (hoRw.rd M15 (aBj (aBj aQs)) hpw1 hz)) ?_)
    rintro v16 w16 ⟨rfl, hb16⟩
    have M16 := M15.callB hb16
    refine aB (aC ⟨dT, ?_⟩)
    refine aU rfl rfl rfl (fun _ => gI false rfl rfl) (aU rfl rfl rfl (fun _ => bQ true (.bool false) rfl rfl) (aU rfl rfl rfl (fun _ => aH (.bool false) rfl) (eB rfl rfl rfl (eB rfl rfl rfl (aU rfl rfl rfl (fun _ => cA (.bool (decide _)) rfl rfl rfl) ?_)))))
    refine dQ 101 (.bool false) (bF (by omega)).symm (aU rfl rfl rfl (fun _ => aH (.bool false) rfl) (rB rfl rfl rfl (rB rfl rfl rfl (rB rfl rfl rfl (rB rfl rfl rfl ?_)))))
    refine nN rfl rfl rfl (nN rfl rfl rfl (rB rfl rfl rfl (rB rfl rfl rfl (nN rfl rfl rfl (nN rfl rfl rfl ?_)))))
    refine dU [true, true, true, true] rfl (by kernel_rfl) (aN rfl rfl ?_)
    refine aB (aC ⟨dT, ?_⟩)
    refine rB rfl rfl rfl (rB rfl rfl rfl (rB rfl rfl rfl (rB rfl rfl rfl (rB rfl rfl rfl (rB rfl rfl rfl ?_)))))
    refine nN rfl rfl rfl (nN rfl rfl rfl (rB rfl rfl rfl (rB rfl rfl rfl (nN rfl rfl rfl (nN rfl rfl rfl ?_)))))
    refine dU [true, true, true, true] rfl (by kernel_rfl) (aN rfl rfl ?_)
    refine aB (aC ⟨dT, ?_⟩)
    refine rB rfl rfl rfl (rB rfl rfl rfl (aU rfl rfl rfl (fun _ => bQ false (.bool false) rfl rfl) (aU rfl rfl rfl (fun _ => bQ false (.bool false) rfl rfl) (bX (aC ?_)))))
    refine cJ rfl (aL (cT (aC (aA (aP rfl rfl (wq (aY rfl rfl (by omega) (by omega)) rfl ?_))))))
    refine bH rfl rfl (aB ?_)
    refine cD (i + 1) (bB rfl dZ) (cK rfl (cK rfl (cK rfl (cK rfl (cK rfl (cK rfl gW)))))) ?_ ?_
    ·exact ⟨by omega, M16⟩
    ·omega
   ·have hzb := aYw (kk := kk) (by omega) (by omega) hz
    obtain ⟨pb, hpb1, hpb2⟩ := oD (j := i - kk) hoR2.len hzb
    obtain ⟨pc, hpc1, hpc2⟩ := oD (j := i - kk) hoR3.len hzb
    refine rB rfl rfl rfl (rB rfl rfl rfl (nN rfl rfl rfl (nN rfl rfl rfl (rB rfl rfl rfl (rB rfl rfl rfl ?_)))))
    refine nN rfl rfl rfl (nN rfl rfl rfl (dU [true, true, true, true] rfl (by kernel_rfl) (aN rfl rfl ?_)))
    refine aB (aC ⟨dT, ?_⟩)
    refine rB rfl rfl rfl (aU rfl rfl rfl (fun _ => bQ false (.bool false) rfl rfl) (aU rfl rfl rfl (fun _ => aH (.bool false) rfl) (eB rfl rfl rfl (eB rfl rfl rfl (aU rfl rfl rfl (fun _ => cA (.bool (decide _)) rfl rfl rfl) ?_)))))
    refine dQ 101 (.bool true) (bT (by omega)).symm (aU rfl rfl rfl (fun _ => aH (.bool true) rfl) (kN rfl rfl rfl (eB rfl rfl rfl (eB rfl rfl rfl (aU rfl rfl rfl (fun _ => fR rfl rfl (by omega) (by omega)) ?_)))))
    refine dQ 106 (.int .i64 ((i - kk : Nat) : Int)) (iE (by omega)) (bS rfl rfl rfl (bO ((i - kk)) aCz rfl rfl rfl ((hq4.rd M15 (aZ (i := 6) rfl)).below_len (hpb2)) ((hq4.rd M15 (aZ (i := 6) rfl)).someK (hpb2))) (bS rfl rfl rfl (dI _ iL (hq4.rd M15 (aZ (i := 6) rfl)) (hpb2) rfl) (dQ 108 (.agg (dY z pb).toArray) rfl ?_)))
    refine kN rfl rfl rfl (eB rfl rfl rfl (bS rfl rfl rfl (bO (i) bEi rfl rfl rfl ((ho1.rd M15 (aZ (i := 14) rfl)).below_len (hpw2)) ((ho1.rd M15 (aZ (i := 14) rfl)).someK (hpw2))) (bS rfl rfl rfl (dI _ sG (ho1.rd M15 (aZ (i := 14) rfl)) (hpw2) rfl) (dQ 112 (.agg (dY z pw).toArray) rfl ?_))))
    refine dU [true, true, true, true] rfl (by kernel_rfl) (bY aSn rfl rfl (rR _ z pb pw (hoR2.rd M15 (aBj (aWa (aWa (aBj aQs)))) hpb1 hzb) (hoRw.rd M15 (aBj (aBj aQs)) hpw1 hz)) ?_)
    rintro v17 w17 ⟨rfl, hb17⟩
    have M17 := M15.callB hb17
    refine aB (aC ⟨dT, ?_⟩)
    refine aU rfl rfl rfl (fun _ => gI false rfl rfl) (aU rfl rfl rfl (fun _ => aH (.bool false) rfl) (kN rfl rfl rfl (eB rfl rfl rfl (eB rfl rfl rfl (aU rfl rfl rfl (fun _ => fR rfl rfl (by omega) (by omega)) ?_)))))
    refine dQ 119 (.int .i64 ((i - kk : Nat) : Int)) (iE (by omega)) (bS rfl rfl rfl (bO ((i - kk)) aCz rfl rfl rfl ((hq7.rd M17 (aZ (i := 12) rfl)).below_len (hpc2)) ((hq7.rd M17 (aZ (i := 12) rfl)).someK (hpc2))) (bS rfl rfl rfl (dI _ iL (hq7.rd M17 (aZ (i := 12) rfl)) (hpc2) rfl) ?_))
    refine dQ 121 (.agg (dY z pc).toArray) rfl (kN rfl rfl rfl (eB rfl rfl rfl (bS rfl rfl rfl (bO (i) bEi rfl rfl rfl ((ho1.rd M17 (aZ (i := 14) rfl)).below_len (hpw2)) ((ho1.rd M17 (aZ (i := 14) rfl)).someK (hpw2))) (bS rfl rfl rfl (dI _ sG (ho1.rd M17 (aZ (i := 14) rfl)) (hpw2) rfl) ?_))))
    refine dQ 125 (.agg (dY z pw).toArray) rfl (dU [true, true, true, true] rfl (by kernel_rfl) (bY aSn rfl rfl (rR _ z pc pw (hoR3.rd M17 (aBj (aWa (aBj aQs))) hpc1 hzb) (hoRw.rd M17 (aBj (aBj aQs)) hpw1 hz)) ?_))
    rintro v18 w18 ⟨rfl, hb18⟩
    have M18 := M17.callB hb18
    refine aB (aC ⟨dT, ?_⟩)
    refine aU rfl rfl rfl (fun _ => gI false rfl rfl) (aU rfl rfl rfl (fun _ => bQ false (.bool false) rfl rfl) (aU rfl rfl rfl (fun _ => bQ true (.bool false) rfl rfl) (aU rfl rfl rfl (fun _ => bQ false (.bool false) rfl rfl) (bX (aC ?_)))))
    refine cJ rfl (aL (cT (aC (aA (aP rfl rfl (wq (aY rfl rfl (by omega) (by omega)) rfl ?_))))))
    refine bH rfl rfl (aB ?_)
    refine cD (i + 1) (bB rfl dZ) (cK rfl (cK rfl (cK rfl (cK rfl (cK rfl (cK rfl gW)))))) ?_ ?_
    ·exact ⟨by omega, M18⟩
    ·omega
  ·refine cW (dE (dL (eS (aC (aE (aA (wq (aJ (.bool true) rfl) rfl ?_)))))))
   refine aB (aC (aO (cG (.bool true) rfl ?_)))
   exact ⟨rfl, hM14.below⟩
namespace scriptSplits
open Go.ChangeShapes Go.WideShapes Go.ChangeAt Go.RowKit
open Go.ChangeMaps (open_string shut_string)
theorem own : ownKnob Tryz.prog.godebug = none := by kernel_rfl
theorem laidOut : laidOutB Tryz.prog = true := by kernel_rfl
set_option maxRecDepth 100000 in
theorem lifted (os : Os) (started : os.Started) (H : Type) (enc : TypeId × Value → H) :
  ReturnsInHanded {} Tryz.checked os 7 .any (fun w args => (Rows.scriptSplitsSpec.pre enc Tryz.prog Tryz.f7 [] false w args ∧ laidMet Tryz.prog aEr w) ∧ sizedMet enc Tryz.prog Tryz.f7 (OpenSpec.ofChange Rows.scriptSplitsSpec) false w args) (Rows.scriptSplitsSpec.post enc Tryz.prog Tryz.f7 false true false false) := by
 refine returnsInHanded_of_change_and (C := Tryz.checked) (X := fun w _ => laidMet Tryz.prog aEr w) (fun _ _ _ hh h => h.of_heap hh) own started (by kernel_rfl) Tryz.func7
  (ChangeSpec.witness_at (enc := enc) (C := Tryz.checked) (os := os) (X := fun w _ => laidMet Tryz.prog aEr w) false (aYd os) #[.slice none 0 0, .int .u8 0] 8 rfl (by kernel_rfl) (by kernel_rfl) (by kernel_rfl) (by kernel_rfl) (by kernel_rfl) (laidMet_of_run' 8 (by kernel_rfl) (by kernel_rfl))) ?_
 intro W base args ds gs before hval0 hW hcnd hsz0 hL _
 have hsz : (DataW.weightsEach Tryz.prog (Tryz.f7.params.toList ++ Rows.scriptSplitsSpec.plain.varTypes Tryz.prog) (ds ++ gs)).all (· ≤ reachBytes) = true := hsz0
 have hval : ∀ (j : Nat) t v, Tryz.f7.params[j]? = some t → args[j]? = some v → Value.okWide Tryz.prog W .any base t v := hval0
 have hW' := hW
 obtain ⟨p, q, hA0, hV, rfl, hfz, hnd⟩ := hW
 have hA : DataW.TrodAll enc Tryz.prog W 0 (fun _ => true) true Tryz.f7.params.toList args.toList ds p := hA0
 rw [Tryz.params7] at hA hval hsz
 obtain ⟨v0, vs0, d0, ds0, p0, q0, hargs, rfl, rfl, h0, r0⟩ := trodAll_cons hA
 obtain ⟨v1, vs1, d1, ds1, p1, q1, rfl, rfl, rfl, h1, r1⟩ := trodAll_cons r0
 obtain ⟨rfl, rfl, rfl⟩ := trodAll_nil r1
 obtain rfl : args = #[v0, v1] := by cases args; simp_all
 obtain ⟨rfl, rfl⟩ := trodVars_none hV
 have k0 := h0
 have lt0 : ∀ x ∈ p0, x.block < W.heap.size := by obtain ⟨m, hm⟩ := k0; exact DataW.trod_lt m _ _ _ hm
 obtain ⟨a0, len0, cap0, rfl⟩ := okWide_slice Tryz.underlying22 (hval 0 22 v0 rfl rfl)
 have y0 : ∀ n ∈ d0.weights Tryz.prog 22, n ≤ reachBytes := fun n hn => by simpa using List.all_eq_true.1 hsz _ (DataW.weights_mem_each (j := 0) rfl rfl n hn)
 obtain ⟨xs0, R0⟩ := bAj aGl bQe y0 h0
 have cp0 := bCu aGl h0
 obtain ⟨a1, rfl, rfl, rfl, w1⟩ := open_int Tryz.underlying5 (hval 1 5 v1 rfl rfl) h1
 have b1 : 0 ≤ a1 ∧ a1 ≤ 255 := bBj w1
 clear hA0 hval0 hsz0 hsz
 obtain ⟨t1, rfl⟩ := Int.eq_ofNat_of_zero_le b1.1
 refine (zT W (rdF hL) (rdN hL) _ _ _ xs0 R0 cp0 t1 (by omega)).mono fun e W' ⟨v, he, hv, bel⟩ => ?_
 subst he
 subst hv
 exact ⟨_, rfl, _, _, _, [], _, [], hW', trodAll_mk1 (shut_bool Tryz.underlying4 _), (trodAll_cons_mk (Below.trod laidOut (by kernel_rfl) (of_decide_eq_true (by kernel_rfl)) k0 bel lt0) (trodAll_cons_mk (shut_int Tryz.underlying5 w1) trodAll_mk0)), rfl, bel.frame _, fun h => by cases h⟩
theorem andT {a b : Bool} (ha : a = true) (hb : b = true) : (a && b) = true := by rw [ha, hb]; rfl
set_option maxHeartbeats 16000000 in
theorem closed : joinedFacts Tryz.prog 7 Tryz.f7 Rows.scriptSplitsSpec Rows.scriptSplitsRow = true := by
 unfold joinedFacts
 repeat' (with_reducible refine andT ?_ ?_)
 all_goals (as_aux_lemma => kernel_rfl)
theorem over : Rows.scriptSplitsRow.holds Tryz.pinned (OpenSpec.ofChange Rows.scriptSplitsSpec) :=
 OpenClaim.holds_of_wide 7 Tryz.f7 rfl rfl rfl rfl rfl rfl rfl ⟨rfl, rfl, rfl, rfl, rfl⟩ rfl rfl rfl rfl rfl (by kernel_rfl) Tryz.func7 closed
  (of_decide_eq_true (by kernel_rfl)) (by unfold Func.isWrapper; first | (rw [if_pos (by decide +kernel)]; kernel_rfl) | (rw [if_neg (by decide +kernel)]; exact ⟨rfl, rfl⟩))
  (fun os started H enc _ => lifted os started H enc)
end scriptSplits
theorem scriptSplits_holds : Rows.ScriptSplitsSaid := scriptSplits.over
#print axioms scriptSplits_holds
theorem scriptSplits_cw : Rows.scriptSplitsRow.wfByText (OpenSpec.ofChange Rows.scriptSplitsSpec) = true := by kernel_rfl
theorem scriptSplits_cl : false = Tryz.checked.prog.looks [] := by kernel_rfl
theorem scriptSplits_cg : false = Rows.scriptSplitsRow.goesBy Tryz.pinned.checked.prog := by kernel_rfl
theorem scriptSplits_cm : Tryz.pinned.checked.prog.mainIs = some (true, "60fad30dfb67d9dd14e679b449d58df77fa72712b07425b57b34720f96154737".toList) := by kernel_rfl
theorem scriptSplits_cf : Tryz.prog.funcNamed "billiard/billiardlaw23.ScriptSplits" = some 7 := by kernel_rfl
theorem scriptSplits_card : Rows.ScriptSplitsCardSaid :=
 Claim7.holds_tied_plain_at .later [] [.data, .data] true (true, "60fad30dfb67d9dd14e679b449d58df77fa72712b07425b57b34720f96154737") false
  scriptSplits_holds (fun _ h => by cases h) scriptSplits_cw (fun _ h => by cases h) scriptSplits_row_tie rfl ⟨rfl, rfl⟩ scriptSplits_cm rfl
  (fun f fn hf hfn => by
   obtain rfl : f = 7 := Option.some.inj (scriptSplits_cf.symm.trans hf) |>.symm
   obtain rfl : fn = Tryz.f7 := (Option.some.inj (Tryz.func7.symm.trans hfn)).symm
   exact ⟨scriptSplits_cl, fun j t ht => by
    rw [Tryz.params7] at ht
    have hm : t ∈ [22, 5] := by simpa using Array.mem_of_getElem? ht
    have hall : ([22, 5].all fun u => !Tryz.prog.wantsStandIn u) = true := by kernel_rfl
    exact (show Tryz.prog.wantsStandIn t = false by simpa using List.all_eq_true.1 hall t hm)⟩)
  scriptSplits_cg
#print axioms scriptSplits_card
end Go.Proofs.YtaoaknafiegfoaaGreatDoor
