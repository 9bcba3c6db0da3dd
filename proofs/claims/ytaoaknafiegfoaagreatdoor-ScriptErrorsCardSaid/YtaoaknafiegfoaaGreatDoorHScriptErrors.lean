import Derived.Test.YtaoaknafiegfoaaGreatDoorK2
import Derived.Test.YtaoaknafiegfoaaGreatDoorK5
import Derived.Test.YtaoaknafiegfoaaGreatDoorK35
import Derived.Test.YtaoaknafiegfoaaGreatDoorK33
import Derived.Test.YtaoaknafiegfoaaGreatDoorRows
import Derived.Test.YtaoaknafiegfoaaGreatDoorK36
import Derived.Test.YtaoaknafiegfoaaGreatDoorTie
import Derived.Test.YtaoaknafiegfoaaGreatDoorCards
import Derived.WalkKit
import Derived.ProofKit
import Derived.OpenShut
import Derived.ShutString
import Derived.ChangeOld
import Derived.Below
import Derived.SizedLaws
set_option linter.unusedVariables false
set_option linter.unusedSimpArgs false
set_option linter.unnecessarySimpa false
namespace Go.Proofs.YtaoaknafiegfoaaGreatDoor
open Go.Bil
open Go.RowKit (Below)
open Go.Proofs
set_option maxHeartbeats 64000000 in
theorem uM (w : World) (F : Rd w 2 (some ⟨0, 0, none⟩) 1 [[.int .u32 73856093, .int .u32 19349663]]) (N : Rd w 4 (some ⟨3, 0, none⟩) 1 [cW gT]) (A : Option Addr) (n c : Nat) (l : List OpRow) (hl : OpsRd w A n l) :
  Calls Tryz.prog 8 #[.slice A n c] w (fun ex w' => ∃ v, ex = .returned v ∧ (fun v w' => v = .bool true ∧ Below w.heap.size w w') v w') := by
 have hlen : l.length = n := by simpa using hl.rd.len
 have hbd := hl.rd.bound
 refine aH #[.tmp 2] 125 Tryz.func8 rfl Tryz.results8 Tryz.ntmps8 rfl ?_
 have M0 := Mem.refl w
 refine aD (aA (wq (aI (.bool false) rfl) rfl (aB (aC (aD (aD (aA (cA bBs rfl rfl (bIp _ (F.mem M0) (N.mem M0)) ?_))))))))
 rintro v1 w1 ⟨rfl, hb1⟩
 have M1 := M0.callB hb1
 refine wq (gL false rfl rfl) rfl (wq (aG (.bool false) rfl) rfl (dV rfl rfl (cA bJc rfl rfl (aOr _ A n c l (hl.mem M1)) ?_)))
 rintro v2 w2 ⟨⟨g, rfl, hg⟩, hb2⟩
 have M2 := M1.callB hb2
 refine wq (gL _ rfl rfl) rfl (wq (bX false (.bool _) rfl rfl) rfl (aB (aC ?_)))
 refine iJ _ rfl (fun h16 => ?_) (fun h16 => ?_)
 ·refine aD (aA (cA bBs rfl rfl (bIp _ (F.mem M2) (N.mem M2)) ?_))
  rintro v3 w3 ⟨rfl, hb3⟩
  have M3 := M2.callB hb3
  refine wq (aI (.bool true) rfl) rfl (aB (aC (aO (cM (cD (.bool true) rfl ?_)))))
  exact ⟨rfl, M3.below⟩
 ·obtain ⟨hn40, hby⟩ := hg (by simpa using h16)
  have hby2 : ∀ x ∈ l, x.n ≤ 1000000 := fun x hx => Nat.le_trans (hby x hx) (by decide)
  have hn2 : n ≤ 1000000 := by omega
  refine aK (aC (aD (aA (cA aNo rfl rfl (lA _ (F.mem M2) (N.mem M2) none 0 0 [] (OpsRd.none _) (by simp) (by decide)) ?_))))
  rintro v4 w4 ⟨wb, r0, rfl, hr0, hM4⟩
  have M4 : Mem _ _ [_, _, _] _ := M2.call0 hM4
  have hr0 : cC 39 r0 [] := hr0
  refine dV rfl rfl (cA aUz rfl rfl (uQ _ A n c l (hl.mem M4) hn2) ?_)
  rintro v5 w5 ⟨q1, rfl, hq1, hM5⟩
  have M5 : Mem _ _ [_, _, _, _] _ := M4.call0 hM5
  have hq1n : (l).length = q1.n := by simpa using hq1.1
  refine cA aMs rfl rfl (oJ _ (F.mem M5) (N.mem M5) _ r0 _ hr0 (M5.ownSeg 0 3) (M5.away 0 3 F (by simp)) (M5.away 0 3 N (by simp)) q1.A q1.n q1.c l ⟨(hq1.rd M5 (aP (i := 3) rfl)), fun x hx => (hl.each x hx).mem M5⟩ hby2 (by omega) (hq1.awayS M5 0 3 3 rfl rfl) (fun x hx => M5.away 0 3 (hl.each x hx).rd (by simp))) ?_
  rintro v6 w6 ⟨r2, q2, rs, rfl, hr2, hq2, hoR, hM6⟩
  have M6 : Mem _ _ ([_, _, _, _, _] ++ _) _ := M5.seg 0 3 hM6
  have hq2n : (jL [] (fT (l))).length = q2.n := by have h : (lT _ rs).length = q2.n := hq2.1; rwa [pP hoR.len] at h
  rw [nL, lX] at hq2n
  refine fJ rfl rfl (aB (aC (aD (aD (aA (dV rfl rfl (wq (cN Tryz.underlying63 rfl) rfl (dV rfl rfl (wq (cN Tryz.underlying22 rfl) rfl ?_)))))))))
  refine cY rfl rfl rfl rfl (tS 26 rfl (by omega) (aB (aC (bY rfl (aK (aC (aD (aA (fJ rfl rfl ?_)))))))))
  have M7 := Mem.dummyL (L := [_, _, _, _, _]) M6 default
  refine aB (aC (aD (aA (fJ rfl rfl ?_))))
  have M8 := Mem.dummyL (L := [_, _, _, _, _, _]) M7 default
  refine aB (aC (aD (aD (aA (bO rfl rfl (aB (aC (aT (dL (σ := Nat × Row × Row × List OpRow × List Row) [0, 2, 3] (fun (i, qr, qw, lr, ws) => [(4, .slice qr.A qr.n qr.c), (5, .slice qw.A qw.n qw.c), (6, .int .i64 (i : Int))]) (fun (i, qr, qw, lr, ws) w' => (i ≤ n ∧ fT lr = (gG [] ((fT l).take i)) ∧ (∀ x ∈ lr, x ∈ l) ∧ aU 46 15 qr.A qr.n qr.c (lr.map OpRow.cells) qr.e ∧ ws.length = ((iC [] ((fT l).take i))).length ∧ aU 33 4 qw.A qw.n qw.c (lT (iC [] ((fT l).take i)) ws) qw.e) ∧ Mem w [] ([(some wb, bc [.slice r2.A r2.n r2.c, .map r2.p] 107), r2.er, r2.em, q1.e, q2.e, qr.e, qw.e] ++ (rs.map Row.e)) w') (fun (i, qr, qw, lr, ws) => n - i) (0, fR, fR, [], []) (bM rfl (bM rfl (bM rfl eX))) (⟨⟨by omega, rfl, by simp, aU.nil _ _ _, rfl, aU.nil _ _ _⟩, M8⟩) ?_)))))))))
  rintro ⟨i, qr, qw, lr, ws⟩ ρ9 w9 ⟨⟨hi, hlr, hsub, hqr, hws, hqw⟩, hM9⟩
  have hqrn : (lr.map OpRow.cells).length = qr.n := hqr.1
  rw [List.length_map] at hqrn
  have hkl := aIi ((fT l).take i) []
  rw [List.length_take, lX] at hkl
  have hll : lr.length = (gG [] ((fT l).take i)).length := by rw [← hlr, lX]
  have hwl := aWu ((fT l).take i) []
  have hqwn : (lT (iC [] ((fT l).take i)) ws).length = qw.n := hqw.1
  rw [pP hws] at hqwn
  refine aD (aD (aA (aY rfl rfl (dV rfl rfl (wq (cN Tryz.underlying22 rfl) rfl (cY rfl rfl rfl rfl (aB (aC ?_))))))))
  refine bB rfl (fun h30 => ?_) (fun h30 => ?_)
  ·obtain ⟨x, hx⟩ := cI (xs := l) (k := i) hlen (by omega)
   have hxo := aFc hx
   have hz := aXq (v := []) hxo
   obtain ⟨z, hze⟩ : ∃ z, z = (eI (jE [] ((fT l).take i)) x.o).2 := ⟨_, rfl⟩
   rw [← hze] at hz
   obtain ⟨pa, hpa1, hpa2⟩ := mQ (j := i) hoR.len hz
   refine aK (aC (aD (aT (aD (aA (dV rfl rfl (aY rfl rfl (wq (bR (i) qF rfl rfl rfl ((hq2.rd hM9 (aP (i := 4) rfl)).below_len (hpa2)) ((hq2.rd hM9 (aP (i := 4) rfl)).someK (hpa2))) rfl (wq (bH 0 oO (hq2.rd hM9 (aP (i := 4) rfl)) (Nat.lt_of_le_of_lt (Nat.zero_le _) ((hq2.rd hM9 (aP (i := 4) rfl)).below_len (hpa2))) rfl) rfl ?_)))))))))
   refine wq (dS (o := 0) (.int _ _) nO (hq2.rd hM9 (aP (i := 4) rfl)) (hpa2) rfl rfl) rfl (cY rfl rfl rfl rfl (wq (aG (.bool (decide _)) rfl) rfl ?_))
   refine dH 39 rfl (fun g39 => ?_) (fun g39 => ?_)
   ·refine dV rfl rfl (aY rfl rfl (wq (bR (i) aGi rfl rfl rfl ((hl.rd.mem hM9).below_len (aJ OpRow.cells hx)) ((hl.rd.mem hM9).someK (aJ OpRow.cells hx))) rfl (wq (bH 0 aDk (hl.rd.mem hM9) (Nat.lt_of_le_of_lt (Nat.zero_le _) ((hl.rd.mem hM9).below_len (aJ OpRow.cells hx))) rfl) rfl ?_)))
    refine wq (dS (o := 0) (.int _ _) gY (hl.rd.mem hM9) (aJ OpRow.cells hx) rfl rfl) rfl (cY rfl rfl rfl rfl (wq (bX true (.bool (decide _)) rfl rfl) rfl (aB (aC ?_))))
    refine bB rfl (fun h46 => ?_) (fun h46 => ?_)
    ·refine aD (aA (dV rfl rfl (dV rfl rfl (aY rfl rfl (wq (bR (i) aGi rfl rfl rfl ((hl.rd.mem hM9).below_len (aJ OpRow.cells hx)) ((hl.rd.mem hM9).someK (aJ OpRow.cells hx))) rfl (wq (dZ _ bBu (hl.rd.mem hM9) (aJ OpRow.cells hx) rfl) rfl ?_))))))
     refine aV 51 (.agg (eB x.o x.A x.n x.c).toArray) rfl (cT [.agg (List.toArray _)] [x.cells] rfl aGi hM9 rfl rfl rfl rfl (dA rfl) (by decide) (fun b10 w10 M10 => ?_))
     have M11 : Mem _ _ ([_, _, _, _, _, _, _, _] ++ _) _ := Mem.front (L := [_, _, _, _, _, _, _]) M10
     refine dR 5 [x.cells] aGi M11 rfl rfl rfl rfl rfl hqr rfl (by simp [OpRow.cells, eB, aF, Go.Bil.one]) (cZ.ofMem 7 M11 rfl) (by omega) (fun A12 c12 e12 w12 M12 hR12 => (fJ rfl rfl (aB (aC (aA (dV rfl rfl (dV rfl rfl (aY rfl rfl ?_))))))))
     refine wq (bR (i) qF rfl rfl rfl ((hq2.rd M12 (aP (i := 4) rfl)).below_len (hpa2)) ((hq2.rd M12 (aP (i := 4) rfl)).someK (hpa2))) rfl (wq (dZ _ fS (hq2.rd M12 (aP (i := 4) rfl)) (hpa2) rfl) rfl (aV 58 (.agg (dB z pa).toArray) rfl (cT [.agg (List.toArray _)] [dB z pa] rfl qF M12 rfl rfl rfl rfl (dA rfl) (by decide) (fun b13 w13 M13 => ?_))))
     have M14 : Mem _ _ ([_, _, _, _, _, _, _, _, _] ++ _) _ := Mem.front (L := [_, _, _, _, _, _, _, _]) M13
     refine dR 6 [dB z pa] qF M14 rfl rfl rfl rfl rfl hqw rfl (by simp [dB, Go.Bil.one]) (cZ.ofMem 8 M14 rfl) (by omega) (fun A15 c15 e15 w15 M15 hR15 => (fJ rfl rfl (aB (dE (aC (aA (aY rfl rfl ?_)))))))
     refine wq (bQ rfl rfl (by omega) (by omega)) rfl (bO rfl rfl (aB ?_))
     have he : (eI (jE [] ((fT l).take i)) x.o).2.err = 0 := by rw [← hze]; omega
     have hk : x.o.kind ≠ 5 := by omega
     have hyes := aHo hxo he hk
     refine cR (i + 1, ⟨A12, qr.n + 1, c12, e12⟩, ⟨A15, qw.n + 1, c15, e15⟩, lr ++ [x], ws ++ [pa]) (bM rfl (bM rfl (bM rfl eX))) (cV rfl (cV rfl (cV rfl kA))) ?_ ?_
     ·exact ⟨⟨by omega, aQk hx he hk hlr, aTv hx hsub, by rw [List.map_append]; exact hR12, by rw [hyes.2, List.length_append, List.length_append, hws]; rfl, by rw [hyes.2, ← hze, aCa hws]; exact hR15⟩, Mem.keepL (L := [_, _, _, _, _, _, _, _, _]) [true, true, true, true, true, true, true, false, false] M15⟩
     ·(show n - (i + 1) < n - i; omega)
    ·refine aK (dE (aC (aA (aY rfl rfl (wq (bQ rfl rfl (by omega) (by omega)) rfl (bO rfl rfl ?_))))))
     refine aB ?_
     have hno : ¬ ((eI (jE [] ((fT l).take i)) x.o).2.err = 0 ∧ x.o.kind ≠ 5) := by rw [← hze]; omega
     refine cR (i + 1, qr, qw, lr, ws) (bM rfl (bM rfl (bM rfl eX))) (cV rfl (cV rfl (cV rfl kA))) ?_ ?_
     ·exact ⟨⟨by omega, by rw [(qY hxo hno).1]; exact hlr, hsub, hqr, by rw [(qY hxo hno).2]; exact hws, by rw [(qY hxo hno).2]; exact hqw⟩, hM9⟩
     ·(show n - (i + 1) < n - i; omega)
   ·refine aS rfl rfl (aS rfl rfl (aS rfl rfl (aS rfl rfl (aS rfl rfl (aS rfl rfl ?_)))))
    refine wq (bX false (.bool false) rfl rfl) rfl (aB (aC (bY rfl (aK (dE (aC (aA ?_)))))))
    refine aY rfl rfl (wq (bQ rfl rfl (by omega) (by omega)) rfl (bO rfl rfl (aB ?_)))
    have hno : ¬ ((eI (jE [] ((fT l).take i)) x.o).2.err = 0 ∧ x.o.kind ≠ 5) := by rw [← hze]; omega
    refine cR (i + 1, qr, qw, lr, ws) (bM rfl (bM rfl (bM rfl eX))) (cV rfl (cV rfl (cV rfl kA))) ?_ ?_
    ·exact ⟨⟨by omega, by rw [(qY hxo hno).1]; exact hlr, hsub, hqr, by rw [(qY hxo hno).2]; exact hws, by rw [(qY hxo hno).2]; exact hqw⟩, hM9⟩
    ·(show n - (i + 1) < n - i; omega)
  ·have hin : i = n := by omega
   rw [hin, List.take_of_length_le (by rw [lX]; omega)] at hlr hws hqw hqwn hwl hkl hll
   have hby3 : ∀ x ∈ lr, x.n ≤ 1000000 := fun x hx => hby2 x (hsub x hx)
   obtain ⟨hk1, hk2, hk3⟩ := zR (fT l) []
   refine cQ (dC (cX (eT (aC (aD (aA (cA aNo rfl rfl (lA _ (F.mem hM9) (N.mem hM9) none 0 0 [] (OpsRd.none _) (by simp) (by decide)) ?_)))))))
   rintro v16 w16 ⟨wb2, r5, rfl, hr5, hM16⟩
   have M16 : Mem _ _ ([_, _, _, _, _, _, _, _, _, _] ++ _) _ := Mem.front (L := [_, _, _, _, _, _, _]) (hM9.call0 hM16)
   have hr5 : cC 39 r5 [] := hr5
   refine wq (aI (.pointer _) rfl) rfl (aB (aC (aD (aA (wq (aG (.pointer _) rfl) rfl (dV rfl rfl (cA aUz rfl rfl (uQ _ qr.A qr.n qr.c lr ⟨(hqr.rd M16 (aP (i := 5) rfl)), fun x hx => (hl.each x (hsub x hx)).mem M16⟩ (by omega)) ?_)))))))
   rintro v17 w17 ⟨q3, rfl, hq3, hM17⟩
   have M17 : Mem _ _ ([_, _, _, _, _, _, _, _, _, _, _] ++ _) _ := Mem.front (L := [_, _, _, _, _, _, _, _, _, _]) (M16.call0 hM17)
   have hq3n : (lr).length = q3.n := by simpa using hq3.1
   refine cA aMs rfl rfl (oJ _ (F.mem M17) (N.mem M17) _ r5 _ hr5 (M17.ownSeg 7 3) (M17.away 7 3 F (by simp)) (M17.away 7 3 N (by simp)) q3.A q3.n q3.c lr ⟨(hq3.rd M17 (aP (i := 10) rfl)), fun x hx => (hl.each x (hsub x hx)).mem M17⟩ hby3 (by omega) (hq3.awayS M17 7 3 10 rfl rfl) (fun x hx => M17.away 7 3 (hl.each x (hsub x hx)).rd (by simp))) ?_
   rintro v18 w18 ⟨r6, q4, rs2, rfl, hr6, hq4, hoR2, hM18⟩
   have M18 : Mem _ _ ([_, _, _, _, _, _, _, _, _, _, _, _] ++ _) _ := Mem.front (L := [_, _, _, _, _, _, _, _, _, _, _]) (Mem.segU (L := [_, _, _, _, _, _, _, _, _, _, _]) (B := [_, _, _]) (A := [_]) 7 3 M17 (Nat.le_of_ble_eq_true rfl) hM18)
   have hq4n : (jL [] (fT (lr))).length = q4.n := by have h : (lT _ rs2).length = q4.n := hq4.1; rwa [pP hoR2.len] at h
   rw [nL, lX] at hq4n
   rw [hlr] at hr6 hoR2 hq4
   rw [hk1] at hr6
   rw [hk2] at hoR2 hq4
   refine fJ rfl rfl (aB (aC (aD (aD (aA (bO rfl rfl (aB (aC (aT (dL (σ := Nat) [0, 5, 7, 8] (fun k => [(9, .int .i64 (k : Int))]) (fun k w' => k ≤ qw.n ∧ Mem w [] ([(some wb, bc [.slice r2.A r2.n r2.c, .map r2.p] 107), r2.er, r2.em, q1.e, q2.e, qr.e, qw.e, (some wb2, bc [.slice r6.A r6.n r6.c, .map r6.p] 107), r6.er, r6.em, q3.e, q4.e] ++ (rs.map Row.e ++ rs2.map Row.e)) w') (fun k => qw.n - k) 0 (bM rfl eX) (⟨by omega, M18⟩) ?_))))))))))
   rintro k ρ19 w19 ⟨hk, hM19⟩
   refine aD (aD (aA (aY rfl rfl (dV rfl rfl (wq (cN Tryz.underlying63 rfl) rfl (cY rfl rfl rfl rfl (wq (aG (.bool (decide _)) rfl) rfl ?_)))))))
   refine dH 70 rfl (fun g70 => ?_) (fun g70 => ?_)
   ·obtain ⟨z, hz⟩ := cI (xs := iC [] (fT l)) (k := k) rfl (by omega)
    obtain ⟨pa, hpa1, hpa2⟩ := mQ (j := k) hws hz
    obtain ⟨pb, hpb1, hpb2⟩ := mQ (j := k) hoR2.len hz
    have hz0 := hk3 z (List.mem_of_getElem? hz)
    refine dV rfl rfl (wq (cN Tryz.underlying63 rfl) rfl (dV rfl rfl (wq (cN Tryz.underlying63 rfl) rfl (cY rfl rfl rfl rfl (nU 75 rfl (by omega) ?_)))))
    refine wq (bX true (.bool true) rfl rfl) rfl (aB (aC (cS rfl (aK (aC (aD (aT (aD (bP [(0, 0), (1, 0), (2, 1), (3, 1), (4, 1), (5, 0), (6, 0), (7, 0), (8, 0), (9, 1), (10, 1), (11, 1), (12, 0), (13, 0), (14, 1), (15, 1), (16, 1), (17, 0), (18, 0), (19, 0), (20, 0), (21, 0), (22, 1), (23, 1), (24, 1), (25, 0), (26, 0), (27, 1), (28, 1), (29, 1), (30, 0), (31, 0)] mixed rfl (by kernel_rfl) (fun w20 hb20 hh20 => ?_))))))))))
    have M20 := hM19.drew hb20 hh20
    refine xG rfl rfl rfl (gR rfl rfl rfl (bW rfl rfl rfl (bR (k) qF rfl rfl rfl ((hq4.rd M20 (aP (i := 11) rfl)).below_len (hpb2)) ((hq4.rd M20 (aP (i := 11) rfl)).someK (hpb2))) (bW rfl rfl rfl (bH 0 oO (hq4.rd M20 (aP (i := 11) rfl)) (Nat.lt_of_le_of_lt (Nat.zero_le _) ((hq4.rd M20 (aP (i := 11) rfl)).below_len (hpb2))) rfl) ?_)))
    refine bW rfl rfl rfl (dS (o := 0) (.int _ _) nO (hq4.rd M20 (aP (i := 11) rfl)) (hpb2) rfl rfl) (aX rfl rfl rfl (fun _ => dY (.bool (decide _)) rfl rfl rfl) (fY 84 (.bool false) (bF (by omega)).symm (aX rfl rfl rfl (fun _ => aG (.bool false) rfl) (xG rfl rfl rfl (gR rfl rfl rfl ?_)))))
    refine bW rfl rfl rfl (bR (k) qF rfl rfl rfl ((hq4.rd M20 (aP (i := 11) rfl)).below_len (hpb2)) ((hq4.rd M20 (aP (i := 11) rfl)).someK (hpb2))) (bW rfl rfl rfl (bH 2 aDh (hq4.rd M20 (aP (i := 11) rfl)) (Nat.lt_of_le_of_lt (Nat.zero_le _) ((hq4.rd M20 (aP (i := 11) rfl)).below_len (hpb2))) rfl) ?_)
    refine bW rfl rfl rfl (dS (o := 2) (.int _ _) gY (hq4.rd M20 (aP (i := 11) rfl)) (hpb2) rfl rfl) (xG rfl rfl rfl (gR rfl rfl rfl (bW rfl rfl rfl (bR (k) qF rfl rfl rfl ((hqw.rd M20 (aP (i := 6) rfl)).below_len (hpa2)) ((hqw.rd M20 (aP (i := 6) rfl)).someK (hpa2))) (bW rfl rfl rfl (bH 2 aDh (hqw.rd M20 (aP (i := 6) rfl)) (Nat.lt_of_le_of_lt (Nat.zero_le _) ((hqw.rd M20 (aP (i := 6) rfl)).below_len (hpa2))) rfl) ?_))))
    refine bW rfl rfl rfl (dS (o := 2) (.int _ _) gY (hqw.rd M20 (aP (i := 6) rfl)) (hpa2) rfl rfl) (aX rfl rfl rfl (fun _ => dY (.bool (decide _)) rfl rfl rfl) (fY 96 (.bool false) (bF (fun h => h rfl)).symm (aX rfl rfl rfl (fun _ => bX false (.bool false) rfl rfl) (aX rfl rfl rfl (fun _ => aG (.bool false) rfl) ?_))))
    refine xG rfl rfl rfl (gR rfl rfl rfl (bW rfl rfl rfl (bR (k) qF rfl rfl rfl ((hq4.rd M20 (aP (i := 11) rfl)).below_len (hpb2)) ((hq4.rd M20 (aP (i := 11) rfl)).someK (hpb2))) (bW rfl rfl rfl (bH 3 aDl (hq4.rd M20 (aP (i := 11) rfl)) (Nat.lt_of_le_of_lt (Nat.zero_le _) ((hq4.rd M20 (aP (i := 11) rfl)).below_len (hpb2))) rfl) ?_)))
    refine bW rfl rfl rfl (dS (o := 3) (.bool _) mD (hq4.rd M20 (aP (i := 11) rfl)) (hpb2) rfl rfl) (xG rfl rfl rfl (gR rfl rfl rfl (bW rfl rfl rfl (bR (k) qF rfl rfl rfl ((hqw.rd M20 (aP (i := 6) rfl)).below_len (hpa2)) ((hqw.rd M20 (aP (i := 6) rfl)).someK (hpa2))) (bW rfl rfl rfl (bH 3 aDl (hqw.rd M20 (aP (i := 6) rfl)) (Nat.lt_of_le_of_lt (Nat.zero_le _) ((hqw.rd M20 (aP (i := 6) rfl)).below_len (hpa2))) rfl) ?_))))
    refine bW rfl rfl rfl (dS (o := 3) (.bool _) mD (hqw.rd M20 (aP (i := 6) rfl)) (hpa2) rfl rfl) (aX rfl rfl rfl (fun _ => sC _ Tryz.underlying4 rfl rfl rfl) (fY 109 (.bool false) (bv rfl (by simp)) (aX rfl rfl rfl (fun _ => bX false (.bool false) rfl rfl) (cE (aC ?_)))))
    refine bY rfl (aK (dE (aC (aA (aY rfl rfl (wq (bQ rfl rfl (by omega) (by omega)) rfl ?_))))))
    refine bO rfl rfl (aB ?_)
    refine cR (k + 1) (bM rfl eX) (cV rfl (cV rfl (cV rfl (cV rfl kA)))) ?_ ?_
    ·exact ⟨by omega, M20⟩
    ·omega
   ·refine aS rfl rfl (aS rfl rfl (aS rfl rfl (aS rfl rfl (aS rfl rfl (wq (bX false (.bool false) rfl rfl) rfl ?_)))))
    refine aB (aC (bY rfl (cQ (dC (cX (eT ?_))))))
    refine aC (aD (aA (dV rfl rfl (wq (cN Tryz.underlying63 rfl) rfl (dV rfl rfl (wq (cN Tryz.underlying63 rfl) rfl (cY rfl rfl rfl rfl ?_)))))))
    refine nU 115 rfl (by omega) (wq (aG (.bool true) rfl) rfl (wq (aG (.pointer _) rfl) rfl (cA aNp rfl rfl (oS _ _ r6 _ hr6 (hM19.ownSeg 7 3)) ?_)))
    rintro v21 w21 ⟨qv, rfl, hqv, hM21⟩
    have M21 : Mem _ _ ([_, _, _, _, _, _, _, _, _, _, _, _, _] ++ _) _ := Mem.front (L := [_, _, _, _, _, _, _, _, _, _, _, _]) (hM19.seg 7 3 hM21)
    refine dV rfl rfl (cA aUz rfl rfl (uQ _ A n c l (hl.mem M21) hn2) ?_)
    rintro v22 w22 ⟨q5, rfl, hq5, hM22⟩
    have M22 : Mem _ _ ([_, _, _, _, _, _, _, _, _, _, _, _, _, _] ++ _) _ := Mem.front (L := [_, _, _, _, _, _, _, _, _, _, _, _, _]) (M21.call0 hM22)
    have hq5n : (l).length = q5.n := by simpa using hq5.1
    refine cA aNo rfl rfl (lA _ (F.mem M22) (N.mem M22) q5.A q5.n q5.c l ⟨(hq5.rd M22 (aP (i := 13) rfl)), fun x hx => (hl.each x hx).mem M22⟩ hby2 (by omega)) ?_
    rintro v23 w23 ⟨wb3, r7, rfl, hr7, hM23⟩
    have M23 : Mem _ _ ([_, _, _, _, _, _, _, _, _, _, _, _, _, _, _, _, _] ++ _) _ := Mem.front (L := [_, _, _, _, _, _, _, _, _, _, _, _, _, _]) (M22.call0 hM23)
    refine cA aNp rfl rfl (oS _ _ r7 _ hr7 (M23.ownSeg 14 3)) ?_
    rintro v24 w24 ⟨qx, rfl, hqx, hM24⟩
    have M24 : Mem _ _ ([_, _, _, _, _, _, _, _, _, _, _, _, _, _, _, _, _, _] ++ _) _ := Mem.front (L := [_, _, _, _, _, _, _, _, _, _, _, _, _, _, _, _, _]) (M23.seg 14 3 hM24)
    refine cA bHq rfl rfl (aLi _ _ _ _ _ (hqv.rd M24 (aP (i := 12) rfl)) _ _ _ _ (hqx.rd M24 (aP (i := 17) rfl))) ?_
    rintro v25 w25 ⟨rfl, hb25⟩
    have M25 := M24.callB hb25
    refine nU 123 rfl rfl (wq (bX true (.bool true) rfl rfl) rfl (wq (aI (.bool true) rfl) rfl (aB (aC (aO (cD (.bool true) rfl ?_))))))
    exact ⟨rfl, M25.below⟩
namespace scriptErrors
open Go.ChangeShapes Go.WideShapes Go.ChangeAt Go.RowKit
open Go.ChangeMaps (open_string shut_string)
theorem own : ownKnob Tryz.prog.godebug = none := by kernel_rfl
theorem laidOut : laidOutB Tryz.prog = true := by kernel_rfl
set_option maxRecDepth 100000 in
theorem lifted (os : Os) (started : os.Started) (H : Type) (enc : TypeId × Value → H) :
  ReturnsInHanded {} Tryz.checked os 8 .any (fun w args => (Rows.scriptErrorsSpec.pre enc Tryz.prog Tryz.f8 [] false w args ∧ laidMet Tryz.prog xS w) ∧ sizedMet enc Tryz.prog Tryz.f8 (OpenSpec.ofChange Rows.scriptErrorsSpec) false w args) (Rows.scriptErrorsSpec.post enc Tryz.prog Tryz.f8 false true false false) := by
 refine returnsInHanded_of_change_and (C := Tryz.checked) (X := fun w _ => laidMet Tryz.prog xS w) (fun _ _ _ hh h => h.of_heap hh) own started (by kernel_rfl) Tryz.func8
  (ChangeSpec.witness_at (enc := enc) (C := Tryz.checked) (os := os) (X := fun w _ => laidMet Tryz.prog xS w) false (aOk os) #[.slice none 0 0] 8 rfl (by kernel_rfl) (by kernel_rfl) (by kernel_rfl) (by kernel_rfl) (by kernel_rfl) (laidMet_of_run' 8 (by kernel_rfl) (by kernel_rfl))) ?_
 intro W base args ds gs before hval0 hW hcnd hsz0 hL _
 have hsz : (DataW.weightsEach Tryz.prog (Tryz.f8.params.toList ++ Rows.scriptErrorsSpec.plain.varTypes Tryz.prog) (ds ++ gs)).all (· ≤ reachBytes) = true := hsz0
 have hval : ∀ (j : Nat) t v, Tryz.f8.params[j]? = some t → args[j]? = some v → Value.okWide Tryz.prog W .any base t v := hval0
 have hW' := hW
 obtain ⟨p, q, hA0, hV, rfl, hfz, hnd⟩ := hW
 have hA : DataW.TrodAll enc Tryz.prog W 0 (fun _ => true) true Tryz.f8.params.toList args.toList ds p := hA0
 rw [Tryz.params8] at hA hval hsz
 obtain ⟨v0, vs0, d0, ds0, p0, q0, hargs, rfl, rfl, h0, r0⟩ := trodAll_cons hA
 obtain ⟨rfl, rfl, rfl⟩ := trodAll_nil r0
 obtain rfl : args = #[v0] := by cases args; simp_all
 obtain ⟨rfl, rfl⟩ := trodVars_none hV
 have k0 := h0
 have lt0 : ∀ x ∈ p0, x.block < W.heap.size := by obtain ⟨m, hm⟩ := k0; exact DataW.trod_lt m _ _ _ hm
 obtain ⟨a0, len0, cap0, rfl⟩ := okWide_slice Tryz.underlying22 (hval 0 22 v0 rfl rfl)
 have y0 : ∀ n ∈ d0.weights Tryz.prog 22, n ≤ reachBytes := fun n hn => by simpa using List.all_eq_true.1 hsz _ (DataW.weights_mem_each (j := 0) rfl rfl n hn)
 obtain ⟨xs0, R0⟩ := aSk aGi bHo y0 h0
 clear hA0 hval0 hsz0 hsz
 refine (uM W (rdF hL) (rdN hL) _ _ _ xs0 R0).mono fun e W' ⟨v, he, hv, bel⟩ => ?_
 subst he
 subst hv
 exact ⟨_, rfl, _, _, _, [], _, [], hW', trodAll_mk1 (shut_bool Tryz.underlying4 _), (trodAll_cons_mk (Below.trod laidOut (by kernel_rfl) (of_decide_eq_true (by kernel_rfl)) k0 bel lt0) trodAll_mk0), rfl, bel.frame _, fun h => by cases h⟩
theorem andT {a b : Bool} (ha : a = true) (hb : b = true) : (a && b) = true := by rw [ha, hb]; rfl
set_option maxHeartbeats 16000000 in
theorem closed : joinedFacts Tryz.prog 8 Tryz.f8 Rows.scriptErrorsSpec Rows.scriptErrorsRow = true := by
 unfold joinedFacts
 repeat' (with_reducible refine andT ?_ ?_)
 all_goals (as_aux_lemma => kernel_rfl)
theorem over : Rows.scriptErrorsRow.holds Tryz.pinned (OpenSpec.ofChange Rows.scriptErrorsSpec) :=
 OpenClaim.holds_of_wide 8 Tryz.f8 rfl rfl rfl rfl rfl rfl rfl ⟨rfl, rfl, rfl, rfl, rfl⟩ rfl rfl rfl rfl rfl (by kernel_rfl) Tryz.func8 closed
  (of_decide_eq_true (by kernel_rfl)) (by unfold Func.isWrapper; first | (rw [if_pos (by decide +kernel)]; kernel_rfl) | (rw [if_neg (by decide +kernel)]; exact ⟨rfl, rfl⟩))
  (fun os started H enc _ => lifted os started H enc)
end scriptErrors
theorem scriptErrors_holds : Rows.ScriptErrorsSaid := scriptErrors.over
#print axioms scriptErrors_holds
theorem scriptErrors_cw : Rows.scriptErrorsRow.wfByText (OpenSpec.ofChange Rows.scriptErrorsSpec) = true := by kernel_rfl
theorem scriptErrors_cl : false = Tryz.checked.prog.looks [] := by kernel_rfl
theorem scriptErrors_cg : false = Rows.scriptErrorsRow.goesBy Tryz.pinned.checked.prog := by kernel_rfl
theorem scriptErrors_cm : Tryz.pinned.checked.prog.mainIs = some (true, "60fad30dfb67d9dd14e679b449d58df77fa72712b07425b57b34720f96154737".toList) := by kernel_rfl
theorem scriptErrors_cf : Tryz.prog.funcNamed "billiard/billiardlaw23.ScriptErrors" = some 8 := by kernel_rfl
theorem scriptErrors_card : Rows.ScriptErrorsCardSaid :=
 Claim7.holds_tied_plain_at .later [] [.data, .data] true (true, "60fad30dfb67d9dd14e679b449d58df77fa72712b07425b57b34720f96154737") false
  scriptErrors_holds (fun _ h => by cases h) scriptErrors_cw (fun _ h => by cases h) scriptErrors_row_tie rfl ⟨rfl, rfl⟩ scriptErrors_cm rfl
  (fun f fn hf hfn => by
   obtain rfl : f = 8 := Option.some.inj (scriptErrors_cf.symm.trans hf) |>.symm
   obtain rfl : fn = Tryz.f8 := (Option.some.inj (Tryz.func8.symm.trans hfn)).symm
   exact ⟨scriptErrors_cl, fun j t ht => by
    rw [Tryz.params8] at ht
    have hm : t ∈ [22] := by simpa using Array.mem_of_getElem? ht
    have hall : ([22].all fun u => !Tryz.prog.wantsStandIn u) = true := by kernel_rfl
    exact (show Tryz.prog.wantsStandIn t = false by simpa using List.all_eq_true.1 hall t hm)⟩)
  scriptErrors_cg
#print axioms scriptErrors_card
end Go.Proofs.YtaoaknafiegfoaaGreatDoor
