/- Part of the proof of the laws of this seat: S20i, S20j, S20k, S20l, S20m, S20n, R20a, R20b, R20c, R20d, R20e, R20f. No conditions. -/
import Derived.Test.YtaoaknafiegfoaaGreatDoorK2
import Derived.Test.YtaoaknafiegfoaaGreatDoorK5
import Derived.Test.YtaoaknafiegfoaaGreatDoorK27
import Derived.Test.YtaoaknafiegfoaaGreatDoorK30
import Derived.Test.YtaoaknafiegfoaaGreatDoorK29
import Derived.Test.YtaoaknafiegfoaaGreatDoorK28
set_option linter.unusedVariables false
set_option linter.unusedSimpArgs false
set_option linter.unnecessarySimpa false
namespace Go.Proofs.YtaoaknafiegfoaaGreatDoor
open Go.Bil
open Go.RowKit (Below)
open Go.Proofs
set_option maxHeartbeats 4000000 in
theorem kN (w : World) (a l : Int) (hl : 0 ≤ l ∧ l ≤ 2147483647) (bf : Nat) (fl : Bool) (F : Option Addr) (cf : Nat) (RF : Rd w 1 F 1 [[.pointer (some ⟨bf, 0, none⟩)]]) (hdF : 0 < 1 → ∀ q off, F = some ⟨q, off, none⟩ → q ∉ bH [(some bf, bc [.bool fl] 4)]) (hO : Own [(some bf, bc [.bool fl] 4)] w) :
  Calls Tryz.prog 112 #[.int .i64 a, .int .i64 l, .slice F 1 cf] w (fun ex w' => ∃ v, ex = .returned v ∧ (fun v w' => v = .int .i32 (iU a l) ∧ Mem w (bH [(some bf, bc [.bool fl] 4)]) [(some bf, bc [.bool (fl || decide (iU a l ≠ a))] 4)] w') v w') := by
 have hr := eI a hl.1
 refine aH #[.tmp 6] 34 Tryz.func112 rfl Tryz.results112 Tryz.ntmps112 rfl ?_
 have M0 := hO.mem
 refine aD (aA (bP rfl rfl (aB (aC (aD (aA (aY rfl rfl (aY rfl rfl (bX aLi rfl rfl (zL _ a l (by omega)) ?_)))))))))
 rintro v1 w1 ⟨rfl, hb1⟩
 have M1 := M0.callB hb1
 refine wq (aG (.tuple (List.toArray _)) rfl) rfl (wq (bE (.int _ _) rfl rfl) rfl (wq (bE (.bool (decide _)) rfl rfl) rfl (bP rfl rfl (wq (aI (.bool (decide _)) rfl) rfl (aB (aC (aD (aD (aA ?_)))))))))
 refine eG rfl rfl (wq (cP Tryz.underlying201 rfl) rfl (aT 18 (.int .i64 1) (iE rfl) (aY rfl rfl (aB (aC (aS (lZ 2 (gZ ?_))))))))
 refine aD (aA (dA rfl rfl rfl rfl (rI 20 rfl (by first | decide | omega) (aB (aC (aD (cM rfl (aK (aC (aD (aS (aD (aA ?_)))))))))))))
 refine wq (bN (0) aBz rfl rfl rfl ((RF.memY M1 hdF).below_len ((show ([[.pointer (some ⟨bf, 0, none⟩)]] : List (List Value))[0]? = some [.pointer (some ⟨bf, 0, none⟩)] from rfl))) ((RF.memY M1 hdF).someK ((show ([[.pointer (some ⟨bf, 0, none⟩)]] : List (List Value))[0]? = some [.pointer (some ⟨bf, 0, none⟩)] from rfl)))) rfl ?_
 refine wq (iB (.pointer _) bDs (RF.memY M1 hdF) ((show ([[.pointer (some ⟨bf, 0, none⟩)]] : List (List Value))[0]? = some [.pointer (some ⟨bf, 0, none⟩)] from rfl)) rfl) rfl (wq (aI (.pointer _) rfl) rfl (aB (aC (aA (wq (aG (.pointer _) rfl) rfl (wq (aG (.pointer _) rfl) rfl ?_))))))
 refine wq (aO rfl) rfl (wq (aL 0 (.bool _) nV M1 rfl rfl rfl) rfl (wq (aG (.bool _) rfl) rfl ?_))
 refine nK 27 _ rfl (fun g27 => ?_) (fun g27 => ?_)
 ·refine aN rfl rfl (wq (bQ true (.bool true) rfl rfl) rfl (wq (aO rfl) rfl (dX 0 (.bool true) nV M1 rfl rfl rfl rfl rfl rfl (fun w2 M2 => (aB (dE ?_))))))
  refine aC (aA (wq (bU rfl rfl (by first | decide | omega) (by first | decide | omega)) rfl (aT 31 (.int .i64 1) (iE (by first | decide | omega)) (aY rfl rfl (aB (aC (gZ ?_)))))))
  refine aD (aA (dA rfl rfl rfl rfl (uZ 20 rfl (by first | decide | omega) (aB (aC (aD (cB rfl (cR ?_))))))))
  refine cZ (cZ (eQ (aC (aD (aA (aY rfl rfl (wq (bZ us2 Tryz.underlying21 rfl (lV _ (by omega) (by omega))) rfl (bP rfl rfl ?_))))))))
  refine aB (aC (aM (bW (.int _ _) rfl ?_)))
  first | exact ⟨rfl, by rw [(by simp only [g27, Bool.true_or] : (fl || decide (iU a l ≠ a)) = true)]; exact M2⟩ | exact ⟨rfl, by rw [(by simp only [g27, Bool.false_or] : (fl || decide (iU a l ≠ a)) = decide (iU a l ≠ a))]; exact M2⟩
 ·refine wq (aG (.bool (decide _)) rfl) rfl (wq (bQ false (.bool (decide _)) rfl rfl) rfl (wq (aO rfl) rfl (dX 0 (.bool (decide _)) nV M1 rfl rfl rfl rfl rfl rfl (fun w3 M3 => (aB (dE ?_))))))
  refine aC (aA (wq (bU rfl rfl (by first | decide | omega) (by first | decide | omega)) rfl (aT 31 (.int .i64 1) (iE (by first | decide | omega)) (aY rfl rfl (aB (aC (gZ ?_)))))))
  refine aD (aA (dA rfl rfl rfl rfl (uZ 20 rfl (by first | decide | omega) (aB (aC (aD (cB rfl (cR ?_))))))))
  refine cZ (cZ (eQ (aC (aD (aA (aY rfl rfl (wq (bZ us2 Tryz.underlying21 rfl (lV _ (by omega) (by omega))) rfl (bP rfl rfl ?_))))))))
  refine aB (aC (aM (bW (.int _ _) rfl ?_)))
  first | exact ⟨rfl, by rw [(by simp only [g27, Bool.true_or] : (fl || decide (iU a l ≠ a)) = true)]; exact M3⟩ | exact ⟨rfl, by rw [(by simp only [g27, Bool.false_or] : (fl || decide (iU a l ≠ a)) = decide (iU a l ≠ a))]; exact M3⟩
set_option maxHeartbeats 4000000 in
theorem aRw (w : World) (i : Int) (b : Body) (hb : Okb b) (bf : Nat) (fl : Bool) (hO : Own [(some bf, bc [.bool fl] 4)] w) :
  Calls Tryz.prog 110 #[.int .i64 i, (.agg (aF b).toArray), .pointer (some ⟨bf, 0, none⟩)] w (fun ex w' => ∃ v, ex = .returned v ∧ (fun v w' => v = (.agg (aF (pI b)).toArray) ∧ Mem w (bH [(some bf, bc [.bool fl] 4)]) [(some bf, bc [.bool (fl || qH b)] 4)] w') v w') := by
 have hv := hb.v
 refine aH #[.cell 5 39] 19 Tryz.func110 rfl Tryz.results110 Tryz.ntmps110 rfl ?_
 have M0 := hO.mem
 refine aD (aA (bG (.agg (List.toArray _)) M0 rfl rfl rfl (fun b1 w1 M1 => (aQ gS M1 rfl rfl (fun b2 w2 M2 => (aB (aC (aD (aD (aA (wq (bC 1 bS M2 rfl rfl rfl) rfl (bX bEd rfl rfl (aAv _ b) ?_))))))))))))
 rintro v3 w3 ⟨rfl, hb3⟩
 have M3 := M2.callB hb3
 refine wq (lM rfl) rfl (aB (aC ?_))
 refine aZ rfl (fun h8 => ?_) (fun h8 => ?_)
 ·refine aA (wq (aE 8 fA rfl) rfl (wq (aE 1 dJ rfl) rfl (wq (aL 1 (.int _ _) aU M3 rfl rfl rfl) rfl (wq (bZ fW Tryz.underlying2 rfl (kQ _ (by omega) (by omega))) rfl (wq (mD rfl rfl (by omega) (by omega)) rfl ?_)))))
  refine dB [.pointer _] [[.pointer (some ⟨bf, 0, none⟩)]] rfl aBz M3 rfl rfl rfl rfl (dI rfl) (by decide) (fun b4 w4 M4 => ?_)
  have hlit14 := kA (T := 174) (sz := 1) (b := b4) (nn := 1) [[.pointer (some ⟨bf, 0, none⟩)]] (by simp) rfl (by decide)
  refine bX aAf rfl rfl (kN _ (b.vy - 1024) 16777216 ⟨by decide, by decide⟩ bf _ _ 1 (hlit14.rd M4 (aX (i := 3) rfl)) (hlit14.awayB M4 3 0 rfl rfl rfl) (M4.ownSeg 0 1)) ?_
  rintro v5 w5 ⟨rfl, hM5⟩
  have M5 : Mem _ _ [_, _, _, _] _ := M4.seg 0 1 hM5
  refine wq (aE 8 fA rfl) rfl (wq (aE 1 dJ rfl) rfl (dX 1 (.int _ _) aU M5 rfl rfl rfl rfl rfl rfl (fun w6 M6 => (aB (aC (aD (aA (wq (bC 1 bS M6 rfl rfl rfl) rfl (bB 2 _ bS M6 rfl rfl rfl rfl rfl (aR rfl) rfl (fun w7 M7 => ?_))))))))))
  refine aB (aC (aM (eV 2 bS M7 rfl rfl rfl ?_)))
  exact ⟨by unfold pI; rw [if_neg h8]; rfl, by rw [show qH b = decide (iU (b.vy - 1024) 16777216 ≠ b.vy - 1024) by unfold qH; rw [decide_eq_true h8, Bool.true_and]]; exact M7.keep [true, false, false, false]⟩
 ·refine aK (aC (aD (aA (wq (bC 1 bS M3 rfl rfl rfl) rfl (bB 2 _ bS M3 rfl rfl rfl rfl rfl (aR rfl) rfl (fun w8 M8 => (aB (aC (aM (eV 2 bS M8 rfl rfl rfl ?_))))))))))
  exact ⟨by unfold pI; rw [if_pos (Decidable.not_not.1 h8)]; rfl, by rw [show qH b = false by unfold qH; rw [decide_eq_false h8, Bool.false_and], Bool.or_false]; exact M8.keep [true, false, false]⟩
set_option maxHeartbeats 4000000 in
theorem aJm (w : World) (A : Option Addr) (n c : Nat) (xs : List Body) (R : Rd w 10 A n (xs.map aF)) (hb : ∀ b ∈ xs, Okb b) (hn : n ≤ 1048576) (bf : Nat) (hO : Own [(some bf, bc [.bool false] 4)] w) (hdA : 0 < n → ∀ q off, A = some ⟨q, off, none⟩ → q ∉ bH [(some bf, bc [.bool false] 4)]) :
  Calls Tryz.prog 109 #[.slice A n c, .func (.func 110) #[] #[.pointer (some ⟨bf, 0, none⟩)]] w (fun ex w' => ∃ v, ex = .returned v ∧ (fun v w' => ∃ r : Row, v = .slice r.A r.n r.c ∧ aW 39 10 r.A r.n r.c ((rQ xs).map aF) r.e ∧ Mem w (bH [(some bf, bc [.bool false] 4)]) [(some bf, bc [.bool (xs.any qH)] 4), r.e] w') v w') := by
 have hlen : xs.length = n := by simpa using R.len
 have hbd := R.bound
 refine aH #[.tmp 4] 24 Tryz.func109 rfl Tryz.results109 Tryz.ntmps109 rfl ?_
 have M0 := hO.mem
 refine aD (aA (fP rfl rfl (aB (aC (aD (aA (fP rfl rfl ?_)))))))
 have M1 := M0.dummy default
 refine aB (aC (aD (aD (aA (eG rfl rfl (wq (cP Tryz.underlying29 rfl) rfl (aY rfl rfl (aB (aC (aS (dK (σ := Nat × Row) [1, 4, 8, 9] (fun (k, q) => [(5, .slice q.A q.n q.c), (10, .int .i64 (k : Int))]) (fun (k, q) w' => (k ≤ n ∧ aW 39 10 q.A q.n q.c (((xs.take k).map pI).map aF) q.e) ∧ Mem w (bH [(some bf, bc [.bool false] 4)]) [(some bf, bc [.bool ((xs.take k).any qH)] 4), q.e] w') (fun (k, q) => n - k) (0, gP) (bR rfl (bR rfl eZ)) (⟨⟨by omega, aW.nil _ _ _⟩, M1⟩) ?_)))))))))))
 rintro ⟨k, q⟩ ρ2 w2 ⟨⟨hk, hq⟩, hM2⟩
 have htl := List.length_take_le k xs
 have hqn : (xs.take k).length = q.n := by simpa using hq.1
 refine aD (aA (dA rfl rfl rfl rfl (aB (aC (aD ?_)))))
 refine aZ rfl (fun h11 => ?_) (fun h11 => ?_)
 ·obtain ⟨xb, hxb⟩ := cI (xs := xs) (k := k) hlen (by omega)
  refine aK (aC (aD (aS (aD (aA (aY rfl rfl (wq (bN (k) dW rfl rfl rfl ((R.memY hM2 hdA).below_len (aJ aF hxb)) ((R.memY hM2 hdA).someK (aJ aF hxb))) rfl (wq (dC _ bS (R.memY hM2 hdA) (aJ aF hxb) rfl) rfl (aQ gS hM2 rfl rfl (fun b3 w3 M3 => ?_))))))))))
  refine bP rfl rfl (bB 2 _ bS M3 rfl rfl rfl rfl rfl (aR rfl) rfl (fun w4 M4 => (aB (aC (aA (eG rfl rfl (wq (aG (.func _ _ _) rfl) rfl (aY rfl rfl ?_))))))))
  refine wq (bC 2 bS M4 rfl rfl rfl) rfl (bX bGj rfl rfl (aRw _ _ xb (hb xb (List.mem_of_getElem? hxb)) bf _ (M4.ownSeg 0 1)) ?_)
  rintro v5 w5 ⟨rfl, hM5⟩
  have M5 : Mem _ _ [_, _, _] _ := M4.seg 0 1 hM5
  refine dB [.agg (List.toArray _)] [aF (pI xb)] rfl dW M5 rfl rfl rfl rfl (dI rfl) (by decide) (fun b6 w6 M6 => (eC 1 [aF (pI xb)] dW M6 rfl rfl rfl rfl rfl hq rfl (by simp [aF, Go.Bil.one]) (dD.ofMem 3 M6 rfl) (by omega) (fun A7 c7 e7 w7 M7 hR7 => (fP rfl rfl ?_))))
  refine aB (dE (aC (aA (wq (bU rfl rfl (by omega) (by omega)) rfl (aY rfl rfl (aB ?_))))))
  refine cS (k + 1, ⟨A7, q.n + 1, c7, e7⟩) (bR rfl (bR rfl eZ)) (cV rfl (cV rfl (cV rfl (cV rfl jQ)))) ?_ ?_
  ·exact ⟨⟨by omega, by rw [cT hxb, List.map_append, List.map_append]; exact hR7⟩, by rw [cT hxb, List.any_append, List.any_cons, List.any_nil, Bool.or_false]; exact M7.keep [true, true, false, false]⟩
  ·(show n - (k + 1) < n - k; omega)
 ·have hkn : k = n := by omega
  rw [List.take_of_length_le (by omega)] at hq
  rw [List.take_of_length_le (by omega)] at hM2
  refine cR (cZ (cX (eQ (aC (aD (aA (eG rfl rfl ?_)))))))
  refine fP rfl rfl (aB (aC (aM (bW (.slice _ _ _) rfl ?_))))
  exact ⟨q, rfl, hq, hM2⟩
set_option maxHeartbeats 4000000 in
theorem aHy (w : World) (A : Option Addr) (n c : Nat) (xs : List Body) (R : Rd w 10 A n (xs.map aF)) (hb : ∀ b ∈ xs, Okb b) (hn : n ≤ 1048576) :
  Calls Tryz.prog 66 #[.slice A n c] w (fun ex w' => ∃ v, ex = .returned v ∧ (fun v w' => ∃ r : Row, v = .tuple #[.slice r.A r.n r.c, .bool (xs.any qH)] ∧ aW 39 10 r.A r.n r.c ((rQ xs).map aF) r.e ∧ Mem w [] [r.e] w') v w') := by
 refine aH #[.tmp 2, .tmp 3] 11 Tryz.func66 rfl Tryz.results66 Tryz.ntmps66 rfl ?_
 have M0 := Mem.refl w
 refine aD (aA (fP rfl rfl (wq (aI (.bool false) rfl) rfl (aB (aC (aD (aA (aQ aMx M0 rfl rfl (fun b1 w1 M1 => (dX 0 (.bool false) nV M1 rfl rfl rfl rfl rfl rfl (fun w2 M2 => ?_)))))))))))
 refine aB (aC (aD (aA (eG rfl rfl (wq (cO [] [.pointer _] rfl rfl) rfl (bX aWo rfl rfl (aJm _ A n c xs (R.mem M2) hb hn b1 (M2.ownSeg 0 1) (M2.away 0 1 R (by simp))) ?_))))))
 rintro v3 w3 ⟨r, rfl, hr, hM3⟩
 have M3 : Mem _ _ [_, _] _ := M2.seg 0 1 hM3
 refine fP rfl rfl (aB (aC (aD (bO [(0, 0), (1, 1), (2, 0), (3, 0)] mixed rfl (by kernel_rfl) (fun w4 hb4 hh4 => ?_)))))
 have M4 := M3.drew hb4 hh4
 refine oF rfl rfl rfl (bV rfl rfl rfl (aL 0 (.bool _) nV M4 rfl rfl rfl) (aV rfl rfl rfl (fun _ => aI (.slice _ _ _) rfl) (aV rfl rfl rfl (fun _ => aI (.bool _) rfl) (cD (aC (aM ?_))))))
 refine iH (.slice _ _ _) (.bool _) rfl rfl ?_
 exact ⟨r, rfl, hr, M4.keep [false, true]⟩
set_option maxHeartbeats 4000000 in
theorem aSc (w : World) (i : Nat) (b : Body) (hb : Okb b) (bf bl : Nat) (fl : Bool) (C : Option Addr) (m cm : Nat) (l : List (Int × Int)) (RS : Rd w 2 C m (l.map cL)) (s : Int × Int) (hs : l[i]? = some s) (hsb : (-1152921504606846976 ≤ s.1 ∧ s.1 ≤ 1152921504606846976) ∧ -1152921504606846976 ≤ s.2 ∧ s.2 ≤ 1152921504606846976) (hO : Own [(some bf, bc [.bool fl] 4), (some bl, bc [.slice C m cm] 127)] w) (hdS : 0 < m → ∀ q off, C = some ⟨q, off, none⟩ → q ∉ bH [(some bf, bc [.bool fl] 4), (some bl, bc [.slice C m cm] 127)]) :
  Calls Tryz.prog 113 #[.int .i64 (i : Int), (.agg (aF b).toArray), .pointer (some ⟨bl, 0, none⟩), .pointer (some ⟨bf, 0, none⟩)] w (fun ex w' => ∃ v, ex = .returned v ∧ (fun v w' => v = (.agg (aF (aDy b s.1 s.2)).toArray) ∧ Mem w (bH [(some bf, bc [.bool fl] 4), (some bl, bc [.slice C m cm] 127)]) [(some bf, bc [.bool (fl || aPb b s.1 s.2)] 4), (some bl, bc [.slice C m cm] 127)] w') v w') := by
 have hv := hb.v
 have hpp := hb.p
 have hlm : l.length = m := by simpa using RS.len
 have hil := (List.getElem?_eq_some_iff.1 hs).1
 refine aH #[.cell 6 39] 50 Tryz.func113 rfl Tryz.results113 Tryz.ntmps113 rfl ?_
 have M0 := hO.mem
 refine aD (aA (bG (.agg (List.toArray _)) M0 rfl rfl rfl (fun b1 w1 M1 => (aQ gS M1 rfl rfl (fun b2 w2 M2 => (aB (aC (aD (bO [(0, 0), (1, 0), (2, 1), (3, 0), (4, 1), (5, 0), (6, 1), (7, 1), (8, 1), (9, 0), (10, 0), (11, 0), (12, 1), (13, 0), (14, 0), (15, 0), (16, 0)] mixed rfl (by kernel_rfl) (fun w3 hb3 hh3 => ?_))))))))))
 have M3 := M2.drew hb3 hh3
 refine aV rfl rfl rfl (fun _ => aE 6 fR rfl) (aV rfl rfl rfl (fun _ => aE 0 dR rfl) (bV rfl rfl rfl (aL 2 (.int _ _) aU M3 rfl rfl rfl) (aV rfl rfl rfl (fun _ => bZ fW Tryz.underlying2 rfl (kQ _ (by omega) (by omega))) (bV rfl rfl rfl (aL 1 (.slice _ _ _) vC M3 rfl rfl rfl) ?_))))
 refine fV rfl rfl rfl (bV rfl rfl rfl (bN (i) zC rfl rfl rfl ((RS.memY M3 hdS).below_len (aJ cL hs)) ((RS.memY M3 hdS).someK (aJ cL hs))) (bV rfl rfl rfl (bJ 0 aAp (RS.memY M3 hdS) (Nat.lt_of_le_of_lt (Nat.zero_le _) ((RS.memY M3 hdS).below_len (aJ cL hs))) rfl) ?_))
 refine bV rfl rfl rfl (eJ (o := 0) (.int _ _) lS (RS.memY M3 hdS) (aJ cL hs) rfl rfl) (aV rfl rfl rfl (fun _ => bU rfl rfl (by omega) (by omega)) (aV rfl rfl rfl (fun _ => aE 8 fA rfl) (aV rfl rfl rfl (fun _ => aE 0 dR rfl) (bV rfl rfl rfl (aL 2 (.int _ _) aU M3 rfl rfl rfl) ?_))))
 refine aV rfl rfl rfl (fun _ => gM rfl rfl (by decide)) (fH 22 (.int .i32 (b.vx / 64)) (iE (aHt _)) (aV rfl rfl rfl (fun _ => bZ fW Tryz.underlying2 rfl (kQ _ (by omega) (by omega))) (aV rfl rfl rfl (fun _ => bU rfl rfl (by omega) (by omega)) (fH 24 (.int .i64 (aKn b s.1)) rfl (qN rfl rfl rfl ?_)))))
 refine cD (aC (aD (bO [(0, 0), (1, 0), (2, 1), (3, 0), (4, 1), (5, 0), (6, 1), (7, 1), (8, 1), (9, 0), (10, 0), (11, 0), (12, 1), (13, 0), (14, 0), (15, 0), (16, 0)] mixed rfl (by kernel_rfl) (fun w4 hb4 hh4 => ?_))))
 have M4 := M3.drew hb4 hh4
 refine aV rfl rfl rfl (fun _ => aE 6 fR rfl) (aV rfl rfl rfl (fun _ => aE 1 dJ rfl) (bV rfl rfl rfl (aL 2 (.int _ _) aU M4 rfl rfl rfl) (aV rfl rfl rfl (fun _ => bZ fW Tryz.underlying2 rfl (kQ _ (by omega) (by omega))) (bV rfl rfl rfl (aL 1 (.slice _ _ _) vC M4 rfl rfl rfl) ?_))))
 refine fV rfl rfl rfl (bV rfl rfl rfl (bN (i) zC rfl rfl rfl ((RS.memY M4 hdS).below_len (aJ cL hs)) ((RS.memY M4 hdS).someK (aJ cL hs))) (bV rfl rfl rfl (bJ 1 zD (RS.memY M4 hdS) (Nat.lt_of_le_of_lt (Nat.zero_le _) ((RS.memY M4 hdS).below_len (aJ cL hs))) rfl) ?_))
 refine bV rfl rfl rfl (eJ (o := 1) (.int _ _) lS (RS.memY M4 hdS) (aJ cL hs) rfl rfl) (aV rfl rfl rfl (fun _ => bU rfl rfl (by omega) (by omega)) (aV rfl rfl rfl (fun _ => aE 8 fA rfl) (aV rfl rfl rfl (fun _ => aE 1 dJ rfl) (bV rfl rfl rfl (aL 2 (.int _ _) aU M4 rfl rfl rfl) ?_))))
 refine aV rfl rfl rfl (fun _ => gM rfl rfl (by decide)) (fH 38 (.int .i32 (b.vy / 64)) (iE (aHt _)) (aV rfl rfl rfl (fun _ => bZ fW Tryz.underlying2 rfl (kQ _ (by omega) (by omega))) (aV rfl rfl rfl (fun _ => bU rfl rfl (by omega) (by omega)) (fH 40 (.int .i64 (aJr b s.2)) rfl (qN rfl rfl rfl ?_)))))
 refine cD (aC (aD (aA (aY rfl rfl (dB [.pointer _] [[.pointer (some ⟨bf, 0, none⟩)]] rfl aBz M4 rfl rfl rfl rfl (dI rfl) (by decide) (fun b5 w5 M5 => ?_))))))
 have hlit42 := kA (T := 174) (sz := 1) (b := b5) (nn := 1) [[.pointer (some ⟨bf, 0, none⟩)]] (by simp) rfl (by decide)
 refine bX aAf rfl rfl (kN _ (aKn b s.1) 1073741824 ⟨by decide, by decide⟩ bf _ _ 1 (hlit42.rd M5 (aX (i := 4) rfl)) (hlit42.awayB M5 4 0 rfl rfl rfl) (M5.ownSeg 0 1)) ?_
 rintro v6 w6 ⟨rfl, hM6⟩
 have M6 : Mem _ _ [_, _, _, _, _] _ := M5.seg 0 1 hM6
 refine aY rfl rfl (dB [.pointer _] [[.pointer (some ⟨bf, 0, none⟩)]] rfl aBz M6 rfl rfl rfl rfl (dI rfl) (by decide) (fun b7 w7 M7 => ?_))
 have hlit45 := kA (T := 174) (sz := 1) (b := b7) (nn := 1) [[.pointer (some ⟨bf, 0, none⟩)]] (by simp) rfl (by decide)
 refine bX aAf rfl rfl (kN _ (aJr b s.2) 1073741824 ⟨by decide, by decide⟩ bf _ _ 1 (hlit45.rd M7 (aX (i := 5) rfl)) (hlit45.awayB M7 5 0 rfl rfl rfl) (M7.ownSeg 0 1)) ?_
 rintro v8 w8 ⟨rfl, hM8⟩
 have M8 : Mem _ _ [_, _, _, _, _, _] _ := M7.seg 0 1 hM8
 refine wq (cH [(0, .int _ _), (1, .int _ _)] _ fE rfl rfl) rfl (wq (aE 6 fR rfl) rfl (aDw 2 _ bM M8 rfl rfl rfl rfl rfl (aR rfl) (Nat.le_of_ble_eq_true rfl) (fun w9 M9 => (aB (aC (aD (aA (wq (bC 2 bS M9 rfl rfl rfl) rfl (bB 3 _ bS M9 rfl rfl rfl rfl rfl (aR rfl) rfl (fun w10 M10 => ?_))))))))))
 refine aB (aC (aM (eV 3 bS M10 rfl rfl rfl ?_)))
 exact ⟨rfl, by rw [show (fl || aPb b s.1 s.2) = ((fl || decide (iU (aKn b s.1) 1073741824 ≠ aKn b s.1)) || decide (iU (aJr b s.2) 1073741824 ≠ aJr b s.2)) from (Bool.or_assoc _ _ _).symm]; exact M10.keep [true, true, false, false, false, false]⟩
set_option maxHeartbeats 4000000 in
theorem aKj (w : World) (A : Option Addr) (n c : Nat) (xs : List Body) (R : Rd w 10 A n (xs.map aF)) (hb : ∀ b ∈ xs, Okb b) (hn : n ≤ 1048576) (bf bl : Nat) (G : Body → Int × Int) (hG : ∀ b ∈ xs, (-1152921504606846976 ≤ (G b).1 ∧ (G b).1 ≤ 1152921504606846976) ∧ -1152921504606846976 ≤ (G b).2 ∧ (G b).2 ≤ 1152921504606846976) (C : Option Addr) (cm : Nat) (RS : Rd w 2 C n ((xs.map G).map cL)) (hO : Own [(some bf, bc [.bool false] 4), (some bl, bc [.slice C n cm] 127)] w) (hdA : 0 < n → ∀ q off, A = some ⟨q, off, none⟩ → q ∉ bH [(some bf, bc [.bool false] 4), (some bl, bc [.slice C n cm] 127)]) (hdS : 0 < n → ∀ q off, C = some ⟨q, off, none⟩ → q ∉ bH [(some bf, bc [.bool false] 4), (some bl, bc [.slice C n cm] 127)]) :
  Calls Tryz.prog 109 #[.slice A n c, .func (.func 113) #[] #[.pointer (some ⟨bl, 0, none⟩), .pointer (some ⟨bf, 0, none⟩)]] w (fun ex w' => ∃ v, ex = .returned v ∧ (fun v w' => ∃ r : Row, v = .slice r.A r.n r.c ∧ aW 39 10 r.A r.n r.c ((xs.map (fun b => aDy b (G b).1 (G b).2)).map aF) r.e ∧ Mem w (bH [(some bf, bc [.bool false] 4), (some bl, bc [.slice C n cm] 127)]) [(some bf, bc [.bool (xs.any (fun b => aPb b (G b).1 (G b).2))] 4), (some bl, bc [.slice C n cm] 127), r.e] w') v w') := by
 have hlen : xs.length = n := by simpa using R.len
 have hbd := R.bound
 refine aH #[.tmp 4] 24 Tryz.func109 rfl Tryz.results109 Tryz.ntmps109 rfl ?_
 have M0 := hO.mem
 refine aD (aA (fP rfl rfl (aB (aC (aD (aA (fP rfl rfl ?_)))))))
 have M1 := M0.dummy default
 refine aB (aC (aD (aD (aA (eG rfl rfl (wq (cP Tryz.underlying29 rfl) rfl (aY rfl rfl (aB (aC (aS (dK (σ := Nat × Row) [1, 4, 8, 9] (fun (k, q) => [(5, .slice q.A q.n q.c), (10, .int .i64 (k : Int))]) (fun (k, q) w' => (k ≤ n ∧ aW 39 10 q.A q.n q.c (((xs.take k).map (fun b => aDy b (G b).1 (G b).2)).map aF) q.e) ∧ Mem w (bH [(some bf, bc [.bool false] 4), (some bl, bc [.slice C n cm] 127)]) [(some bf, bc [.bool ((xs.take k).any (fun b => aPb b (G b).1 (G b).2))] 4), (some bl, bc [.slice C n cm] 127), q.e] w') (fun (k, q) => n - k) (0, gP) (bR rfl (bR rfl eZ)) (⟨⟨by omega, aW.nil _ _ _⟩, M1⟩) ?_)))))))))))
 rintro ⟨k, q⟩ ρ2 w2 ⟨⟨hk, hq⟩, hM2⟩
 have htl := List.length_take_le k xs
 have hqn : (xs.take k).length = q.n := by simpa using hq.1
 refine aD (aA (dA rfl rfl rfl rfl (aB (aC (aD ?_)))))
 refine aZ rfl (fun h11 => ?_) (fun h11 => ?_)
 ·obtain ⟨xb, hxb⟩ := cI (xs := xs) (k := k) hlen (by omega)
  refine aK (aC (aD (aS (aD (aA (aY rfl rfl (wq (bN (k) dW rfl rfl rfl ((R.memY hM2 hdA).below_len (aJ aF hxb)) ((R.memY hM2 hdA).someK (aJ aF hxb))) rfl (wq (dC _ bS (R.memY hM2 hdA) (aJ aF hxb) rfl) rfl (aQ gS hM2 rfl rfl (fun b3 w3 M3 => ?_))))))))))
  refine bP rfl rfl (bB 3 _ bS M3 rfl rfl rfl rfl rfl (aR rfl) rfl (fun w4 M4 => (aB (aC (aA (eG rfl rfl (wq (aG (.func _ _ _) rfl) rfl (aY rfl rfl ?_))))))))
  refine wq (bC 3 bS M4 rfl rfl rfl) rfl (bX bFr rfl rfl (aSc _ k xb (hb xb (List.mem_of_getElem? hxb)) bf bl _ C n cm (xs.map G) (RS.memY M4 hdS) (G xb) (aJ G hxb) (hG xb (List.mem_of_getElem? hxb)) (M4.ownSeg 0 2) (M4.away 0 2 RS hdS)) ?_)
  rintro v5 w5 ⟨rfl, hM5⟩
  have M5 : Mem _ _ [_, _, _, _] _ := M4.seg 0 2 hM5
  refine dB [.agg (List.toArray _)] [aF (aDy xb (G xb).1 (G xb).2)] rfl dW M5 rfl rfl rfl rfl (dI rfl) (by decide) (fun b6 w6 M6 => (eC 2 [aF (aDy xb (G xb).1 (G xb).2)] dW M6 rfl rfl rfl rfl rfl hq rfl (by simp [aF, Go.Bil.one]) (dD.ofMem 4 M6 rfl) (by omega) (fun A7 c7 e7 w7 M7 hR7 => ?_)))
  refine fP rfl rfl (aB (dE (aC (aA (wq (bU rfl rfl (by omega) (by omega)) rfl (aY rfl rfl ?_))))))
  refine aB ?_
  refine cS (k + 1, ⟨A7, q.n + 1, c7, e7⟩) (bR rfl (bR rfl eZ)) (cV rfl (cV rfl (cV rfl (cV rfl jQ)))) ?_ ?_
  ·exact ⟨⟨by omega, by rw [cT hxb, List.map_append, List.map_append]; exact hR7⟩, by rw [cT hxb, List.any_append, List.any_cons, List.any_nil, Bool.or_false]; exact M7.keep [true, true, true, false, false]⟩
  ·(show n - (k + 1) < n - k; omega)
 ·have hkn : k = n := by omega
  rw [List.take_of_length_le (by omega)] at hq
  rw [List.take_of_length_le (by omega)] at hM2
  refine cR (cZ (cX (eQ (aC (aD (aA (eG rfl rfl ?_)))))))
  refine fP rfl rfl (aB (aC (aM (bW (.slice _ _ _) rfl ?_))))
  exact ⟨q, rfl, hq, hM2⟩
set_option maxHeartbeats 4000000 in
theorem aXi (w : World) (A : Option Addr) (n c : Nat) (xs : List Body) (R : Rd w 10 A n (xs.map aF)) (hb : ∀ b ∈ xs, Okb b) (hn : n ≤ 1048576) (G : Body → Int × Int) (hG : ∀ b ∈ xs, (-1152921504606846976 ≤ (G b).1 ∧ (G b).1 ≤ 1152921504606846976) ∧ -1152921504606846976 ≤ (G b).2 ∧ (G b).2 ≤ 1152921504606846976) (C : Option Addr) (cm : Nat) (RS : Rd w 2 C n ((xs.map G).map cL)) :
  Calls Tryz.prog 67 #[.slice A n c, .slice C n cm] w (fun ex w' => ∃ v, ex = .returned v ∧ (fun v w' => ∃ r : Row, v = .tuple #[.slice r.A r.n r.c, .bool (xs.any (fun b => aPb b (G b).1 (G b).2))] ∧ aW 39 10 r.A r.n r.c ((xs.map (fun b => aDy b (G b).1 (G b).2)).map aF) r.e ∧ Mem w [] [r.e] w') v w') := by
 refine aH #[.tmp 4, .tmp 5] 13 Tryz.func67 rfl Tryz.results67 Tryz.ntmps67 rfl ?_
 have M0 := Mem.refl w
 refine aD (aA (bG (.slice _ _ _) M0 rfl rfl rfl (fun b1 w1 M1 => (fP rfl rfl (wq (aI (.bool false) rfl) rfl (aB (aC (aD (aA (aQ aMx M1 rfl rfl (fun b2 w2 M2 => ?_)))))))))))
 refine dX 1 (.bool false) nV M2 rfl rfl rfl rfl rfl rfl (fun w3 M3 => (aB (aC (aD (aA ?_)))))
 have M4 : Mem _ _ [_, _] _ := Mem.swap2 M3
 refine eG rfl rfl (wq (cO [] [.pointer _, .pointer _] rfl rfl) rfl (bX aWo rfl rfl (aKj _ A n c xs (R.mem M4) hb hn b2 b1 G hG C cm (RS.mem M4) (M4.ownSeg 0 2) (M4.away 0 2 R (by simp)) (M4.away 0 2 RS (by simp))) ?_))
 rintro v5 w5 ⟨r, rfl, hr, hM5⟩
 have M5 : Mem _ _ [_, _, _] _ := M4.seg 0 2 hM5
 refine fP rfl rfl (aB (aC (aD (bO [(0, 0), (1, 1), (2, 0), (3, 0)] mixed rfl (by kernel_rfl) (fun w6 hb6 hh6 => ?_)))))
 have M6 := M5.drew hb6 hh6
 refine oF rfl rfl rfl (bV rfl rfl rfl (aL 0 (.bool _) nV M6 rfl rfl rfl) (aV rfl rfl rfl (fun _ => aI (.slice _ _ _) rfl) (aV rfl rfl rfl (fun _ => aI (.bool _) rfl) (cD (aC (aM ?_))))))
 refine iH (.slice _ _ _) (.bool _) rfl rfl ?_
 exact ⟨r, rfl, hr, M6.keep [false, false, true]⟩
set_option maxHeartbeats 4000000 in
theorem aLo (w : World) (bs : Nat) (vr lr : Row) (tt mm : Int) (cl : Bool) (A : Option Addr) (n c : Nat) (q : Row) (c2 : Bool) (hO : Own [(some bs, bc [.slice A n c, .slice vr.A vr.n vr.c, .slice lr.A lr.n lr.c, .int .i64 tt, .int .i64 mm, .bool cl] 168)] w) :
  Calls Tryz.prog 145 #[.pointer (some ⟨bs, 0, none⟩), .slice q.A q.n q.c, .bool c2] w (fun ex w' => ∃ v, ex = .returned v ∧ (fun v w' => v = .tuple #[] ∧ Mem w (bH [(some bs, bc [.slice A n c, .slice vr.A vr.n vr.c, .slice lr.A lr.n lr.c, .int .i64 tt, .int .i64 mm, .bool cl] 168)]) [(some bs, bc [.slice A n c, .slice q.A q.n q.c, .slice lr.A lr.n lr.c, .int .i64 tt, .int .i64 mm, .bool (cl || c2)] 168)] w') v w') := by
 refine aH #[] 22 Tryz.func145 rfl Tryz.results145 Tryz.ntmps145 rfl ?_
 have M0 := hO.mem
 refine aD (aA (wq (aG (.pointer _) rfl) rfl (eG rfl rfl (wq (aO rfl) rfl (wq (aE 1 tW rfl) rfl (dX 0 (.slice _ _ _) fI M0 rfl rfl rfl rfl rfl rfl (fun w1 M1 => ?_)))))))
 refine aB (aC (aA (wq (aG (.pointer _) rfl) rfl (wq (aG (.pointer _) rfl) rfl (wq (aO rfl) rfl (wq (aE 3 oB rfl) rfl (wq (aE 2 sO rfl) rfl ?_)))))))
 refine wq (aL 0 (.bool _) nV M1 rfl rfl rfl) rfl (wq (aG (.bool _) rfl) rfl ?_)
 refine nK 16 _ rfl (fun g16 => ?_) (fun g16 => ?_)
 ·refine aN rfl rfl (wq (bQ true (.bool true) rfl rfl) rfl (wq (aO rfl) rfl (wq (aE 3 oB rfl) rfl (wq (aE 2 sO rfl) rfl (dX 0 (.bool true) nV M1 rfl rfl rfl rfl rfl rfl (fun w2 M2 => ?_))))))
  refine aB (iV ?_)
  first | exact ⟨rfl, by rw [(by simp only [g16, Bool.true_or] : (cl || c2) = true)]; exact M2⟩ | exact ⟨rfl, by rw [(by simp only [g16, Bool.false_or] : (cl || c2) = c2)]; exact M2⟩
 ·refine wq (aG (.bool _) rfl) rfl (wq (bQ false (.bool _) rfl rfl) rfl (wq (aO rfl) rfl (wq (aE 3 oB rfl) rfl (wq (aE 2 sO rfl) rfl (dX 0 (.bool _) nV M1 rfl rfl rfl rfl rfl rfl (fun w3 M3 => ?_))))))
  refine aB (iV ?_)
  first | exact ⟨rfl, by rw [(by simp only [g16, Bool.true_or] : (cl || c2) = true)]; exact M3⟩ | exact ⟨rfl, by rw [(by simp only [g16, Bool.false_or] : (cl || c2) = c2)]; exact M3⟩
set_option maxHeartbeats 4000000 in
theorem bBi (w : World) (F : Rd w 2 (some ⟨0, 0, none⟩) 1 [[.int .u32 73856093, .int .u32 19349663]]) (N : Rd w 4 (some ⟨3, 0, none⟩) 1 [cY gO]) (bs : Nat) (vr lr : Row) (tt mm : Int) (cl : Bool) (A : Option Addr) (n c : Nat) (xs : List Body) (R : Rd w 10 A n (xs.map aF)) (hb : ∀ b ∈ xs, Okb b) (hs : cA xs) (hn : n ≤ 4096) (hO : Own [(some bs, bc [.slice A n c, .slice vr.A vr.n vr.c, .slice lr.A lr.n lr.c, .int .i64 tt, .int .i64 mm, .bool cl] 168)] w) (hdA : 0 < n → ∀ q off, A = some ⟨q, off, none⟩ → q ∉ bH [(some bs, bc [.slice A n c, .slice vr.A vr.n vr.c, .slice lr.A lr.n lr.c, .int .i64 tt, .int .i64 mm, .bool cl] 168)]) (hdF : 0 < 1 → ∀ q off, (some ⟨0, 0, none⟩ : Option Addr) = some ⟨q, off, none⟩ → q ∉ bH [(some bs, bc [.slice A n c, .slice vr.A vr.n vr.c, .slice lr.A lr.n lr.c, .int .i64 tt, .int .i64 mm, .bool cl] 168)]) (hdN : 0 < 1 → ∀ q off, (some ⟨3, 0, none⟩ : Option Addr) = some ⟨q, off, none⟩ → q ∉ bH [(some bs, bc [.slice A n c, .slice vr.A vr.n vr.c, .slice lr.A lr.n lr.c, .int .i64 tt, .int .i64 mm, .bool cl] 168)]) :
  Calls Tryz.prog 105 #[.pointer (some ⟨bs, 0, none⟩)] w (fun ex w' => ∃ v, ex = .returned v ∧ (fun v w' => v = .tuple #[] ∧ ∃ (r : Row) (m : Nat), (lA xs).length ≤ m ∧ 2 * m ≤ xs.length * (xs.length - 1) ∧ aW 211 5 r.A r.n r.c ((kX xs).map cN) r.e ∧ Mem w (bH [(some bs, bc [.slice A n c, .slice vr.A vr.n vr.c, .slice lr.A lr.n lr.c, .int .i64 tt, .int .i64 mm, .bool cl] 168)]) [(some bs, bc [.slice A n c, .slice vr.A vr.n vr.c, .slice r.A r.n r.c, .int .i64 (m : Int), .int .i64 (r.n : Int), .bool cl] 168), r.e] w') v w') := by
 refine aH #[] 26 Tryz.func105 rfl Tryz.results105 Tryz.ntmps105 rfl ?_
 have M0 := hO.mem
 refine aD (aA (wq (aG (.pointer _) rfl) rfl (wq (aG (.pointer _) rfl) rfl (wq (aG (.pointer _) rfl) rfl (wq (aO rfl) rfl (wq (aE 0 aAo rfl) rfl ?_))))))
 refine wq (aL 0 (.slice _ _ _) fI M0 rfl rfl rfl) rfl (bX bHa rfl rfl (aEn _ (F.memY M0 hdF) (N.memY M0 hdN) A n c xs (R.memY M0 hdA) hb hs hn) ?_)
 rintro v1 w1 ⟨r, m, rfl, hm1, hm2, hr, hM1⟩
 have M1 : Mem _ _ [_, _] _ := M0.call0 hM1
 refine wq (aG (.tuple (List.toArray _)) rfl) rfl (wq (bE (.slice _ _ _) rfl rfl) rfl (wq (bE (.int _ _) rfl rfl) rfl (wq (aO rfl) rfl (wq (aE 2 tZ rfl) rfl (dX 0 (.slice _ _ _) mA M1 rfl rfl rfl rfl rfl rfl (fun w2 M2 => ?_))))))
 refine wq (aO rfl) rfl (wq (aE 3 oB rfl) rfl (wq (aE 0 aNz rfl) rfl (dX 0 (.int _ _) jC M2 rfl rfl rfl rfl rfl rfl (fun w3 M3 => (aB (aC (aA (wq (aG (.pointer _) rfl) rfl ?_))))))))
 refine wq (aG (.pointer _) rfl) rfl (wq (aO rfl) rfl (wq (aE 2 tZ rfl) rfl (wq (aL 0 (.slice _ _ _) mA M3 rfl rfl rfl) rfl (wq (cP Tryz.underlying166 rfl) rfl (wq (aO rfl) rfl ?_)))))
 refine wq (aE 3 oB rfl) rfl (wq (aE 1 aFi rfl) rfl (dX 0 (.int _ _) jC M3 rfl rfl rfl rfl rfl rfl (fun w4 M4 => (aB (iV ?_)))))
 exact ⟨rfl, r, m, hm1, hm2, hr, M4⟩
set_option maxHeartbeats 4000000 in
theorem bBa (w : World) (bs : Nat) (vr lr : Row) (tt mm : Int) (cl : Bool) (A : Option Addr) (n c : Nat) (xs : List Body) (R : Rd w 10 A n (xs.map aF)) (hb : ∀ b ∈ xs, Okb b) (hn : n ≤ 1048576) (hO : Own [(some bs, bc [.slice A n c, .slice vr.A vr.n vr.c, .slice lr.A lr.n lr.c, .int .i64 tt, .int .i64 mm, .bool cl] 168)] w) (hdA : 0 < n → ∀ q off, A = some ⟨q, off, none⟩ → q ∉ bH [(some bs, bc [.slice A n c, .slice vr.A vr.n vr.c, .slice lr.A lr.n lr.c, .int .i64 tt, .int .i64 mm, .bool cl] 168)]) :
  Calls Tryz.prog 106 #[.pointer (some ⟨bs, 0, none⟩)] w (fun ex w' => ∃ v, ex = .returned v ∧ (fun v w' => v = .tuple #[] ∧ ∃ r : Row, aW 39 10 r.A r.n r.c ((rQ xs).map aF) r.e ∧ Mem w (bH [(some bs, bc [.slice A n c, .slice vr.A vr.n vr.c, .slice lr.A lr.n lr.c, .int .i64 tt, .int .i64 mm, .bool cl] 168)]) [(some bs, bc [.slice A n c, .slice r.A r.n r.c, .slice lr.A lr.n lr.c, .int .i64 tt, .int .i64 mm, .bool (cl || xs.any qH)] 168), r.e] w') v w') := by
 refine aH #[] 11 Tryz.func106 rfl Tryz.results106 Tryz.ntmps106 rfl ?_
 have M0 := hO.mem
 refine aA (wq (aG (.pointer _) rfl) rfl (wq (aG (.pointer _) rfl) rfl (wq (aO rfl) rfl (wq (aE 0 aAo rfl) rfl (wq (aL 0 (.slice _ _ _) fI M0 rfl rfl rfl) rfl ?_)))))
 refine bX bJx rfl rfl (aHy _ A n c xs (R.memY M0 hdA) hb hn) ?_
 rintro v1 w1 ⟨r, rfl, hr, hM1⟩
 have M1 : Mem _ _ [_, _] _ := M0.call0 hM1
 refine wq (bE (.slice _ _ _) rfl rfl) rfl (wq (bE (.bool _) rfl rfl) rfl (bX aKl rfl rfl (aLo _ bs vr lr tt mm cl A n c r _ (M1.ownSeg 0 1)) ?_))
 rintro v2 w2 ⟨rfl, hM2⟩
 have M2 : Mem _ _ [_, _] _ := M1.seg 0 1 hM2
 refine aB (iV ?_)
 exact ⟨rfl, r, hr, M2⟩
set_option maxHeartbeats 4000000 in
theorem aUn (w : World) (bs : Nat) (vr lr : Row) (tt mm : Int) (cl : Bool) (A : Option Addr) (n c : Nat) (ys : List Body) (cs : List Con) (RV : Rd w 10 vr.A vr.n (ys.map aF)) (RL : Rd w 5 lr.A lr.n (cs.map cN)) (hs : cA ys) (hb : ∀ b ∈ ys, Okb b) (hn : vr.n ≤ 1048576) (hcs : ∀ c ∈ cs, OkC ys c) (hmc : lr.n ≤ 8589934592) (hO : Own [(some bs, bc [.slice A n c, .slice vr.A vr.n vr.c, .slice lr.A lr.n lr.c, .int .i64 tt, .int .i64 mm, .bool cl] 168)] w) (hdV : 0 < vr.n → ∀ q off, vr.A = some ⟨q, off, none⟩ → q ∉ bH [(some bs, bc [.slice A n c, .slice vr.A vr.n vr.c, .slice lr.A lr.n lr.c, .int .i64 tt, .int .i64 mm, .bool cl] 168)]) (hdL : 0 < lr.n → ∀ q off, lr.A = some ⟨q, off, none⟩ → q ∉ bH [(some bs, bc [.slice A n c, .slice vr.A vr.n vr.c, .slice lr.A lr.n lr.c, .int .i64 tt, .int .i64 mm, .bool cl] 168)]) :
  Calls Tryz.prog 107 #[.pointer (some ⟨bs, 0, none⟩)] w (fun ex w' => ∃ v, ex = .returned v ∧ (fun v w' => v = .tuple #[] ∧ ∃ r : Row, aW 39 10 r.A r.n r.c (((gX ys cs 4).1).map aF) r.e ∧ Mem w (bH [(some bs, bc [.slice A n c, .slice vr.A vr.n vr.c, .slice lr.A lr.n lr.c, .int .i64 tt, .int .i64 mm, .bool cl] 168)]) [(some bs, bc [.slice A n c, .slice r.A r.n r.c, .slice lr.A lr.n lr.c, .int .i64 tt, .int .i64 mm, .bool (cl || (gX ys cs 4).2)] 168), r.e] w') v w') := by
 refine aH #[] 15 Tryz.func107 rfl Tryz.results107 Tryz.ntmps107 rfl ?_
 have M0 := hO.mem
 refine bO [(0, 0), (1, 0), (2, 0), (3, 0), (4, 1), (5, 0), (6, 0), (7, 0), (8, 1), (9, 2), (10, 0), (11, 0), (12, 2)] mixed rfl (by kernel_rfl) (fun w1 hb1 hh1 => ?_)
 have M1 := M0.drew hb1 hh1
 refine aV rfl rfl rfl (fun _ => aG (.pointer _) rfl) (aV rfl rfl rfl (fun _ => aG (.pointer _) rfl) (aV rfl rfl rfl (fun _ => aO rfl) (aV rfl rfl rfl (fun _ => aE 1 tW rfl) (bV rfl rfl rfl (aL 0 (.slice _ _ _) fI M1 rfl rfl rfl) (aV rfl rfl rfl (fun _ => aG (.pointer _) rfl) ?_)))))
 refine aV rfl rfl rfl (fun _ => aO rfl) (aV rfl rfl rfl (fun _ => aE 2 tZ rfl) (bV rfl rfl rfl (aL 0 (.slice _ _ _) mA M1 rfl rfl rfl) (dG [true, true] rfl (by kernel_rfl) (bX bGx rfl rfl (aQy _ vr.A vr.n vr.c ys (RV.memY M1 hdV) hs hb hn lr.A lr.n lr.c cs (RL.memY M1 hdL) hcs hmc) ?_))))
 rintro v2 w2 ⟨r, rfl, hr, hM2⟩
 have M2 : Mem _ _ [_, _] _ := M1.call0 hM2
 refine aB (aC ⟨dH, ?_⟩)
 refine aV rfl rfl rfl (fun _ => bE (.slice _ _ _) rfl rfl) (aV rfl rfl rfl (fun _ => bE (.bool _) rfl rfl) (dG [] rfl (by kernel_rfl) (bX aKl rfl rfl (aLo _ bs vr lr tt mm cl A n c r _ (M2.ownSeg 0 1)) ?_)))
 rintro v3 w3 ⟨rfl, hM3⟩
 have M3 : Mem _ _ [_, _] _ := M2.seg 0 1 hM3
 refine aB (aC ⟨dH, ?_⟩)
 refine cD (iV ?_)
 exact ⟨rfl, r, hr, M3⟩
set_option maxHeartbeats 4000000 in
theorem bAt (w : World) (bs : Nat) (vr lr : Row) (tt mm : Int) (cl : Bool) (A : Option Addr) (n c : Nat) (xs : List Body) (R : Rd w 10 A n (xs.map aF)) (ys : List Body) (cs : List Con) (RV : Rd w 10 vr.A vr.n (ys.map aF)) (RL : Rd w 5 lr.A lr.n (cs.map cN)) (hs : cA xs) (hb : ∀ b ∈ xs, Okb b) (hb2 : ∀ b ∈ ys, Okb b) (hn : n ≤ 1048576) (hvn : vr.n = n) (hcs : ∀ c ∈ cs, OkC xs c) (hmc : lr.n ≤ 1073741824) (hsh : xs.map (iW xs cs) = ys.map (iW xs cs)) (hG : ∀ b ∈ ys, (-1152921504606846976 ≤ (iW xs cs b).1 ∧ (iW xs cs b).1 ≤ 1152921504606846976) ∧ -1152921504606846976 ≤ (iW xs cs b).2 ∧ (iW xs cs b).2 ≤ 1152921504606846976) (hO : Own [(some bs, bc [.slice A n c, .slice vr.A vr.n vr.c, .slice lr.A lr.n lr.c, .int .i64 tt, .int .i64 mm, .bool cl] 168)] w) (hdA : 0 < n → ∀ q off, A = some ⟨q, off, none⟩ → q ∉ bH [(some bs, bc [.slice A n c, .slice vr.A vr.n vr.c, .slice lr.A lr.n lr.c, .int .i64 tt, .int .i64 mm, .bool cl] 168)]) (hdV : 0 < vr.n → ∀ q off, vr.A = some ⟨q, off, none⟩ → q ∉ bH [(some bs, bc [.slice A n c, .slice vr.A vr.n vr.c, .slice lr.A lr.n lr.c, .int .i64 tt, .int .i64 mm, .bool cl] 168)]) (hdL : 0 < lr.n → ∀ q off, lr.A = some ⟨q, off, none⟩ → q ∉ bH [(some bs, bc [.slice A n c, .slice vr.A vr.n vr.c, .slice lr.A lr.n lr.c, .int .i64 tt, .int .i64 mm, .bool cl] 168)]) :
  Calls Tryz.prog 108 #[.pointer (some ⟨bs, 0, none⟩)] w (fun ex w' => ∃ v, ex = .returned v ∧ (fun v w' => v = .tuple #[] ∧ ∃ r : Row, aW 39 10 r.A r.n r.c ((aOs xs cs ys).map aF) r.e ∧ Mem w (bH [(some bs, bc [.slice A n c, .slice vr.A vr.n vr.c, .slice lr.A lr.n lr.c, .int .i64 tt, .int .i64 mm, .bool cl] 168)]) [(some bs, bc [.slice A n c, .slice r.A r.n r.c, .slice lr.A lr.n lr.c, .int .i64 tt, .int .i64 mm, .bool (cl || aWx xs cs ys)] 168), r.e] w') v w') := by
 have hlen : xs.length = n := by simpa using R.len
 refine aH #[] 20 Tryz.func108 rfl Tryz.results108 Tryz.ntmps108 rfl ?_
 have M0 := hO.mem
 refine bO [(0, 0), (1, 0), (2, 0), (3, 0), (4, 1), (5, 0), (6, 0), (7, 0), (8, 1), (9, 0), (10, 0), (11, 0), (12, 1), (13, 2), (14, 2), (15, 0), (16, 0), (17, 2)] mixed rfl (by kernel_rfl) (fun w1 hb1 hh1 => ?_)
 have M1 := M0.drew hb1 hh1
 refine aV rfl rfl rfl (fun _ => aG (.pointer _) rfl) (aV rfl rfl rfl (fun _ => aG (.pointer _) rfl) (aV rfl rfl rfl (fun _ => aO rfl) (aV rfl rfl rfl (fun _ => aE 1 tW rfl) (bV rfl rfl rfl (aL 0 (.slice _ _ _) fI M1 rfl rfl rfl) (aV rfl rfl rfl (fun _ => aG (.pointer _) rfl) ?_)))))
 refine aV rfl rfl rfl (fun _ => aO rfl) (aV rfl rfl rfl (fun _ => aE 0 aAo rfl) (bV rfl rfl rfl (aL 0 (.slice _ _ _) fI M1 rfl rfl rfl) (aV rfl rfl rfl (fun _ => aG (.pointer _) rfl) (aV rfl rfl rfl (fun _ => aO rfl) (aV rfl rfl rfl (fun _ => aE 2 tZ rfl) ?_)))))
 refine bV rfl rfl rfl (aL 0 (.slice _ _ _) mA M1 rfl rfl rfl) (dG [true, true, false] rfl (by kernel_rfl) (bX bEn rfl rfl (aLn _ A n c xs (R.memY M1 hdA) hs hb hn lr.A lr.n lr.c cs (RL.memY M1 hdL) hcs hmc) ?_))
 rintro v2 w2 ⟨⟨qA, qn, qc, qe⟩, rfl, hq, hM2⟩
 have hqn : xs.length = qn := by simpa using hq.1
 obtain rfl : qn = vr.n := by omega
 rw [hsh] at hq
 have M2 : Mem _ _ [_, _] _ := M1.call0 hM2
 refine aB (aC ⟨(eF (bK rfl (aL 0 (.slice _ _ _) fI M2 rfl rfl rfl)) dH), ?_⟩)
 refine dG [true] rfl (by kernel_rfl) (bX bJv rfl rfl (aXi _ vr.A vr.n vr.c ys (RV.memY M2 hdV) hb2 (by omega) (iW xs cs) hG qA qc (hq.rd M2 (aX (i := 1) rfl))) ?_)
 rintro v3 w3 ⟨r, rfl, hr, hM3⟩
 have M3 : Mem _ _ [_, _, _] _ := M2.call0 hM3
 refine aB (aC ⟨dH, ?_⟩)
 refine aV rfl rfl rfl (fun _ => bE (.slice _ _ _) rfl rfl) (aV rfl rfl rfl (fun _ => bE (.bool _) rfl rfl) (dG [] rfl (by kernel_rfl) (bX aKl rfl rfl (aLo _ bs vr lr tt mm cl A n c r _ (M3.ownSeg 0 1)) ?_)))
 rintro v4 w4 ⟨rfl, hM4⟩
 have M4 : Mem _ _ [_, _, _] _ := M3.seg 0 1 hM4
 refine aB (aC ⟨dH, ?_⟩)
 refine cD (iV ?_)
 exact ⟨rfl, r, hr, M4.keep [true, false, true]⟩
theorem aPq {xs : List Body} {cs : List Con} {b b' : Body} (h : SameB b b') : iW xs cs b = iW xs cs b' := by
 unfold iW tV aAm
 rw [h.key, h.mass]
theorem aGo {xs ys zs : List Body} {cs : List Con} (h : Like ys zs) : ys.map (iW xs cs) = zs.map (iW xs cs) := by
 apply List.ext_getElem?
 intro i
 rw [List.getElem?_map, List.getElem?_map]
 by_cases hi : i < ys.length
 ·have h1 : ys[i]? = some ys[i] := List.getElem?_eq_getElem hi
  have h2 : zs[i]? = some (zs[i]'(by rw [h.len]; exact hi)) := List.getElem?_eq_getElem _
  rw [h1, h2]
  exact congrArg some (aPq (h.at_ i _ _ h1 h2)).symm
 ·have hl := h.len
  rw [List.getElem?_eq_none (show ys.length ≤ i by omega), List.getElem?_eq_none (show zs.length ≤ i by omega)]
theorem bAi {xs : List Body} {cs : List Con} (hs : cA xs) (hb : ∀ b ∈ xs, Okb b) (hcs : ∀ c ∈ cs, OkC xs c) (hl : cs.length ≤ 1073741824) {zs : List Body} (h : Like xs zs) : ∀ b ∈ zs, (-1152921504606846976 ≤ (iW xs cs b).1 ∧ (iW xs cs b).1 ≤ 1152921504606846976) ∧ -1152921504606846976 ≤ (iW xs cs b).2 ∧ (iW xs cs b).2 ≤ 1152921504606846976 := fun b hbm => by
 have hm : iW xs cs b ∈ zs.map (iW xs cs) := List.mem_map_of_mem hbm
 rw [← aGo h] at hm
 obtain ⟨x, hx, e⟩ := List.mem_map.1 hm
 rw [← e]
 have := aFm hs hb hcs rfl hl cs.length hx
 rwa [List.take_of_length_le (Nat.le_refl _)] at this
set_option maxHeartbeats 16000000 in
theorem aCy (w : World) (F : Rd w 2 (some ⟨0, 0, none⟩) 1 [[.int .u32 73856093, .int .u32 19349663]]) (N : Rd w 4 (some ⟨3, 0, none⟩) 1 [cY gO]) (A : Option Addr) (n c : Nat) (xs : List Body) (R : Rd w 10 A n (xs.map aF)) (hb : ∀ b ∈ xs, Okb b) (hs : cA xs) (hn : n ≤ 4096) :
  Calls Tryz.prog 65 #[.slice A n c] w (fun ex w' => ∃ v, ex = .returned v ∧ (fun v w' => ∃ (r : Row) (t : Nat), v = .tuple #[.slice r.A r.n r.c, .agg [.int .i64 (t : Int), .int .i64 ((kX xs).length : Int), .bool (rN xs)].toArray] ∧ (kX xs).length ≤ t ∧ 2 * t ≤ xs.length * (xs.length - 1) ∧ aW 39 10 r.A r.n r.c ((nZ xs).map aF) r.e ∧ Mem w [] [r.e] w') v w') := by
 have hlen : xs.length = n := by simpa using R.len
 have hnn : xs.length * xs.length ≤ 4096 * 4096 := Nat.mul_le_mul (by omega) (by omega)
 have hcl := aHx xs
 have hsq := aZa (xs := xs)
 refine aH #[.tmp 2, .cell 3 58] 26 Tryz.func65 rfl Tryz.results65 Tryz.ntmps65 rfl ?_
 have M0 := Mem.refl w
 refine aD (aA (fP rfl rfl (aQ sL M0 rfl rfl (fun b1 w1 M1 => (aB (aC (aD (aA (eG rfl rfl (wq (cH [(0, .slice _ _ _)] _ aRp rfl rfl) rfl ?_))))))))))
 refine bG (.agg (List.toArray _)) M1 rfl rfl rfl (fun b2 w2 M2 => (wq (aI (.pointer _) rfl) rfl (aB (aC (aD (aD (aA (wq (pN [.func _ _ _, .func _ _ _, .func _ _ _, .func _ _ _] yB bAw rfl rfl (dI rfl)) rfl (aY rfl rfl (aB (aC (aS ?_))))))))))))
 refine lZ 5 (gZ (aD (aA (dA rfl rfl rfl rfl (rI 12 rfl (by first | decide | omega) (aB (aC (aD (cM rfl ?_)))))))))
 refine aK (aC (aD (aS (aD (aA (wq (vE 0 (.func _ _ _) yB aEq rfl rfl (by decide) (by decide) rfl rfl) rfl (wq (aI (.func _ _ _) rfl) rfl (aB (aC (aA (wq (aG (.func _ _ _) rfl) rfl (wq (aG (.pointer _) rfl) rfl ?_))))))))))))
 refine bX bGy rfl rfl (bBi _ (F.mem M2) (N.mem M2) b2 gP gP 0 0 false A n c xs (R.mem M2) hb hs hn (M2.ownSeg 1 1) (M2.away 1 1 R (by simp)) (M2.away 1 1 F (by simp)) (M2.away 1 1 N (by simp))) ?_
 rintro v3 w3 ⟨rfl, r, tm, ht1, ht2, hr, hM3⟩
 have M3 : Mem _ _ [_, _, _] _ := M2.seg 1 1 hM3
 have hrn : (kX xs).length = r.n := by simpa using hr.1
 refine aB (dE (aC (aA (wq (bU rfl rfl (by first | decide | omega) (by first | decide | omega)) rfl (aT 17 (.int .i64 1) (iE (by first | decide | omega)) (aY rfl rfl ?_))))))
 refine aB (aC (gZ (aD (aA (dA rfl rfl rfl rfl (rI 12 rfl (by first | decide | omega) (aB (aC (aD ?_)))))))))
 refine cM rfl (aK (aC (aD (aS (aD (aA (wq (vE 1 (.func _ _ _) yB aEq rfl rfl (by decide) (by decide) rfl rfl) rfl (wq (aI (.func _ _ _) rfl) rfl (aB (aC (aA (wq (aG (.func _ _ _) rfl) rfl ?_))))))))))))
 refine wq (aG (.pointer _) rfl) rfl (bX bGq rfl rfl (bBa _ b2 gP r (tm : Int) (r.n : Int) false A n c xs (R.mem M3) hb (by omega) (M3.ownSeg 1 1) (M3.away 1 1 R (by simp))) ?_)
 rintro v4 w4 ⟨rfl, g, hg, hM4⟩
 have M4 : Mem _ _ [_, _, _, _] _ := M3.seg 1 1 hM4
 have hgn : (rQ xs).length = g.n := by simpa using hg.1
 have hgl := (nT xs).len
 refine aB (dE (aC (aA (wq (bU rfl rfl (by first | decide | omega) (by first | decide | omega)) rfl (aT 17 (.int .i64 2) (iE (by first | decide | omega)) (aY rfl rfl ?_))))))
 refine aB (aC (gZ (aD (aA (dA rfl rfl rfl rfl (rI 12 rfl (by first | decide | omega) (aB (aC (aD ?_)))))))))
 refine cM rfl (aK (aC (aD (aS (aD (aA (wq (vE 2 (.func _ _ _) yB aEq rfl rfl (by decide) (by decide) rfl rfl) rfl (wq (aI (.func _ _ _) rfl) rfl (aB (aC (aA (wq (aG (.func _ _ _) rfl) rfl ?_))))))))))))
 refine wq (aG (.pointer _) rfl) rfl (bX bFb rfl rfl (aUn _ b2 g r (tm : Int) (r.n : Int) _ A n c (rQ xs) (kX xs) (hg.rd M4 (aX (i := 3) rfl)) (hr.rd M4 (aX (i := 2) rfl)) ((nT xs).sorted hs) (aDt hb) (by omega) (fun c h => (nT xs).okc (zE hs hb c h)) (by omega) (M4.ownSeg 1 1) (hg.awayB M4 3 1 rfl rfl rfl) (hr.awayB M4 2 1 rfl rfl rfl)) ?_)
 rintro v5 w5 ⟨rfl, s, hsv, hM5⟩
 have M5 : Mem _ _ [_, _, _, _, _] _ := M4.seg 1 1 hM5
 have hsn : (mQ xs).length = s.n := by have h := hsv.1; rwa [List.length_map] at h
 have hlk : Like xs (mQ xs) := (nT xs).trans (jS _ _ 4)
 have hsl := hlk.len
 refine aB (dE (aC (aA (wq (bU rfl rfl (by first | decide | omega) (by first | decide | omega)) rfl (aT 17 (.int .i64 3) (iE (by first | decide | omega)) (aY rfl rfl ?_))))))
 refine aB (aC (gZ (aD (aA (dA rfl rfl rfl rfl (rI 12 rfl (by first | decide | omega) (aB (aC (aD ?_)))))))))
 refine cM rfl (aK (aC (aD (aS (aD (aA (wq (vE 3 (.func _ _ _) yB aEq rfl rfl (by decide) (by decide) rfl rfl) rfl (wq (aI (.func _ _ _) rfl) rfl (aB (aC (aA (wq (aG (.func _ _ _) rfl) rfl ?_))))))))))))
 refine wq (aG (.pointer _) rfl) rfl (bX bEk rfl rfl (bAt _ b2 s r (tm : Int) (r.n : Int) _ A n c xs (R.mem M5) (mQ xs) (kX xs) (hsv.rd M5 (aX (i := 4) rfl)) (hr.rd M5 (aX (i := 2) rfl)) hs hb (tU (aDt hb) 4) (by omega) (by omega) (zE hs hb) (by omega) (aGo hlk) (bAi hs hb (zE hs hb) (by omega) hlk) (M5.ownSeg 1 1) (M5.away 1 1 R (by simp)) (hsv.awayB M5 4 1 rfl rfl rfl) (hr.awayB M5 2 1 rfl rfl rfl)) ?_)
 rintro v6 w6 ⟨rfl, m, hm, hM6⟩
 have M6 : Mem _ _ [_, _, _, _, _, _] _ := M5.seg 1 1 hM6
 refine aB (dE (aC (aA (wq (bU rfl rfl (by first | decide | omega) (by first | decide | omega)) rfl (aT 17 (.int .i64 4) (iE (by first | decide | omega)) (aY rfl rfl ?_))))))
 refine aB (aC (gZ (aD (aA (dA rfl rfl rfl rfl (uZ 12 rfl (by first | decide | omega) (aB (aC (aD ?_)))))))))
 refine cB rfl (cR (cZ (cZ (eQ (aC (aD (bO [(0, 0), (1, 0), (2, 0), (3, 1), (4, 0), (5, 0), (6, 0), (7, 1), (8, 0), (9, 2)] mixed rfl (by kernel_rfl) (fun w7 hb7 hh7 => ?_))))))))
 have M7 := M6.drew hb7 hh7
 refine aV rfl rfl rfl (fun _ => aG (.pointer _) rfl) (aV rfl rfl rfl (fun _ => aO rfl) (aV rfl rfl rfl (fun _ => aE 1 tW rfl) (bV rfl rfl rfl (aL 1 (.slice _ _ _) fI M7 rfl rfl rfl) (aV rfl rfl rfl (fun _ => aG (.pointer _) rfl) (aV rfl rfl rfl (fun _ => aO rfl) ?_)))))
 refine aV rfl rfl rfl (fun _ => aE 3 oB rfl) (bV rfl rfl rfl (tX 1 _ nP M7 rfl rfl rfl rfl) (aV rfl rfl rfl (fun _ => aI (.slice _ _ _) rfl) (dG [true, true] rfl (by kernel_rfl) (bB 0 _ nP M7 rfl rfl rfl rfl rfl (aR rfl) rfl (fun w8 M8 => ?_)))))
 refine aB (aC ⟨dH, ?_⟩)
 refine cD (aC (aM (bJd (.slice _ _ _) 0 nP M8 rfl rfl rfl rfl ?_)))
 exact ⟨m, tm, aAu rfl (by rw [hrn]; show Value.agg _ = _; rw [show rN xs = (((false || xs.any qH) || (gX (rQ xs) (kX xs) 4).2) || aWx xs (kX xs) (mQ xs)) by unfold rN; rw [Bool.false_or]]; rfl), by omega, ht2, hm, M8.keep [false, false, false, false, false, true]⟩
end Go.Proofs.YtaoaknafiegfoaaGreatDoor
