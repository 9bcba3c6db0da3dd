/- Part of the proof of the laws of this seat: S20i, S20j, S20k, S20l, S20m, S20n, R20a, R20b, R20c, R20d, R20e, R20f. No conditions. -/
import Derived.Test.YtaoaknafiegfoaaGreatDoorK2
import Derived.Test.YtaoaknafiegfoaaGreatDoorK5
import Derived.Test.YtaoaknafiegfoaaGreatDoorK27
import Derived.Test.YtaoaknafiegfoaaGreatDoorK30
import Derived.Test.YtaoaknafiegfoaaGreatDoorK29
import Derived.Test.YtaoaknafiegfoaaGreatDoorK28
set_option linter.unusedVariables false
set_option linter.unusedSimpArgs false
set_option linter.unnecessarySimpa false
namespace Go.Proofs.YtaoaknafiegfoaaGreatDoor
open Go.Bil
open Go.RowKit (Below)
open Go.Proofs
set_option maxHeartbeats 4000000 in
theorem kI (w : World) (a l : Int) (hl : 0 ≤ l ∧ l ≤ 2147483647) (bf : Nat) (fl : Bool) (F : Option Addr) (cf : Nat) (RF : Rd w 1 F 1 [[.pointer (some ⟨bf, 0, none⟩)]]) (hdF : 0 < 1 → ∀ q off, F = some ⟨q, off, none⟩ → q ∉ bH [(some bf, bc [.bool fl] 4)]) (hO : Own [(some bf, bc [.bool fl] 4)] w) :
  Calls Tryz.prog 112 #[.int .i64 a, .int .i64 l, .slice F 1 cf] w (fun ex w' => ∃ v, ex = .returned v ∧ (fun v w' => v = .int .i32 (iT a l) ∧ Mem w (bH [(some bf, bc [.bool fl] 4)]) [(some bf, bc [.bool (fl || decide (iT a l ≠ a))] 4)] w') v w') := by
 have hr := eG a hl.1
 refine aH #[.tmp 6] 34 Tryz.func112 rfl Tryz.results112 Tryz.ntmps112 rfl ?_
 have M0 := hO.mem
 refine aD (aA (bP rfl rfl (aB (aC (aD (aA (aY rfl rfl (aY rfl rfl (bX aKb rfl rfl (aAa _ a l (by omega)) ?_)))))))))
 rintro v1 w1 ⟨rfl, hb1⟩
 have M1 := M0.callB hb1
 refine wq (aG (.tuple (List.toArray _)) rfl) rfl (wq (bG (.int _ _) rfl rfl) rfl (wq (bG (.bool (decide _)) rfl rfl) rfl (bP rfl rfl (wq (aI (.bool (decide _)) rfl) rfl (aB (aC (aD (aD (aA ?_)))))))))
 refine eC rfl rfl (wq (cR Tryz.underlying201 rfl) rfl (aS 18 (.int .i64 1) (iE rfl) (aY rfl rfl (aB (aC (aT (lO 2 (iC ?_))))))))
 refine aD (aA (cY rfl rfl rfl rfl (oG 20 rfl (by first | decide | omega) (aB (aC (aD (cQ rfl (aM (aC (aD (aT (aD (aA ?_)))))))))))))
 refine wq (bV (0) aCf rfl rfl rfl ((RF.memY M1 hdF).below_len ((show ([[.pointer (some ⟨bf, 0, none⟩)]] : List (List Value))[0]? = some [.pointer (some ⟨bf, 0, none⟩)] from rfl))) ((RF.memY M1 hdF).someK ((show ([[.pointer (some ⟨bf, 0, none⟩)]] : List (List Value))[0]? = some [.pointer (some ⟨bf, 0, none⟩)] from rfl)))) rfl ?_
 refine wq (gT (.pointer _) bBm (RF.memY M1 hdF) ((show ([[.pointer (some ⟨bf, 0, none⟩)]] : List (List Value))[0]? = some [.pointer (some ⟨bf, 0, none⟩)] from rfl)) rfl) rfl (wq (aI (.pointer _) rfl) rfl (aB (aC (aA (wq (aG (.pointer _) rfl) rfl (wq (aG (.pointer _) rfl) rfl ?_))))))
 refine wq (aL rfl) rfl (wq (aK 0 (.bool _) mW M1 rfl rfl rfl) rfl (wq (aG (.bool _) rfl) rfl ?_))
 refine lQ 27 _ rfl (fun g27 => ?_) (fun g27 => ?_)
 ·refine aR rfl rfl (wq (bW true (.bool true) rfl rfl) rfl (wq (aL rfl) rfl (dX 0 (.bool true) mW M1 rfl rfl rfl rfl rfl rfl (fun w2 M2 => (aB (dJ ?_))))))
  refine aC (aA (wq (bQ rfl rfl (by first | decide | omega) (by first | decide | omega)) rfl (aS 31 (.int .i64 1) (iE (by first | decide | omega)) (aY rfl rfl (aB (aC (iC ?_)))))))
  refine aD (aA (cY rfl rfl rfl rfl (tW 20 rfl (by first | decide | omega) (aB (aC (aD (cC rfl (cO ?_))))))))
  refine dC (dC (eV (aC (aD (aA (aY rfl rfl (wq (bS us2 Tryz.underlying21 rfl (lU _ (by omega) (by omega))) rfl (bP rfl rfl ?_))))))))
  refine aB (aC (aN (cB (.int _ _) rfl ?_)))
  first | exact ⟨rfl, by rw [(by simp only [g27, Bool.true_or] : (fl || decide (iT a l ≠ a)) = true)]; exact M2⟩ | exact ⟨rfl, by rw [(by simp only [g27, Bool.false_or] : (fl || decide (iT a l ≠ a)) = decide (iT a l ≠ a))]; exact M2⟩
 ·refine wq (aG (.bool (decide _)) rfl) rfl (wq (bW false (.bool (decide _)) rfl rfl) rfl (wq (aL rfl) rfl (dX 0 (.bool (decide _)) mW M1 rfl rfl rfl rfl rfl rfl (fun w3 M3 => (aB (dJ ?_))))))
  refine aC (aA (wq (bQ rfl rfl (by first | decide | omega) (by first | decide | omega)) rfl (aS 31 (.int .i64 1) (iE (by first | decide | omega)) (aY rfl rfl (aB (aC (iC ?_)))))))
  refine aD (aA (cY rfl rfl rfl rfl (tW 20 rfl (by first | decide | omega) (aB (aC (aD (cC rfl (cO ?_))))))))
  refine dC (dC (eV (aC (aD (aA (aY rfl rfl (wq (bS us2 Tryz.underlying21 rfl (lU _ (by omega) (by omega))) rfl (bP rfl rfl ?_))))))))
  refine aB (aC (aN (cB (.int _ _) rfl ?_)))
  first | exact ⟨rfl, by rw [(by simp only [g27, Bool.true_or] : (fl || decide (iT a l ≠ a)) = true)]; exact M3⟩ | exact ⟨rfl, by rw [(by simp only [g27, Bool.false_or] : (fl || decide (iT a l ≠ a)) = decide (iT a l ≠ a))]; exact M3⟩
set_option maxHeartbeats 4000000 in
theorem aQn (w : World) (i : Int) (b : Body) (hb : Okb b) (bf : Nat) (fl : Bool) (hO : Own [(some bf, bc [.bool fl] 4)] w) :
  Calls Tryz.prog 110 #[.int .i64 i, (.agg (aF b).toArray), .pointer (some ⟨bf, 0, none⟩)] w (fun ex w' => ∃ v, ex = .returned v ∧ (fun v w' => v = (.agg (aF (oS b)).toArray) ∧ Mem w (bH [(some bf, bc [.bool fl] 4)]) [(some bf, bc [.bool (fl || pT b)] 4)] w') v w') := by
 have hv := hb.v
 refine aH #[.cell 5 39] 19 Tryz.func110 rfl Tryz.results110 Tryz.ntmps110 rfl ?_
 have M0 := hO.mem
 refine aD (aA (bC (.agg (List.toArray _)) M0 rfl rfl rfl (fun b1 w1 M1 => (aP iD M1 rfl rfl (fun b2 w2 M2 => (aB (aC (aD (aD (aA (wq (bA 1 bR M2 rfl rfl rfl) rfl (bX bBx rfl rfl (aAy _ b) ?_))))))))))))
 rintro v3 w3 ⟨rfl, hb3⟩
 have M3 := M2.callB hb3
 refine wq (tE rfl) rfl (aB (aC ?_))
 refine bE rfl (fun h8 => ?_) (fun h8 => ?_)
 ·refine aA (wq (aE 8 fM rfl) rfl (wq (aE 1 dN rfl) rfl (wq (aK 1 (.int _ _) aW M3 rfl rfl rfl) rfl (wq (bS fR Tryz.underlying2 rfl (kJ _ (by omega) (by omega))) rfl (wq (nE rfl rfl (by omega) (by omega)) rfl ?_)))))
  refine cV [.pointer _] [[.pointer (some ⟨bf, 0, none⟩)]] rfl aCf M3 rfl rfl rfl rfl (dD rfl) (by decide) (fun b4 w4 M4 => ?_)
  have hlit14 := jZ (T := 174) (sz := 1) (b := b4) (nn := 1) [[.pointer (some ⟨bf, 0, none⟩)]] (by simp) rfl (by decide)
  refine bX zR rfl rfl (kI _ (b.vy - 1024) 16777216 ⟨by decide, by decide⟩ bf _ _ 1 (hlit14.rd M4 (aV (i := 3) rfl)) (hlit14.awayB M4 3 0 rfl rfl rfl) (M4.ownSeg 0 1)) ?_
  rintro v5 w5 ⟨rfl, hM5⟩
  have M5 : Mem _ _ [_, _, _, _] _ := M4.seg 0 1 hM5
  refine wq (aE 8 fM rfl) rfl (wq (aE 1 dN rfl) rfl (dX 1 (.int _ _) aW M5 rfl rfl rfl rfl rfl rfl (fun w6 M6 => (aB (aC (aD (aA (wq (bA 1 bR M6 rfl rfl rfl) rfl (bB 2 _ bR M6 rfl rfl rfl rfl rfl (aQ rfl) rfl (fun w7 M7 => ?_))))))))))
  refine aB (aC (aN (eP 2 bR M7 rfl rfl rfl ?_)))
  exact ⟨by unfold oS; rw [if_neg h8]; rfl, by rw [show pT b = decide (iT (b.vy - 1024) 16777216 ≠ b.vy - 1024) by unfold pT; rw [decide_eq_true h8, Bool.true_and]]; exact M7.keep [true, false, false, false]⟩
 ·refine aM (aC (aD (aA (wq (bA 1 bR M3 rfl rfl rfl) rfl (bB 2 _ bR M3 rfl rfl rfl rfl rfl (aQ rfl) rfl (fun w8 M8 => (aB (aC (aN (eP 2 bR M8 rfl rfl rfl ?_))))))))))
  exact ⟨by unfold oS; rw [if_pos (Decidable.not_not.1 h8)]; rfl, by rw [show pT b = false by unfold pT; rw [decide_eq_false h8, Bool.false_and], Bool.or_false]; exact M8.keep [true, false, false]⟩
set_option maxHeartbeats 4000000 in
theorem aJk (w : World) (A : Option Addr) (n c : Nat) (xs : List Body) (R : Rd w 10 A n (xs.map aF)) (hb : ∀ b ∈ xs, Okb b) (hn : n ≤ 1048576) (bf : Nat) (hO : Own [(some bf, bc [.bool false] 4)] w) (hdA : 0 < n → ∀ q off, A = some ⟨q, off, none⟩ → q ∉ bH [(some bf, bc [.bool false] 4)]) :
  Calls Tryz.prog 109 #[.slice A n c, .func (.func 110) #[] #[.pointer (some ⟨bf, 0, none⟩)]] w (fun ex w' => ∃ v, ex = .returned v ∧ (fun v w' => ∃ r : Row, v = .slice r.A r.n r.c ∧ aU 39 10 r.A r.n r.c ((qY xs).map aF) r.e ∧ Mem w (bH [(some bf, bc [.bool false] 4)]) [(some bf, bc [.bool (xs.any pT)] 4), r.e] w') v w') := by
 have hlen : xs.length = n := by simpa using R.len
 have hbd := R.bound
 refine aH #[.tmp 4] 24 Tryz.func109 rfl Tryz.results109 Tryz.ntmps109 rfl ?_
 have M0 := hO.mem
 refine aD (aA (fL rfl rfl (aB (aC (aD (aA (fL rfl rfl ?_)))))))
 have M1 := M0.dummy default
 refine aB (aC (aD (aD (aA (eC rfl rfl (wq (cR Tryz.underlying29 rfl) rfl (aY rfl rfl (aB (aC (aT (dP (σ := Nat × Row) [1, 4, 8, 9] (fun (k, q) => [(5, .slice q.A q.n q.c), (10, .int .i64 (k : Int))]) (fun (k, q) w' => (k ≤ n ∧ aU 39 10 q.A q.n q.c (((xs.take k).map oS).map aF) q.e) ∧ Mem w (bH [(some bf, bc [.bool false] 4)]) [(some bf, bc [.bool ((xs.take k).any pT)] 4), q.e] w') (fun (k, q) => n - k) (0, fP) (bM rfl (bM rfl fD)) (⟨⟨by omega, aU.nil _ _ _⟩, M1⟩) ?_)))))))))))
 rintro ⟨k, q⟩ ρ2 w2 ⟨⟨hk, hq⟩, hM2⟩
 have htl := List.length_take_le k xs
 have hqn : (xs.take k).length = q.n := by simpa using hq.1
 refine aD (aA (cY rfl rfl rfl rfl (aB (aC (aD ?_)))))
 refine bE rfl (fun h11 => ?_) (fun h11 => ?_)
 ·obtain ⟨xb, hxb⟩ := cL (xs := xs) (k := k) hlen (by omega)
  refine aM (aC (aD (aT (aD (aA (aY rfl rfl (wq (bV (k) fE rfl rfl rfl ((R.memY hM2 hdA).below_len (aJ aF hxb)) ((R.memY hM2 hdA).someK (aJ aF hxb))) rfl (wq (eB _ bR (R.memY hM2 hdA) (aJ aF hxb) rfl) rfl (aP iD hM2 rfl rfl (fun b3 w3 M3 => ?_))))))))))
  refine bP rfl rfl (bB 2 _ bR M3 rfl rfl rfl rfl rfl (aQ rfl) rfl (fun w4 M4 => (aB (aC (aA (eC rfl rfl (wq (aG (.func _ _ _) rfl) rfl (aY rfl rfl ?_))))))))
  refine wq (bA 2 bR M4 rfl rfl rfl) rfl (bX bFp rfl rfl (aQn _ _ xb (hb xb (List.mem_of_getElem? hxb)) bf _ (M4.ownSeg 0 1)) ?_)
  rintro v5 w5 ⟨rfl, hM5⟩
  have M5 : Mem _ _ [_, _, _] _ := M4.seg 0 1 hM5
  refine cV [.agg (List.toArray _)] [aF (oS xb)] rfl fE M5 rfl rfl rfl rfl (dD rfl) (by decide) (fun b6 w6 M6 => (dZ 1 [aF (oS xb)] fE M6 rfl rfl rfl rfl rfl hq rfl (by simp [aF, Go.Bil.one]) (cZ.ofMem 3 M6 rfl) (by omega) (fun A7 c7 e7 w7 M7 hR7 => (fL rfl rfl ?_))))
  refine aB (dJ (aC (aA (wq (bQ rfl rfl (by omega) (by omega)) rfl (aY rfl rfl (aB ?_))))))
  refine cT (k + 1, ⟨A7, q.n + 1, c7, e7⟩) (bM rfl (bM rfl fD)) (cW rfl (cW rfl (cW rfl (cW rfl kK)))) ?_ ?_
  ·exact ⟨⟨by omega, by rw [cP hxb, List.map_append, List.map_append]; exact hR7⟩, by rw [cP hxb, List.any_append, List.any_cons, List.any_nil, Bool.or_false]; exact M7.keep [true, true, false, false]⟩
  ·(show n - (k + 1) < n - k; omega)
 ·have hkn : k = n := by omega
  rw [List.take_of_length_le (by omega)] at hq
  rw [List.take_of_length_le (by omega)] at hM2
  refine cO (dC (dA (eV (aC (aD (aA (eC rfl rfl ?_)))))))
  refine fL rfl rfl (aB (aC (aN (cB (.slice _ _ _) rfl ?_))))
  exact ⟨q, rfl, hq, hM2⟩
set_option maxHeartbeats 4000000 in
theorem aFn (w : World) (A : Option Addr) (n c : Nat) (xs : List Body) (R : Rd w 10 A n (xs.map aF)) (hb : ∀ b ∈ xs, Okb b) (hn : n ≤ 1048576) :
  Calls Tryz.prog 66 #[.slice A n c] w (fun ex w' => ∃ v, ex = .returned v ∧ (fun v w' => ∃ r : Row, v = .tuple #[.slice r.A r.n r.c, .bool (xs.any pT)] ∧ aU 39 10 r.A r.n r.c ((qY xs).map aF) r.e ∧ Mem w [] [r.e] w') v w') := by
 refine aH #[.tmp 2, .tmp 3] 11 Tryz.func66 rfl Tryz.results66 Tryz.ntmps66 rfl ?_
 have M0 := Mem.refl w
 refine aD (aA (fL rfl rfl (wq (aI (.bool false) rfl) rfl (aB (aC (aD (aA (aP aMs M0 rfl rfl (fun b1 w1 M1 => (dX 0 (.bool false) mW M1 rfl rfl rfl rfl rfl rfl (fun w2 M2 => ?_)))))))))))
 refine aB (aC (aD (aA (eC rfl rfl (wq (cM [] [.pointer _] rfl rfl) rfl (bX aRf rfl rfl (aJk _ A n c xs (R.mem M2) hb hn b1 (M2.ownSeg 0 1) (M2.away 0 1 R (by simp))) ?_))))))
 rintro v3 w3 ⟨r, rfl, hr, hM3⟩
 have M3 : Mem _ _ [_, _] _ := M2.seg 0 1 hM3
 refine fL rfl rfl (aB (aC (aD (bO [(0, 0), (1, 1), (2, 0), (3, 0)] mixed rfl (by kernel_rfl) (fun w4 hb4 hh4 => ?_)))))
 have M4 := M3.drew hb4 hh4
 refine DmS rfl rfl rfl (cA rfl rfl rfl (aK 0 (.bool _) mW M4 rfl rfl rfl) (aX rfl rfl rfl (fun _ => aI (.slice _ _ _) rfl) (aX rfl rfl rfl (fun _ => aI (.bool _) rfl) (cF (aC (aN ?_))))))
 refine iK (.slice _ _ _) (.bool _) rfl rfl ?_
 exact ⟨r, rfl, hr, M4.keep [false, true]⟩
set_option maxHeartbeats 4000000 in
theorem aQu (w : World) (i : Nat) (b : Body) (hb : Okb b) (bf bl : Nat) (fl : Bool) (C : Option Addr) (m cm : Nat) (l : List (Int × Int)) (RS : Rd w 2 C m (l.map cI)) (s : Int × Int) (hs : l[i]? = some s) (hsb : (-1152921504606846976 ≤ s.1 ∧ s.1 ≤ 1152921504606846976) ∧ -1152921504606846976 ≤ s.2 ∧ s.2 ≤ 1152921504606846976) (hO : Own [(some bf, bc [.bool fl] 4), (some bl, bc [.slice C m cm] 127)] w) (hdS : 0 < m → ∀ q off, C = some ⟨q, off, none⟩ → q ∉ bH [(some bf, bc [.bool fl] 4), (some bl, bc [.slice C m cm] 127)]) :
  Calls Tryz.prog 113 #[.int .i64 (i : Int), (.agg (aF b).toArray), .pointer (some ⟨bl, 0, none⟩), .pointer (some ⟨bf, 0, none⟩)] w (fun ex w' => ∃ v, ex = .returned v ∧ (fun v w' => v = (.agg (aF (aEi b s.1 s.2)).toArray) ∧ Mem w (bH [(some bf, bc [.bool fl] 4), (some bl, bc [.slice C m cm] 127)]) [(some bf, bc [.bool (fl || aNk b s.1 s.2)] 4), (some bl, bc [.slice C m cm] 127)] w') v w') := by
 have hv := hb.v
 have hpp := hb.p
 have hlm : l.length = m := by simpa using RS.len
 have hil := (List.getElem?_eq_some_iff.1 hs).1
 refine aH #[.cell 6 39] 50 Tryz.func113 rfl Tryz.results113 Tryz.ntmps113 rfl ?_
 have M0 := hO.mem
 refine aD (aA (bC (.agg (List.toArray _)) M0 rfl rfl rfl (fun b1 w1 M1 => (aP iD M1 rfl rfl (fun b2 w2 M2 => (aB (aC (aD (bO [(0, 0), (1, 0), (2, 1), (3, 0), (4, 1), (5, 0), (6, 1), (7, 1), (8, 1), (9, 0), (10, 0), (11, 0), (12, 1), (13, 0), (14, 0), (15, 0), (16, 0)] mixed rfl (by kernel_rfl) (fun w3 hb3 hh3 => ?_))))))))))
 have M3 := M2.drew hb3 hh3
 refine aX rfl rfl rfl (fun _ => aE 6 gQ rfl) (aX rfl rfl rfl (fun _ => aE 0 dT rfl) (cA rfl rfl rfl (aK 2 (.int _ _) aW M3 rfl rfl rfl) (aX rfl rfl rfl (fun _ => bS fR Tryz.underlying2 rfl (kJ _ (by omega) (by omega))) (cA rfl rfl rfl (aK 1 (.slice _ _ _) tP M3 rfl rfl rfl) ?_))))
 refine iG rfl rfl rfl (cA rfl rfl rfl (bV (i) xB rfl rfl rfl ((RS.memY M3 hdS).below_len (aJ cI hs)) ((RS.memY M3 hdS).someK (aJ cI hs))) (cA rfl rfl rfl (bN 0 zK (RS.memY M3 hdS) (Nat.lt_of_le_of_lt (Nat.zero_le _) ((RS.memY M3 hdS).below_len (aJ cI hs))) rfl) ?_))
 refine cA rfl rfl rfl (eI (o := 0) (.int _ _) lC (RS.memY M3 hdS) (aJ cI hs) rfl rfl) (aX rfl rfl rfl (fun _ => bQ rfl rfl (by omega) (by omega)) (aX rfl rfl rfl (fun _ => aE 8 fM rfl) (aX rfl rfl rfl (fun _ => aE 0 dT rfl) (cA rfl rfl rfl (aK 2 (.int _ _) aW M3 rfl rfl rfl) ?_))))
 refine aX rfl rfl rfl (fun _ => gL rfl rfl (by decide)) (gK 22 (.int .i32 (b.vx / 64)) (iE (aHy _)) (aX rfl rfl rfl (fun _ => bS fR Tryz.underlying2 rfl (kJ _ (by omega) (by omega))) (aX rfl rfl rfl (fun _ => bQ rfl rfl (by omega) (by omega)) (gK 24 (.int .i64 (aLc b s.1)) rfl (qL rfl rfl rfl ?_)))))
 refine cF (aC (aD (bO [(0, 0), (1, 0), (2, 1), (3, 0), (4, 1), (5, 0), (6, 1), (7, 1), (8, 1), (9, 0), (10, 0), (11, 0), (12, 1), (13, 0), (14, 0), (15, 0), (16, 0)] mixed rfl (by kernel_rfl) (fun w4 hb4 hh4 => ?_))))
 have M4 := M3.drew hb4 hh4
 refine aX rfl rfl rfl (fun _ => aE 6 gQ rfl) (aX rfl rfl rfl (fun _ => aE 1 dN rfl) (cA rfl rfl rfl (aK 2 (.int _ _) aW M4 rfl rfl rfl) (aX rfl rfl rfl (fun _ => bS fR Tryz.underlying2 rfl (kJ _ (by omega) (by omega))) (cA rfl rfl rfl (aK 1 (.slice _ _ _) tP M4 rfl rfl rfl) ?_))))
 refine iG rfl rfl rfl (cA rfl rfl rfl (bV (i) xB rfl rfl rfl ((RS.memY M4 hdS).below_len (aJ cI hs)) ((RS.memY M4 hdS).someK (aJ cI hs))) (cA rfl rfl rfl (bN 1 yT (RS.memY M4 hdS) (Nat.lt_of_le_of_lt (Nat.zero_le _) ((RS.memY M4 hdS).below_len (aJ cI hs))) rfl) ?_))
 refine cA rfl rfl rfl (eI (o := 1) (.int _ _) lC (RS.memY M4 hdS) (aJ cI hs) rfl rfl) (aX rfl rfl rfl (fun _ => bQ rfl rfl (by omega) (by omega)) (aX rfl rfl rfl (fun _ => aE 8 fM rfl) (aX rfl rfl rfl (fun _ => aE 1 dN rfl) (cA rfl rfl rfl (aK 2 (.int _ _) aW M4 rfl rfl rfl) ?_))))
 refine aX rfl rfl rfl (fun _ => gL rfl rfl (by decide)) (gK 38 (.int .i32 (b.vy / 64)) (iE (aHy _)) (aX rfl rfl rfl (fun _ => bS fR Tryz.underlying2 rfl (kJ _ (by omega) (by omega))) (aX rfl rfl rfl (fun _ => bQ rfl rfl (by omega) (by omega)) (gK 40 (.int .i64 (aLf b s.2)) rfl (qL rfl rfl rfl ?_)))))
 refine cF (aC (aD (aA (aY rfl rfl (cV [.pointer _] [[.pointer (some ⟨bf, 0, none⟩)]] rfl aCf M4 rfl rfl rfl rfl (dD rfl) (by decide) (fun b5 w5 M5 => ?_))))))
 have hlit42 := jZ (T := 174) (sz := 1) (b := b5) (nn := 1) [[.pointer (some ⟨bf, 0, none⟩)]] (by simp) rfl (by decide)
 refine bX zR rfl rfl (kI _ (aLc b s.1) 1073741824 ⟨by decide, by decide⟩ bf _ _ 1 (hlit42.rd M5 (aV (i := 4) rfl)) (hlit42.awayB M5 4 0 rfl rfl rfl) (M5.ownSeg 0 1)) ?_
 rintro v6 w6 ⟨rfl, hM6⟩
 have M6 : Mem _ _ [_, _, _, _, _] _ := M5.seg 0 1 hM6
 refine aY rfl rfl (cV [.pointer _] [[.pointer (some ⟨bf, 0, none⟩)]] rfl aCf M6 rfl rfl rfl rfl (dD rfl) (by decide) (fun b7 w7 M7 => ?_))
 have hlit45 := jZ (T := 174) (sz := 1) (b := b7) (nn := 1) [[.pointer (some ⟨bf, 0, none⟩)]] (by simp) rfl (by decide)
 refine bX zR rfl rfl (kI _ (aLf b s.2) 1073741824 ⟨by decide, by decide⟩ bf _ _ 1 (hlit45.rd M7 (aV (i := 5) rfl)) (hlit45.awayB M7 5 0 rfl rfl rfl) (M7.ownSeg 0 1)) ?_
 rintro v8 w8 ⟨rfl, hM8⟩
 have M8 : Mem _ _ [_, _, _, _, _, _] _ := M7.seg 0 1 hM8
 refine wq (cD [(0, .int _ _), (1, .int _ _)] _ fY rfl rfl) rfl (wq (aE 6 gQ rfl) rfl (aCw 2 _ bJ M8 rfl rfl rfl rfl rfl (aQ rfl) (Nat.le_of_ble_eq_true rfl) (fun w9 M9 => (aB (aC (aD (aA (wq (bA 2 bR M9 rfl rfl rfl) rfl (bB 3 _ bR M9 rfl rfl rfl rfl rfl (aQ rfl) rfl (fun w10 M10 => ?_))))))))))
 refine aB (aC (aN (eP 3 bR M10 rfl rfl rfl ?_)))
 exact ⟨rfl, by rw [show (fl || aNk b s.1 s.2) = ((fl || decide (iT (aLc b s.1) 1073741824 ≠ aLc b s.1)) || decide (iT (aLf b s.2) 1073741824 ≠ aLf b s.2)) from (Bool.or_assoc _ _ _).symm]; exact M10.keep [true, true, false, false, false, false]⟩
set_option maxHeartbeats 4000000 in
theorem aIp (w : World) (A : Option Addr) (n c : Nat) (xs : List Body) (R : Rd w 10 A n (xs.map aF)) (hb : ∀ b ∈ xs, Okb b) (hn : n ≤ 1048576) (bf bl : Nat) (G : Body → Int × Int) (hG : ∀ b ∈ xs, (-1152921504606846976 ≤ (G b).1 ∧ (G b).1 ≤ 1152921504606846976) ∧ -1152921504606846976 ≤ (G b).2 ∧ (G b).2 ≤ 1152921504606846976) (C : Option Addr) (cm : Nat) (RS : Rd w 2 C n ((xs.map G).map cI)) (hO : Own [(some bf, bc [.bool false] 4), (some bl, bc [.slice C n cm] 127)] w) (hdA : 0 < n → ∀ q off, A = some ⟨q, off, none⟩ → q ∉ bH [(some bf, bc [.bool false] 4), (some bl, bc [.slice C n cm] 127)]) (hdS : 0 < n → ∀ q off, C = some ⟨q, off, none⟩ → q ∉ bH [(some bf, bc [.bool false] 4), (some bl, bc [.slice C n cm] 127)]) :
  Calls Tryz.prog 109 #[.slice A n c, .func (.func 113) #[] #[.pointer (some ⟨bl, 0, none⟩), .pointer (some ⟨bf, 0, none⟩)]] w (fun ex w' => ∃ v, ex = .returned v ∧ (fun v w' => ∃ r : Row, v = .slice r.A r.n r.c ∧ aU 39 10 r.A r.n r.c ((xs.map (fun b => aEi b (G b).1 (G b).2)).map aF) r.e ∧ Mem w (bH [(some bf, bc [.bool false] 4), (some bl, bc [.slice C n cm] 127)]) [(some bf, bc [.bool (xs.any (fun b => aNk b (G b).1 (G b).2))] 4), (some bl, bc [.slice C n cm] 127), r.e] w') v w') := by
 have hlen : xs.length = n := by simpa using R.len
 have hbd := R.bound
 refine aH #[.tmp 4] 24 Tryz.func109 rfl Tryz.results109 Tryz.ntmps109 rfl ?_
 have M0 := hO.mem
 refine aD (aA (fL rfl rfl (aB (aC (aD (aA (fL rfl rfl ?_)))))))
 have M1 := M0.dummy default
 refine aB (aC (aD (aD (aA (eC rfl rfl (wq (cR Tryz.underlying29 rfl) rfl (aY rfl rfl (aB (aC (aT (dP (σ := Nat × Row) [1, 4, 8, 9] (fun (k, q) => [(5, .slice q.A q.n q.c), (10, .int .i64 (k : Int))]) (fun (k, q) w' => (k ≤ n ∧ aU 39 10 q.A q.n q.c (((xs.take k).map (fun b => aEi b (G b).1 (G b).2)).map aF) q.e) ∧ Mem w (bH [(some bf, bc [.bool false] 4), (some bl, bc [.slice C n cm] 127)]) [(some bf, bc [.bool ((xs.take k).any (fun b => aNk b (G b).1 (G b).2))] 4), (some bl, bc [.slice C n cm] 127), q.e] w') (fun (k, q) => n - k) (0, fP) (bM rfl (bM rfl fD)) (⟨⟨by omega, aU.nil _ _ _⟩, M1⟩) ?_)))))))))))
 rintro ⟨k, q⟩ ρ2 w2 ⟨⟨hk, hq⟩, hM2⟩
 have htl := List.length_take_le k xs
 have hqn : (xs.take k).length = q.n := by simpa using hq.1
 refine aD (aA (cY rfl rfl rfl rfl (aB (aC (aD ?_)))))
 refine bE rfl (fun h11 => ?_) (fun h11 => ?_)
 ·obtain ⟨xb, hxb⟩ := cL (xs := xs) (k := k) hlen (by omega)
  refine aM (aC (aD (aT (aD (aA (aY rfl rfl (wq (bV (k) fE rfl rfl rfl ((R.memY hM2 hdA).below_len (aJ aF hxb)) ((R.memY hM2 hdA).someK (aJ aF hxb))) rfl (wq (eB _ bR (R.memY hM2 hdA) (aJ aF hxb) rfl) rfl (aP iD hM2 rfl rfl (fun b3 w3 M3 => ?_))))))))))
  refine bP rfl rfl (bB 3 _ bR M3 rfl rfl rfl rfl rfl (aQ rfl) rfl (fun w4 M4 => (aB (aC (aA (eC rfl rfl (wq (aG (.func _ _ _) rfl) rfl (aY rfl rfl ?_))))))))
  refine wq (bA 3 bR M4 rfl rfl rfl) rfl (bX bDi rfl rfl (aQu _ k xb (hb xb (List.mem_of_getElem? hxb)) bf bl _ C n cm (xs.map G) (RS.memY M4 hdS) (G xb) (aJ G hxb) (hG xb (List.mem_of_getElem? hxb)) (M4.ownSeg 0 2) (M4.away 0 2 RS hdS)) ?_)
  rintro v5 w5 ⟨rfl, hM5⟩
  have M5 : Mem _ _ [_, _, _, _] _ := M4.seg 0 2 hM5
  refine cV [.agg (List.toArray _)] [aF (aEi xb (G xb).1 (G xb).2)] rfl fE M5 rfl rfl rfl rfl (dD rfl) (by decide) (fun b6 w6 M6 => (dZ 2 [aF (aEi xb (G xb).1 (G xb).2)] fE M6 rfl rfl rfl rfl rfl hq rfl (by simp [aF, Go.Bil.one]) (cZ.ofMem 4 M6 rfl) (by omega) (fun A7 c7 e7 w7 M7 hR7 => ?_)))
  refine fL rfl rfl (aB (dJ (aC (aA (wq (bQ rfl rfl (by omega) (by omega)) rfl (aY rfl rfl ?_))))))
  refine aB ?_
  refine cT (k + 1, ⟨A7, q.n + 1, c7, e7⟩) (bM rfl (bM rfl fD)) (cW rfl (cW rfl (cW rfl (cW rfl kK)))) ?_ ?_
  ·exact ⟨⟨by omega, by rw [cP hxb, List.map_append, List.map_append]; exact hR7⟩, by rw [cP hxb, List.any_append, List.any_cons, List.any_nil, Bool.or_false]; exact M7.keep [true, true, true, false, false]⟩
  ·(show n - (k + 1) < n - k; omega)
 ·have hkn : k = n := by omega
  rw [List.take_of_length_le (by omega)] at hq
  rw [List.take_of_length_le (by omega)] at hM2
  refine cO (dC (dA (eV (aC (aD (aA (eC rfl rfl ?_)))))))
  refine fL rfl rfl (aB (aC (aN (cB (.slice _ _ _) rfl ?_))))
  exact ⟨q, rfl, hq, hM2⟩
set_option maxHeartbeats 4000000 in
theorem aTr (w : World) (A : Option Addr) (n c : Nat) (xs : List Body) (R : Rd w 10 A n (xs.map aF)) (hb : ∀ b ∈ xs, Okb b) (hn : n ≤ 1048576) (G : Body → Int × Int) (hG : ∀ b ∈ xs, (-1152921504606846976 ≤ (G b).1 ∧ (G b).1 ≤ 1152921504606846976) ∧ -1152921504606846976 ≤ (G b).2 ∧ (G b).2 ≤ 1152921504606846976) (C : Option Addr) (cm : Nat) (RS : Rd w 2 C n ((xs.map G).map cI)) :
  Calls Tryz.prog 67 #[.slice A n c, .slice C n cm] w (fun ex w' => ∃ v, ex = .returned v ∧ (fun v w' => ∃ r : Row, v = .tuple #[.slice r.A r.n r.c, .bool (xs.any (fun b => aNk b (G b).1 (G b).2))] ∧ aU 39 10 r.A r.n r.c ((xs.map (fun b => aEi b (G b).1 (G b).2)).map aF) r.e ∧ Mem w [] [r.e] w') v w') := by
 refine aH #[.tmp 4, .tmp 5] 13 Tryz.func67 rfl Tryz.results67 Tryz.ntmps67 rfl ?_
 have M0 := Mem.refl w
 refine aD (aA (bC (.slice _ _ _) M0 rfl rfl rfl (fun b1 w1 M1 => (fL rfl rfl (wq (aI (.bool false) rfl) rfl (aB (aC (aD (aA (aP aMs M1 rfl rfl (fun b2 w2 M2 => ?_)))))))))))
 refine dX 1 (.bool false) mW M2 rfl rfl rfl rfl rfl rfl (fun w3 M3 => (aB (aC (aD (aA ?_)))))
 have M4 : Mem _ _ [_, _] _ := Mem.swap2 M3
 refine eC rfl rfl (wq (cM [] [.pointer _, .pointer _] rfl rfl) rfl (bX aRf rfl rfl (aIp _ A n c xs (R.mem M4) hb hn b2 b1 G hG C cm (RS.mem M4) (M4.ownSeg 0 2) (M4.away 0 2 R (by simp)) (M4.away 0 2 RS (by simp))) ?_))
 rintro v5 w5 ⟨r, rfl, hr, hM5⟩
 have M5 : Mem _ _ [_, _, _] _ := M4.seg 0 2 hM5
 refine fL rfl rfl (aB (aC (aD (bO [(0, 0), (1, 1), (2, 0), (3, 0)] mixed rfl (by kernel_rfl) (fun w6 hb6 hh6 => ?_)))))
 have M6 := M5.drew hb6 hh6
 refine DmS rfl rfl rfl (cA rfl rfl rfl (aK 0 (.bool _) mW M6 rfl rfl rfl) (aX rfl rfl rfl (fun _ => aI (.slice _ _ _) rfl) (aX rfl rfl rfl (fun _ => aI (.bool _) rfl) (cF (aC (aN ?_))))))
 refine iK (.slice _ _ _) (.bool _) rfl rfl ?_
 exact ⟨r, rfl, hr, M6.keep [false, false, true]⟩
set_option maxHeartbeats 4000000 in
theorem aKd (w : World) (bs : Nat) (vr lr : Row) (tt mm : Int) (cl : Bool) (A : Option Addr) (n c : Nat) (q : Row) (c2 : Bool) (hO : Own [(some bs, bc [.slice A n c, .slice vr.A vr.n vr.c, .slice lr.A lr.n lr.c, .int .i64 tt, .int .i64 mm, .bool cl] 168)] w) :
  Calls Tryz.prog 145 #[.pointer (some ⟨bs, 0, none⟩), .slice q.A q.n q.c, .bool c2] w (fun ex w' => ∃ v, ex = .returned v ∧ (fun v w' => v = .tuple #[] ∧ Mem w (bH [(some bs, bc [.slice A n c, .slice vr.A vr.n vr.c, .slice lr.A lr.n lr.c, .int .i64 tt, .int .i64 mm, .bool cl] 168)]) [(some bs, bc [.slice A n c, .slice q.A q.n q.c, .slice lr.A lr.n lr.c, .int .i64 tt, .int .i64 mm, .bool (cl || c2)] 168)] w') v w') := by
 refine aH #[] 22 Tryz.func145 rfl Tryz.results145 Tryz.ntmps145 rfl ?_
 have M0 := hO.mem
 refine aD (aA (wq (aG (.pointer _) rfl) rfl (eC rfl rfl (wq (aL rfl) rfl (wq (aE 1 tB rfl) rfl (dX 0 (.slice _ _ _) fB M0 rfl rfl rfl rfl rfl rfl (fun w1 M1 => ?_)))))))
 refine aB (aC (aA (wq (aG (.pointer _) rfl) rfl (wq (aG (.pointer _) rfl) rfl (wq (aL rfl) rfl (wq (aE 3 mY rfl) rfl (wq (aE 2 wR rfl) rfl ?_)))))))
 refine wq (aK 0 (.bool _) mW M1 rfl rfl rfl) rfl (wq (aG (.bool _) rfl) rfl ?_)
 refine lQ 16 _ rfl (fun g16 => ?_) (fun g16 => ?_)
 ·refine aR rfl rfl (wq (bW true (.bool true) rfl rfl) rfl (wq (aL rfl) rfl (wq (aE 3 mY rfl) rfl (wq (aE 2 wR rfl) rfl (dX 0 (.bool true) mW M1 rfl rfl rfl rfl rfl rfl (fun w2 M2 => ?_))))))
  refine aB (iX ?_)
  first | exact ⟨rfl, by rw [(by simp only [g16, Bool.true_or] : (cl || c2) = true)]; exact M2⟩ | exact ⟨rfl, by rw [(by simp only [g16, Bool.false_or] : (cl || c2) = c2)]; exact M2⟩
 ·refine wq (aG (.bool _) rfl) rfl (wq (bW false (.bool _) rfl rfl) rfl (wq (aL rfl) rfl (wq (aE 3 mY rfl) rfl (wq (aE 2 wR rfl) rfl (dX 0 (.bool _) mW M1 rfl rfl rfl rfl rfl rfl (fun w3 M3 => ?_))))))
  refine aB (iX ?_)
  first | exact ⟨rfl, by rw [(by simp only [g16, Bool.true_or] : (cl || c2) = true)]; exact M3⟩ | exact ⟨rfl, by rw [(by simp only [g16, Bool.false_or] : (cl || c2) = c2)]; exact M3⟩
set_option maxHeartbeats 4000000 in
theorem aXk (w : World) (F : Rd w 2 (some ⟨0, 0, none⟩) 1 [[.int .u32 73856093, .int .u32 19349663]]) (N : Rd w 4 (some ⟨3, 0, none⟩) 1 [cU gP]) (bs : Nat) (vr lr : Row) (tt mm : Int) (cl : Bool) (A : Option Addr) (n c : Nat) (xs : List Body) (R : Rd w 10 A n (xs.map aF)) (hb : ∀ b ∈ xs, Okb b) (hs : bU xs) (hn : n ≤ 4096) (hO : Own [(some bs, bc [.slice A n c, .slice vr.A vr.n vr.c, .slice lr.A lr.n lr.c, .int .i64 tt, .int .i64 mm, .bool cl] 168)] w) (hdA : 0 < n → ∀ q off, A = some ⟨q, off, none⟩ → q ∉ bH [(some bs, bc [.slice A n c, .slice vr.A vr.n vr.c, .slice lr.A lr.n lr.c, .int .i64 tt, .int .i64 mm, .bool cl] 168)]) (hdF : 0 < 1 → ∀ q off, (some ⟨0, 0, none⟩ : Option Addr) = some ⟨q, off, none⟩ → q ∉ bH [(some bs, bc [.slice A n c, .slice vr.A vr.n vr.c, .slice lr.A lr.n lr.c, .int .i64 tt, .int .i64 mm, .bool cl] 168)]) (hdN : 0 < 1 → ∀ q off, (some ⟨3, 0, none⟩ : Option Addr) = some ⟨q, off, none⟩ → q ∉ bH [(some bs, bc [.slice A n c, .slice vr.A vr.n vr.c, .slice lr.A lr.n lr.c, .int .i64 tt, .int .i64 mm, .bool cl] 168)]) :
  Calls Tryz.prog 105 #[.pointer (some ⟨bs, 0, none⟩)] w (fun ex w' => ∃ v, ex = .returned v ∧ (fun v w' => v = .tuple #[] ∧ ∃ (r : Row) (m : Nat), (lJ xs).length ≤ m ∧ 2 * m ≤ xs.length * (xs.length - 1) ∧ aU 211 5 r.A r.n r.c ((lV xs).map cK) r.e ∧ Mem w (bH [(some bs, bc [.slice A n c, .slice vr.A vr.n vr.c, .slice lr.A lr.n lr.c, .int .i64 tt, .int .i64 mm, .bool cl] 168)]) [(some bs, bc [.slice A n c, .slice vr.A vr.n vr.c, .slice r.A r.n r.c, .int .i64 (m : Int), .int .i64 (r.n : Int), .bool cl] 168), r.e] w') v w') := by
 refine aH #[] 26 Tryz.func105 rfl Tryz.results105 Tryz.ntmps105 rfl ?_
 have M0 := hO.mem
 refine aD (aA (wq (aG (.pointer _) rfl) rfl (wq (aG (.pointer _) rfl) rfl (wq (aG (.pointer _) rfl) rfl (wq (aL rfl) rfl (wq (aE 0 xF rfl) rfl ?_))))))
 refine wq (aK 0 (.slice _ _ _) fB M0 rfl rfl rfl) rfl (bX bEz rfl rfl (aCv _ (F.memY M0 hdF) (N.memY M0 hdN) A n c xs (R.memY M0 hdA) hb hs hn) ?_)
 rintro v1 w1 ⟨r, m, rfl, hm1, hm2, hr, hM1⟩
 have M1 : Mem _ _ [_, _] _ := M0.call0 hM1
 refine wq (aG (.tuple (List.toArray _)) rfl) rfl (wq (bG (.slice _ _ _) rfl rfl) rfl (wq (bG (.int _ _) rfl rfl) rfl (wq (aL rfl) rfl (wq (aE 2 sP rfl) rfl (dX 0 (.slice _ _ _) lS M1 rfl rfl rfl rfl rfl rfl (fun w2 M2 => ?_))))))
 refine wq (aL rfl) rfl (wq (aE 3 mY rfl) rfl (wq (aE 0 aZb rfl) rfl (dX 0 (.int _ _) iM M2 rfl rfl rfl rfl rfl rfl (fun w3 M3 => (aB (aC (aA (wq (aG (.pointer _) rfl) rfl ?_))))))))
 refine wq (aG (.pointer _) rfl) rfl (wq (aL rfl) rfl (wq (aE 2 sP rfl) rfl (wq (aK 0 (.slice _ _ _) lS M3 rfl rfl rfl) rfl (wq (cR Tryz.underlying166 rfl) rfl (wq (aL rfl) rfl ?_)))))
 refine wq (aE 3 mY rfl) rfl (wq (aE 1 aLs rfl) rfl (dX 0 (.int _ _) iM M3 rfl rfl rfl rfl rfl rfl (fun w4 M4 => (aB (iX ?_)))))
 exact ⟨rfl, r, m, hm1, hm2, hr, M4⟩
set_option maxHeartbeats 4000000 in
theorem aYq (w : World) (bs : Nat) (vr lr : Row) (tt mm : Int) (cl : Bool) (A : Option Addr) (n c : Nat) (xs : List Body) (R : Rd w 10 A n (xs.map aF)) (hb : ∀ b ∈ xs, Okb b) (hn : n ≤ 1048576) (hO : Own [(some bs, bc [.slice A n c, .slice vr.A vr.n vr.c, .slice lr.A lr.n lr.c, .int .i64 tt, .int .i64 mm, .bool cl] 168)] w) (hdA : 0 < n → ∀ q off, A = some ⟨q, off, none⟩ → q ∉ bH [(some bs, bc [.slice A n c, .slice vr.A vr.n vr.c, .slice lr.A lr.n lr.c, .int .i64 tt, .int .i64 mm, .bool cl] 168)]) :
  Calls Tryz.prog 106 #[.pointer (some ⟨bs, 0, none⟩)] w (fun ex w' => ∃ v, ex = .returned v ∧ (fun v w' => v = .tuple #[] ∧ ∃ r : Row, aU 39 10 r.A r.n r.c ((qY xs).map aF) r.e ∧ Mem w (bH [(some bs, bc [.slice A n c, .slice vr.A vr.n vr.c, .slice lr.A lr.n lr.c, .int .i64 tt, .int .i64 mm, .bool cl] 168)]) [(some bs, bc [.slice A n c, .slice r.A r.n r.c, .slice lr.A lr.n lr.c, .int .i64 tt, .int .i64 mm, .bool (cl || xs.any pT)] 168), r.e] w') v w') := by
 refine aH #[] 11 Tryz.func106 rfl Tryz.results106 Tryz.ntmps106 rfl ?_
 have M0 := hO.mem
 refine aA (wq (aG (.pointer _) rfl) rfl (wq (aG (.pointer _) rfl) rfl (wq (aL rfl) rfl (wq (aE 0 xF rfl) rfl (wq (aK 0 (.slice _ _ _) fB M0 rfl rfl rfl) rfl ?_)))))
 refine bX bGh rfl rfl (aFn _ A n c xs (R.memY M0 hdA) hb hn) ?_
 rintro v1 w1 ⟨r, rfl, hr, hM1⟩
 have M1 : Mem _ _ [_, _] _ := M0.call0 hM1
 refine wq (bG (.slice _ _ _) rfl rfl) rfl (wq (bG (.bool _) rfl rfl) rfl (bX aJx rfl rfl (aKd _ bs vr lr tt mm cl A n c r _ (M1.ownSeg 0 1)) ?_))
 rintro v2 w2 ⟨rfl, hM2⟩
 have M2 : Mem _ _ [_, _] _ := M1.seg 0 1 hM2
 refine aB (iX ?_)
 exact ⟨rfl, r, hr, M2⟩
set_option maxHeartbeats 4000000 in
theorem aVe (w : World) (bs : Nat) (vr lr : Row) (tt mm : Int) (cl : Bool) (A : Option Addr) (n c : Nat) (ys : List Body) (cs : List Con) (RV : Rd w 10 vr.A vr.n (ys.map aF)) (RL : Rd w 5 lr.A lr.n (cs.map cK)) (hs : bU ys) (hb : ∀ b ∈ ys, Okb b) (hn : vr.n ≤ 1048576) (hcs : ∀ c ∈ cs, OkC ys c) (hmc : lr.n ≤ 8589934592) (hO : Own [(some bs, bc [.slice A n c, .slice vr.A vr.n vr.c, .slice lr.A lr.n lr.c, .int .i64 tt, .int .i64 mm, .bool cl] 168)] w) (hdV : 0 < vr.n → ∀ q off, vr.A = some ⟨q, off, none⟩ → q ∉ bH [(some bs, bc [.slice A n c, .slice vr.A vr.n vr.c, .slice lr.A lr.n lr.c, .int .i64 tt, .int .i64 mm, .bool cl] 168)]) (hdL : 0 < lr.n → ∀ q off, lr.A = some ⟨q, off, none⟩ → q ∉ bH [(some bs, bc [.slice A n c, .slice vr.A vr.n vr.c, .slice lr.A lr.n lr.c, .int .i64 tt, .int .i64 mm, .bool cl] 168)]) :
  Calls Tryz.prog 107 #[.pointer (some ⟨bs, 0, none⟩)] w (fun ex w' => ∃ v, ex = .returned v ∧ (fun v w' => v = .tuple #[] ∧ ∃ r : Row, aU 39 10 r.A r.n r.c (((gV ys cs 4).1).map aF) r.e ∧ Mem w (bH [(some bs, bc [.slice A n c, .slice vr.A vr.n vr.c, .slice lr.A lr.n lr.c, .int .i64 tt, .int .i64 mm, .bool cl] 168)]) [(some bs, bc [.slice A n c, .slice r.A r.n r.c, .slice lr.A lr.n lr.c, .int .i64 tt, .int .i64 mm, .bool (cl || (gV ys cs 4).2)] 168), r.e] w') v w') := by
 refine aH #[] 15 Tryz.func107 rfl Tryz.results107 Tryz.ntmps107 rfl ?_
 have M0 := hO.mem
 refine bO [(0, 0), (1, 0), (2, 0), (3, 0), (4, 1), (5, 0), (6, 0), (7, 0), (8, 1), (9, 2), (10, 0), (11, 0), (12, 2)] mixed rfl (by kernel_rfl) (fun w1 hb1 hh1 => ?_)
 have M1 := M0.drew hb1 hh1
 refine aX rfl rfl rfl (fun _ => aG (.pointer _) rfl) (aX rfl rfl rfl (fun _ => aG (.pointer _) rfl) (aX rfl rfl rfl (fun _ => aL rfl) (aX rfl rfl rfl (fun _ => aE 1 tB rfl) (cA rfl rfl rfl (aK 0 (.slice _ _ _) fB M1 rfl rfl rfl) (aX rfl rfl rfl (fun _ => aG (.pointer _) rfl) ?_)))))
 refine aX rfl rfl rfl (fun _ => aL rfl) (aX rfl rfl rfl (fun _ => aE 2 sP rfl) (cA rfl rfl rfl (aK 0 (.slice _ _ _) lS M1 rfl rfl rfl) (dL [true, true] rfl (by kernel_rfl) (bX bCw rfl rfl (aNj _ vr.A vr.n vr.c ys (RV.memY M1 hdV) hs hb hn lr.A lr.n lr.c cs (RL.memY M1 hdL) hcs hmc) ?_))))
 rintro v2 w2 ⟨r, rfl, hr, hM2⟩
 have M2 : Mem _ _ [_, _] _ := M1.call0 hM2
 refine aB (aC ⟨dM, ?_⟩)
 refine aX rfl rfl rfl (fun _ => bG (.slice _ _ _) rfl rfl) (aX rfl rfl rfl (fun _ => bG (.bool _) rfl rfl) (dL [] rfl (by kernel_rfl) (bX aJx rfl rfl (aKd _ bs vr lr tt mm cl A n c r _ (M2.ownSeg 0 1)) ?_)))
 rintro v3 w3 ⟨rfl, hM3⟩
 have M3 : Mem _ _ [_, _] _ := M2.seg 0 1 hM3
 refine aB (aC ⟨dM, ?_⟩)
 refine cF (iX ?_)
 exact ⟨rfl, r, hr, M3⟩
set_option maxHeartbeats 4000000 in
theorem bAf (w : World) (bs : Nat) (vr lr : Row) (tt mm : Int) (cl : Bool) (A : Option Addr) (n c : Nat) (xs : List Body) (R : Rd w 10 A n (xs.map aF)) (ys : List Body) (cs : List Con) (RV : Rd w 10 vr.A vr.n (ys.map aF)) (RL : Rd w 5 lr.A lr.n (cs.map cK)) (hs : bU xs) (hb : ∀ b ∈ xs, Okb b) (hb2 : ∀ b ∈ ys, Okb b) (hn : n ≤ 1048576) (hvn : vr.n = n) (hcs : ∀ c ∈ cs, OkC xs c) (hmc : lr.n ≤ 1073741824) (hsh : xs.map (iW xs cs) = ys.map (iW xs cs)) (hG : ∀ b ∈ ys, (-1152921504606846976 ≤ (iW xs cs b).1 ∧ (iW xs cs b).1 ≤ 1152921504606846976) ∧ -1152921504606846976 ≤ (iW xs cs b).2 ∧ (iW xs cs b).2 ≤ 1152921504606846976) (hO : Own [(some bs, bc [.slice A n c, .slice vr.A vr.n vr.c, .slice lr.A lr.n lr.c, .int .i64 tt, .int .i64 mm, .bool cl] 168)] w) (hdA : 0 < n → ∀ q off, A = some ⟨q, off, none⟩ → q ∉ bH [(some bs, bc [.slice A n c, .slice vr.A vr.n vr.c, .slice lr.A lr.n lr.c, .int .i64 tt, .int .i64 mm, .bool cl] 168)]) (hdV : 0 < vr.n → ∀ q off, vr.A = some ⟨q, off, none⟩ → q ∉ bH [(some bs, bc [.slice A n c, .slice vr.A vr.n vr.c, .slice lr.A lr.n lr.c, .int .i64 tt, .int .i64 mm, .bool cl] 168)]) (hdL : 0 < lr.n → ∀ q off, lr.A = some ⟨q, off, none⟩ → q ∉ bH [(some bs, bc [.slice A n c, .slice vr.A vr.n vr.c, .slice lr.A lr.n lr.c, .int .i64 tt, .int .i64 mm, .bool cl] 168)]) :
  Calls Tryz.prog 108 #[.pointer (some ⟨bs, 0, none⟩)] w (fun ex w' => ∃ v, ex = .returned v ∧ (fun v w' => v = .tuple #[] ∧ ∃ r : Row, aU 39 10 r.A r.n r.c ((aMy xs cs ys).map aF) r.e ∧ Mem w (bH [(some bs, bc [.slice A n c, .slice vr.A vr.n vr.c, .slice lr.A lr.n lr.c, .int .i64 tt, .int .i64 mm, .bool cl] 168)]) [(some bs, bc [.slice A n c, .slice r.A r.n r.c, .slice lr.A lr.n lr.c, .int .i64 tt, .int .i64 mm, .bool (cl || aRz xs cs ys)] 168), r.e] w') v w') := by
 have hlen : xs.length = n := by simpa using R.len
 refine aH #[] 20 Tryz.func108 rfl Tryz.results108 Tryz.ntmps108 rfl ?_
 have M0 := hO.mem
 refine bO [(0, 0), (1, 0), (2, 0), (3, 0), (4, 1), (5, 0), (6, 0), (7, 0), (8, 1), (9, 0), (10, 0), (11, 0), (12, 1), (13, 2), (14, 2), (15, 0), (16, 0), (17, 2)] mixed rfl (by kernel_rfl) (fun w1 hb1 hh1 => ?_)
 have M1 := M0.drew hb1 hh1
 refine aX rfl rfl rfl (fun _ => aG (.pointer _) rfl) (aX rfl rfl rfl (fun _ => aG (.pointer _) rfl) (aX rfl rfl rfl (fun _ => aL rfl) (aX rfl rfl rfl (fun _ => aE 1 tB rfl) (cA rfl rfl rfl (aK 0 (.slice _ _ _) fB M1 rfl rfl rfl) (aX rfl rfl rfl (fun _ => aG (.pointer _) rfl) ?_)))))
 refine aX rfl rfl rfl (fun _ => aL rfl) (aX rfl rfl rfl (fun _ => aE 0 xF rfl) (cA rfl rfl rfl (aK 0 (.slice _ _ _) fB M1 rfl rfl rfl) (aX rfl rfl rfl (fun _ => aG (.pointer _) rfl) (aX rfl rfl rfl (fun _ => aL rfl) (aX rfl rfl rfl (fun _ => aE 2 sP rfl) ?_)))))
 refine cA rfl rfl rfl (aK 0 (.slice _ _ _) lS M1 rfl rfl rfl) (dL [true, true, false] rfl (by kernel_rfl) (bX bCi rfl rfl (aJy _ A n c xs (R.memY M1 hdA) hs hb hn lr.A lr.n lr.c cs (RL.memY M1 hdL) hcs hmc) ?_))
 rintro v2 w2 ⟨⟨qA, qn, qc, qe⟩, rfl, hq, hM2⟩
 have hqn : xs.length = qn := by simpa using hq.1
 obtain rfl : qn = vr.n := by omega
 rw [hsh] at hq
 have M2 : Mem _ _ [_, _] _ := M1.call0 hM2
 refine aB (aC ⟨(eK (bL rfl (aK 0 (.slice _ _ _) fB M2 rfl rfl rfl)) dM), ?_⟩)
 refine dL [true] rfl (by kernel_rfl) (bX bHl rfl rfl (aTr _ vr.A vr.n vr.c ys (RV.memY M2 hdV) hb2 (by omega) (iW xs cs) hG qA qc (hq.rd M2 (aV (i := 1) rfl))) ?_)
 rintro v3 w3 ⟨r, rfl, hr, hM3⟩
 have M3 : Mem _ _ [_, _, _] _ := M2.call0 hM3
 refine aB (aC ⟨dM, ?_⟩)
 refine aX rfl rfl rfl (fun _ => bG (.slice _ _ _) rfl rfl) (aX rfl rfl rfl (fun _ => bG (.bool _) rfl rfl) (dL [] rfl (by kernel_rfl) (bX aJx rfl rfl (aKd _ bs vr lr tt mm cl A n c r _ (M3.ownSeg 0 1)) ?_)))
 rintro v4 w4 ⟨rfl, hM4⟩
 have M4 : Mem _ _ [_, _, _] _ := M3.seg 0 1 hM4
 refine aB (aC ⟨dM, ?_⟩)
 refine cF (iX ?_)
 exact ⟨rfl, r, hr, M4.keep [true, false, true]⟩
theorem aQs {xs : List Body} {cs : List Con} {b b' : Body} (h : SameB b b') : iW xs cs b = iW xs cs b' := by
 unfold iW sF xW
 rw [h.key, h.mass]
theorem aFw {xs ys zs : List Body} {cs : List Con} (h : Like ys zs) : ys.map (iW xs cs) = zs.map (iW xs cs) := by
 apply List.ext_getElem?
 intro i
 rw [List.getElem?_map, List.getElem?_map]
 by_cases hi : i < ys.length
 ·have h1 : ys[i]? = some ys[i] := List.getElem?_eq_getElem hi
  have h2 : zs[i]? = some (zs[i]'(by rw [h.len]; exact hi)) := List.getElem?_eq_getElem _
  rw [h1, h2]
  exact congrArg some (aQs (h.at_ i _ _ h1 h2)).symm
 ·have hl := h.len
  rw [List.getElem?_eq_none (show ys.length ≤ i by omega), List.getElem?_eq_none (show zs.length ≤ i by omega)]
theorem aWn {xs : List Body} {cs : List Con} (hs : bU xs) (hb : ∀ b ∈ xs, Okb b) (hcs : ∀ c ∈ cs, OkC xs c) (hl : cs.length ≤ 1073741824) {zs : List Body} (h : Like xs zs) : ∀ b ∈ zs, (-1152921504606846976 ≤ (iW xs cs b).1 ∧ (iW xs cs b).1 ≤ 1152921504606846976) ∧ -1152921504606846976 ≤ (iW xs cs b).2 ∧ (iW xs cs b).2 ≤ 1152921504606846976 := fun b hbm => by
 have hm : iW xs cs b ∈ zs.map (iW xs cs) := List.mem_map_of_mem hbm
 rw [← aFw h] at hm
 obtain ⟨x, hx, e⟩ := List.mem_map.1 hm
 rw [← e]
 have := aEl hs hb hcs rfl hl cs.length hx
 rwa [List.take_of_length_le (Nat.le_refl _)] at this
set_option maxHeartbeats 16000000 in
theorem aOq (w : World) (F : Rd w 2 (some ⟨0, 0, none⟩) 1 [[.int .u32 73856093, .int .u32 19349663]]) (N : Rd w 4 (some ⟨3, 0, none⟩) 1 [cU gP]) (A : Option Addr) (n c : Nat) (xs : List Body) (R : Rd w 10 A n (xs.map aF)) (hb : ∀ b ∈ xs, Okb b) (hs : bU xs) (hn : n ≤ 4096) :
  Calls Tryz.prog 65 #[.slice A n c] w (fun ex w' => ∃ v, ex = .returned v ∧ (fun v w' => ∃ (r : Row) (t : Nat), v = .tuple #[.slice r.A r.n r.c, .agg [.int .i64 (t : Int), .int .i64 ((lV xs).length : Int), .bool (rZ xs)].toArray] ∧ (lV xs).length ≤ t ∧ 2 * t ≤ xs.length * (xs.length - 1) ∧ aU 39 10 r.A r.n r.c ((oZ xs).map aF) r.e ∧ Mem w [] [r.e] w') v w') := by
 have hlen : xs.length = n := by simpa using R.len
 have hnn : xs.length * xs.length ≤ 4096 * 4096 := Nat.mul_le_mul (by omega) (by omega)
 have hcl := aHe xs
 have hsq := aXp (xs := xs)
 refine aH #[.tmp 2, .cell 3 58] 26 Tryz.func65 rfl Tryz.results65 Tryz.ntmps65 rfl ?_
 have M0 := Mem.refl w
 refine aD (aA (fL rfl rfl (aP aEj M0 rfl rfl (fun b1 w1 M1 => (aB (aC (aD (aA (eC rfl rfl (wq (cD [(0, .slice _ _ _)] _ aOv rfl rfl) rfl ?_))))))))))
 refine bC (.agg (List.toArray _)) M1 rfl rfl rfl (fun b2 w2 M2 => (wq (aI (.pointer _) rfl) rfl (aB (aC (aD (aD (aA (wq (oT [.func _ _ _, .func _ _ _, .func _ _ _, .func _ _ _] zU bAa rfl rfl (dD rfl)) rfl (aY rfl rfl (aB (aC (aT ?_))))))))))))
 refine lO 5 (iC (aD (aA (cY rfl rfl rfl rfl (oG 12 rfl (by first | decide | omega) (aB (aC (aD (cQ rfl ?_)))))))))
 refine aM (aC (aD (aT (aD (aA (wq (uR 0 (.func _ _ _) zU aEo rfl rfl (by decide) (by decide) rfl rfl) rfl (wq (aI (.func _ _ _) rfl) rfl (aB (aC (aA (wq (aG (.func _ _ _) rfl) rfl (wq (aG (.pointer _) rfl) rfl ?_))))))))))))
 refine bX bDb rfl rfl (aXk _ (F.mem M2) (N.mem M2) b2 fP fP 0 0 false A n c xs (R.mem M2) hb hs hn (M2.ownSeg 1 1) (M2.away 1 1 R (by simp)) (M2.away 1 1 F (by simp)) (M2.away 1 1 N (by simp))) ?_
 rintro v3 w3 ⟨rfl, r, tm, ht1, ht2, hr, hM3⟩
 have M3 : Mem _ _ [_, _, _] _ := M2.seg 1 1 hM3
 have hrn : (lV xs).length = r.n := by simpa using hr.1
 refine aB (dJ (aC (aA (wq (bQ rfl rfl (by first | decide | omega) (by first | decide | omega)) rfl (aS 17 (.int .i64 1) (iE (by first | decide | omega)) (aY rfl rfl ?_))))))
 refine aB (aC (iC (aD (aA (cY rfl rfl rfl rfl (oG 12 rfl (by first | decide | omega) (aB (aC (aD ?_)))))))))
 refine cQ rfl (aM (aC (aD (aT (aD (aA (wq (uR 1 (.func _ _ _) zU aEo rfl rfl (by decide) (by decide) rfl rfl) rfl (wq (aI (.func _ _ _) rfl) rfl (aB (aC (aA (wq (aG (.func _ _ _) rfl) rfl ?_))))))))))))
 refine wq (aG (.pointer _) rfl) rfl (bX bDm rfl rfl (aYq _ b2 fP r (tm : Int) (r.n : Int) false A n c xs (R.mem M3) hb (by omega) (M3.ownSeg 1 1) (M3.away 1 1 R (by simp))) ?_)
 rintro v4 w4 ⟨rfl, g, hg, hM4⟩
 have M4 : Mem _ _ [_, _, _, _] _ := M3.seg 1 1 hM4
 have hgn : (qY xs).length = g.n := by simpa using hg.1
 have hgl := (nA xs).len
 refine aB (dJ (aC (aA (wq (bQ rfl rfl (by first | decide | omega) (by first | decide | omega)) rfl (aS 17 (.int .i64 2) (iE (by first | decide | omega)) (aY rfl rfl ?_))))))
 refine aB (aC (iC (aD (aA (cY rfl rfl rfl rfl (oG 12 rfl (by first | decide | omega) (aB (aC (aD ?_)))))))))
 refine cQ rfl (aM (aC (aD (aT (aD (aA (wq (uR 2 (.func _ _ _) zU aEo rfl rfl (by decide) (by decide) rfl rfl) rfl (wq (aI (.func _ _ _) rfl) rfl (aB (aC (aA (wq (aG (.func _ _ _) rfl) rfl ?_))))))))))))
 refine wq (aG (.pointer _) rfl) rfl (bX bFw rfl rfl (aVe _ b2 g r (tm : Int) (r.n : Int) _ A n c (qY xs) (lV xs) (hg.rd M4 (aV (i := 3) rfl)) (hr.rd M4 (aV (i := 2) rfl)) ((nA xs).sorted hs) (aEh hb) (by omega) (fun c h => (nA xs).okc (yF hs hb c h)) (by omega) (M4.ownSeg 1 1) (hg.awayB M4 3 1 rfl rfl rfl) (hr.awayB M4 2 1 rfl rfl rfl)) ?_)
 rintro v5 w5 ⟨rfl, s, hsv, hM5⟩
 have M5 : Mem _ _ [_, _, _, _, _] _ := M4.seg 1 1 hM5
 have hsn : (mC xs).length = s.n := by have h := hsv.1; rwa [List.length_map] at h
 have hlk : Like xs (mC xs) := (nA xs).trans (jQ _ _ 4)
 have hsl := hlk.len
 refine aB (dJ (aC (aA (wq (bQ rfl rfl (by first | decide | omega) (by first | decide | omega)) rfl (aS 17 (.int .i64 3) (iE (by first | decide | omega)) (aY rfl rfl ?_))))))
 refine aB (aC (iC (aD (aA (cY rfl rfl rfl rfl (oG 12 rfl (by first | decide | omega) (aB (aC (aD ?_)))))))))
 refine cQ rfl (aM (aC (aD (aT (aD (aA (wq (uR 3 (.func _ _ _) zU aEo rfl rfl (by decide) (by decide) rfl rfl) rfl (wq (aI (.func _ _ _) rfl) rfl (aB (aC (aA (wq (aG (.func _ _ _) rfl) rfl ?_))))))))))))
 refine wq (aG (.pointer _) rfl) rfl (bX bDk rfl rfl (bAf _ b2 s r (tm : Int) (r.n : Int) _ A n c xs (R.mem M5) (mC xs) (lV xs) (hsv.rd M5 (aV (i := 4) rfl)) (hr.rd M5 (aV (i := 2) rfl)) hs hb (sE (aEh hb) 4) (by omega) (by omega) (yF hs hb) (by omega) (aFw hlk) (aWn hs hb (yF hs hb) (by omega) hlk) (M5.ownSeg 1 1) (M5.away 1 1 R (by simp)) (hsv.awayB M5 4 1 rfl rfl rfl) (hr.awayB M5 2 1 rfl rfl rfl)) ?_)
 rintro v6 w6 ⟨rfl, m, hm, hM6⟩
 have M6 : Mem _ _ [_, _, _, _, _, _] _ := M5.seg 1 1 hM6
 refine aB (dJ (aC (aA (wq (bQ rfl rfl (by first | decide | omega) (by first | decide | omega)) rfl (aS 17 (.int .i64 4) (iE (by first | decide | omega)) (aY rfl rfl ?_))))))
 refine aB (aC (iC (aD (aA (cY rfl rfl rfl rfl (tW 12 rfl (by first | decide | omega) (aB (aC (aD ?_)))))))))
 refine cC rfl (cO (dC (dC (eV (aC (aD (bO [(0, 0), (1, 0), (2, 0), (3, 1), (4, 0), (5, 0), (6, 0), (7, 1), (8, 0), (9, 2)] mixed rfl (by kernel_rfl) (fun w7 hb7 hh7 => ?_))))))))
 have M7 := M6.drew hb7 hh7
 refine aX rfl rfl rfl (fun _ => aG (.pointer _) rfl) (aX rfl rfl rfl (fun _ => aL rfl) (aX rfl rfl rfl (fun _ => aE 1 tB rfl) (cA rfl rfl rfl (aK 1 (.slice _ _ _) fB M7 rfl rfl rfl) (aX rfl rfl rfl (fun _ => aG (.pointer _) rfl) (aX rfl rfl rfl (fun _ => aL rfl) ?_)))))
 refine aX rfl rfl rfl (fun _ => aE 3 mY rfl) (cA rfl rfl rfl (pV 1 _ vK M7 rfl rfl rfl rfl) (aX rfl rfl rfl (fun _ => aI (.slice _ _ _) rfl) (dL [true, true] rfl (by kernel_rfl) (bB 0 _ vK M7 rfl rfl rfl rfl rfl (aQ rfl) rfl (fun w8 M8 => ?_)))))
 refine aB (aC ⟨dM, ?_⟩)
 refine cF (aC (aN (bIk (.slice _ _ _) 0 vK M8 rfl rfl rfl rfl ?_)))
 exact ⟨m, tm, aAs rfl (by rw [hrn]; show Value.agg _ = _; rw [show rZ xs = (((false || xs.any pT) || (gV (qY xs) (lV xs) 4).2) || aRz xs (lV xs) (mC xs)) by unfold rZ; rw [Bool.false_or]]; rfl), by omega, ht2, hm, M8.keep [false, false, false, false, false, true]⟩
end Go.Proofs.YtaoaknafiegfoaaGreatDoor
