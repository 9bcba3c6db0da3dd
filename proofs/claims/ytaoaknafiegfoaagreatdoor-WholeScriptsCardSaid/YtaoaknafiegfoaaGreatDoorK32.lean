/- Part of the proof of the laws of this seat: S20i, S20j, S20k, S20l, S20m, S20n, R20a, R20b, R20c, R20d, R20e, R20f. No conditions. -/
import Derived.Test.YtaoaknafiegfoaaGreatDoorK2
import Derived.Test.YtaoaknafiegfoaaGreatDoorK5
import Derived.Test.YtaoaknafiegfoaaGreatDoorK27
import Derived.Test.YtaoaknafiegfoaaGreatDoorK31
import Derived.Test.YtaoaknafiegfoaaGreatDoorK30
import Derived.Test.YtaoaknafiegfoaaGreatDoorK28
set_option linter.unusedVariables false
set_option linter.unusedSimpArgs false
set_option linter.unnecessarySimpa false
namespace Go.Proofs.YtaoaknafiegfoaaGreatDoor
open Go.Bil
open Go.RowKit (Below)
open Go.Proofs
set_option maxHeartbeats 4000000 in
theorem nP (w : World) (a l : Int) (hl : 0 ≤ l ∧ l ≤ 2147483647) (bf : Nat) (fl : Bool) (F : Option Addr) (cf : Nat) (RF : Rd w 1 F 1 [[.pointer (some ⟨bf, 0, none⟩)]]) (hdF : 0 < 1 → ∀ q off, F = some ⟨q, off, none⟩ → q ∉ cE [(some bf, bc [.bool fl] 4)]) (hO : Own [(some bf, bc [.bool fl] 4)] w) :
  Calls Tryz.prog 112 #[.int .i64 a, .int .i64 l, .slice F 1 cf] w (fun ex w' => ∃ v, ex = .returned v ∧ (fun v w' => v = .int .i32 (iS a l) ∧ Mem w (cE [(some bf, bc [.bool fl] 4)]) [(some bf, bc [.bool (fl || decide (iS a l ≠ a))] 4)] w') v w') := by
 have hr := eP a hl.1
 refine aI #[.tmp 6] 34 Tryz.func112 rfl Tryz.results112 Tryz.ntmps112 rfl ?_
 have M0 := hO.mem
 refine aE (aA (bI rfl rfl (aB (aC (aE (aA (aP rfl rfl (aP rfl rfl (bY aPq rfl rfl (aCw _ a l (by omega)) ?_)))))))))
 rintro v1 w1 ⟨rfl, hb1⟩
 have M1 := M0.callB hb1
 refine wq (aH (.tuple (List.toArray _)) rfl) rfl (wq (bN (.int _ _) rfl rfl) rfl (wq (bN (.bool (decide _)) rfl rfl) rfl (bI rfl rfl (wq (aJ (.bool (decide _)) rfl) rfl (aB (aC (aE (aE (aA ?_)))))))))
 refine dO rfl rfl (wq (dC Tryz.underlying201 rfl) rfl (aK 18 (.int .i64 1) (iE rfl) (aP rfl rfl (aB (aC (aQ (iR 2 (fK ?_))))))))
 refine aE (aA (cZ rfl rfl rfl rfl (kZ 20 rfl (by first | decide | omega) (aB (aC (aE (cF rfl (aL (aC (aE (aQ (aE (aA ?_)))))))))))))
 refine wq (bP (0) aHb rfl rfl rfl ((RF.memY M1 hdF).below_len ((show ([[.pointer (some ⟨bf, 0, none⟩)]] : List (List Value))[0]? = some [.pointer (some ⟨bf, 0, none⟩)] from rfl))) ((RF.memY M1 hdF).someK ((show ([[.pointer (some ⟨bf, 0, none⟩)]] : List (List Value))[0]? = some [.pointer (some ⟨bf, 0, none⟩)] from rfl)))) rfl ?_
 refine wq (iV (.pointer _) bKm (RF.memY M1 hdF) ((show ([[.pointer (some ⟨bf, 0, none⟩)]] : List (List Value))[0]? = some [.pointer (some ⟨bf, 0, none⟩)] from rfl)) rfl) rfl (wq (aJ (.pointer _) rfl) rfl (aB (aC (aA (wq (aH (.pointer _) rfl) rfl (wq (aH (.pointer _) rfl) rfl ?_))))))
 refine wq (bE rfl) rfl (wq (aM 0 (.bool _) pC M1 rfl rfl rfl) rfl (wq (aH (.bool _) rfl) rfl ?_))
 refine jR 27 _ rfl (fun g27 => ?_) (fun g27 => ?_)
 ·refine aN rfl rfl (wq (bR true (.bool true) rfl rfl) rfl (wq (bE rfl) rfl (dD 0 (.bool true) pC M1 rfl rfl rfl rfl rfl rfl (fun w2 M2 => (aB (cV ?_))))))
  refine aC (aA (wq (aY rfl rfl (by first | decide | omega) (by first | decide | omega)) rfl (aK 31 (.int .i64 1) (iE (by first | decide | omega)) (aP rfl rfl (aB (aC (fK ?_)))))))
  refine aE (aA (cZ rfl rfl rfl rfl (pE 20 rfl (by first | decide | omega) (aB (aC (aE (cJ rfl (cX ?_))))))))
  refine dF (dF (eS (aC (aE (aA (aP rfl rfl (wq (aZ lW Tryz.underlying21 rfl (iW _ (by omega) (by omega))) rfl (bI rfl rfl ?_))))))))
  refine aB (aC (aO (cD (.int _ _) rfl ?_)))
  first | exact ⟨rfl, by rw [(by simp only [g27, Bool.true_or] : (fl || decide (iS a l ≠ a)) = true)]; exact M2⟩ | exact ⟨rfl, by rw [(by simp only [g27, Bool.false_or] : (fl || decide (iS a l ≠ a)) = decide (iS a l ≠ a))]; exact M2⟩
 ·refine wq (aH (.bool (decide _)) rfl) rfl (wq (bR false (.bool (decide _)) rfl rfl) rfl (wq (bE rfl) rfl (dD 0 (.bool (decide _)) pC M1 rfl rfl rfl rfl rfl rfl (fun w3 M3 => (aB (cV ?_))))))
  refine aC (aA (wq (aY rfl rfl (by first | decide | omega) (by first | decide | omega)) rfl (aK 31 (.int .i64 1) (iE (by first | decide | omega)) (aP rfl rfl (aB (aC (fK ?_)))))))
  refine aE (aA (cZ rfl rfl rfl rfl (pE 20 rfl (by first | decide | omega) (aB (aC (aE (cJ rfl (cX ?_))))))))
  refine dF (dF (eS (aC (aE (aA (aP rfl rfl (wq (aZ lW Tryz.underlying21 rfl (iW _ (by omega) (by omega))) rfl (bI rfl rfl ?_))))))))
  refine aB (aC (aO (cD (.int _ _) rfl ?_)))
  first | exact ⟨rfl, by rw [(by simp only [g27, Bool.true_or] : (fl || decide (iS a l ≠ a)) = true)]; exact M3⟩ | exact ⟨rfl, by rw [(by simp only [g27, Bool.false_or] : (fl || decide (iS a l ≠ a)) = decide (iS a l ≠ a))]; exact M3⟩
set_option maxHeartbeats 4000000 in
theorem aVz (w : World) (i : Int) (b : Body) (hb : Okb b) (bf : Nat) (fl : Bool) (hO : Own [(some bf, bc [.bool fl] 4)] w) :
  Calls Tryz.prog 110 #[.int .i64 i, (.agg (aF b).toArray), .pointer (some ⟨bf, 0, none⟩)] w (fun ex w' => ∃ v, ex = .returned v ∧ (fun v w' => v = (.agg (aF (oD b)).toArray) ∧ Mem w (cE [(some bf, bc [.bool fl] 4)]) [(some bf, bc [.bool (fl || lR b)] 4)] w') v w') := by
 have hv := hb.v
 refine aI #[.cell 5 39] 19 Tryz.func110 rfl Tryz.results110 Tryz.ntmps110 rfl ?_
 have M0 := hO.mem
 refine aE (aA (bK (.agg (List.toArray _)) M0 rfl rfl rfl (fun b1 w1 M1 => (aS fN M1 rfl rfl (fun b2 w2 M2 => (aB (aC (aE (aE (aA (wq (aX 1 bO M2 rfl rfl rfl) rfl (bY bKo rfl rfl (aGk _ b) ?_))))))))))))
 rintro v3 w3 ⟨rfl, hb3⟩
 have M3 := M2.callB hb3
 refine wq (oO rfl) rfl (aB (aC ?_))
 refine aW rfl (fun h8 => ?_) (fun h8 => ?_)
 ·refine aA (wq (aD 8 dV rfl) rfl (wq (aD 1 cO rfl) rfl (wq (aM 1 (.int _ _) aT M3 rfl rfl rfl) rfl (wq (aZ dQ Tryz.underlying2 rfl (fH _ (by omega) (by omega))) rfl (wq (fU rfl rfl (by omega) (by omega)) rfl ?_)))))
  refine cT [.pointer _] [[.pointer (some ⟨bf, 0, none⟩)]] rfl aHb M3 rfl rfl rfl rfl (dG rfl) (by decide) (fun b4 w4 M4 => ?_)
  have hlit14 := kH (T := 174) (sz := 1) (b := b4) (nn := 1) [[.pointer (some ⟨bf, 0, none⟩)]] (by simp) rfl (by decide)
  refine bY aFc rfl rfl (nP _ (b.vy - 1024) 16777216 ⟨by decide, by decide⟩ bf _ _ 1 (hlit14.rd M4 (bH (i := 3) rfl)) (hlit14.awayB M4 3 0 rfl rfl rfl) (M4.ownSeg 0 1)) ?_
  rintro v5 w5 ⟨rfl, hM5⟩
  have M5 : Mem _ _ [_, _, _, _] _ := M4.seg 0 1 hM5
  refine wq (aD 8 dV rfl) rfl (wq (aD 1 cO rfl) rfl (dD 1 (.int _ _) aT M5 rfl rfl rfl rfl rfl rfl (fun w6 M6 => (aB (aC (aE (aA (wq (aX 1 bO M6 rfl rfl rfl) rfl (bG 2 _ bO M6 rfl rfl rfl rfl rfl (aR rfl) rfl (fun w7 M7 => ?_))))))))))
  refine aB (aC (aO (eL 2 bO M7 rfl rfl rfl ?_)))
  exact ⟨by unfold oD; rw [if_neg h8]; rfl, by rw [show lR b = decide (iS (b.vy - 1024) 16777216 ≠ b.vy - 1024) by unfold lR; rw [decide_eq_true h8, Bool.true_and]]; exact M7.keep [true, false, false, false]⟩
 ·refine aL (aC (aE (aA (wq (aX 1 bO M3 rfl rfl rfl) rfl (bG 2 _ bO M3 rfl rfl rfl rfl rfl (aR rfl) rfl (fun w8 M8 => (aB (aC (aO (eL 2 bO M8 rfl rfl rfl ?_))))))))))
  exact ⟨by unfold oD; rw [if_pos (Decidable.not_not.1 h8)]; rfl, by rw [show lR b = false by unfold lR; rw [decide_eq_false h8, Bool.false_and], Bool.or_false]; exact M8.keep [true, false, false]⟩
set_option maxHeartbeats 4000000 in
theorem aPb (w : World) (A : Option Addr) (n c : Nat) (xs : List Body) (R : Rd w 10 A n (xs.map aF)) (hb : ∀ b ∈ xs, Okb b) (hn : n ≤ 1048576) (bf : Nat) (hO : Own [(some bf, bc [.bool false] 4)] w) (hdA : 0 < n → ∀ q off, A = some ⟨q, off, none⟩ → q ∉ cE [(some bf, bc [.bool false] 4)]) :
  Calls Tryz.prog 109 #[.slice A n c, .func (.func 110) #[] #[.pointer (some ⟨bf, 0, none⟩)]] w (fun ex w' => ∃ v, ex = .returned v ∧ (fun v w' => ∃ r : Row, v = .slice r.A r.n r.c ∧ bC 39 10 r.A r.n r.c ((pJ xs).map aF) r.e ∧ Mem w (cE [(some bf, bc [.bool false] 4)]) [(some bf, bc [.bool (xs.any lR)] 4), r.e] w') v w') := by
 have hlen : xs.length = n := by simpa using R.len
 have hbd := R.bound
 refine aI #[.tmp 4] 24 Tryz.func109 rfl Tryz.results109 Tryz.ntmps109 rfl ?_
 have M0 := hO.mem
 refine aE (aA (eM rfl rfl (aB (aC (aE (aA (eM rfl rfl ?_)))))))
 have M1 := M0.dummy default
 refine aB (aC (aE (aE (aA (dO rfl rfl (wq (dC Tryz.underlying29 rfl) rfl (aP rfl rfl (aB (aC (aQ (dS (σ := Nat × Row) [1, 4, 8, 9] (fun (k, q) => [(5, .slice q.A q.n q.c), (10, .int .i64 (k : Int))]) (fun (k, q) w' => (k ≤ n ∧ bC 39 10 q.A q.n q.c (((xs.take k).map oD).map aF) q.e) ∧ Mem w (cE [(some bf, bc [.bool false] 4)]) [(some bf, bc [.bool ((xs.take k).any lR)] 4), q.e] w') (fun (k, q) => n - k) (0, gT) (bA rfl (bA rfl eB)) (⟨⟨by omega, bC.nil _ _ _⟩, M1⟩) ?_)))))))))))
 rintro ⟨k, q⟩ ρ2 w2 ⟨⟨hk, hq⟩, hM2⟩
 have htl := List.length_take_le k xs
 have hqn : (xs.take k).length = q.n := by simpa using hq.1
 refine aE (aA (cZ rfl rfl rfl rfl (aB (aC (aE ?_)))))
 refine aW rfl (fun h11 => ?_) (fun h11 => ?_)
 ·obtain ⟨xb, hxb⟩ := cS (xs := xs) (k := k) hlen (by omega)
  refine aL (aC (aE (aQ (aE (aA (aP rfl rfl (wq (bP (k) dH rfl rfl rfl ((R.memY hM2 hdA).below_len (aG aF hxb)) ((R.memY hM2 hdA).someK (aG aF hxb))) rfl (wq (dN _ bO (R.memY hM2 hdA) (aG aF hxb) rfl) rfl (aS fN hM2 rfl rfl (fun b3 w3 M3 => ?_))))))))))
  refine bI rfl rfl (bG 2 _ bO M3 rfl rfl rfl rfl rfl (aR rfl) rfl (fun w4 M4 => (aB (aC (aA (dO rfl rfl (wq (aH (.func _ _ _) rfl) rfl (aP rfl rfl ?_))))))))
  refine wq (aX 2 bO M4 rfl rfl rfl) rfl (bY bMl rfl rfl (aVz _ _ xb (hb xb (List.mem_of_getElem? hxb)) bf _ (M4.ownSeg 0 1)) ?_)
  rintro v5 w5 ⟨rfl, hM5⟩
  have M5 : Mem _ _ [_, _, _] _ := M4.seg 0 1 hM5
  refine cT [.agg (List.toArray _)] [aF (oD xb)] rfl dH M5 rfl rfl rfl rfl (dG rfl) (by decide) (fun b6 w6 M6 => (dJ 1 [aF (oD xb)] dH M6 rfl rfl rfl rfl rfl hq rfl (by simp [aF, Go.Bil.one]) (dW.ofMem 3 M6 rfl) (by omega) (fun A7 c7 e7 w7 M7 hR7 => (eM rfl rfl ?_))))
  refine aB (cV (aC (aA (wq (aY rfl rfl (by omega) (by omega)) rfl (aP rfl rfl (aB ?_))))))
  refine cG (k + 1, ⟨A7, q.n + 1, c7, e7⟩) (bA rfl (bA rfl eB)) (cN rfl (cN rfl (cN rfl (cN rfl gV)))) ?_ ?_
  ·exact ⟨⟨by omega, by rw [cP hxb, List.map_append, List.map_append]; exact hR7⟩, by rw [cP hxb, List.any_append, List.any_cons, List.any_nil, Bool.or_false]; exact M7.keep [true, true, false, false]⟩
  ·(show n - (k + 1) < n - k; omega)
 ·have hkn : k = n := by omega
  rw [List.take_of_length_le (by omega)] at hq
  rw [List.take_of_length_le (by omega)] at hM2
  refine cX (dF (dK (eS (aC (aE (aA (dO rfl rfl ?_)))))))
  refine eM rfl rfl (aB (aC (aO (cD (.slice _ _ _) rfl ?_))))
  exact ⟨q, rfl, hq, hM2⟩
set_option maxHeartbeats 4000000 in
theorem aNy (w : World) (A : Option Addr) (n c : Nat) (xs : List Body) (R : Rd w 10 A n (xs.map aF)) (hb : ∀ b ∈ xs, Okb b) (hn : n ≤ 1048576) :
  Calls Tryz.prog 66 #[.slice A n c] w (fun ex w' => ∃ v, ex = .returned v ∧ (fun v w' => ∃ r : Row, v = .tuple #[.slice r.A r.n r.c, .bool (xs.any lR)] ∧ bC 39 10 r.A r.n r.c ((pJ xs).map aF) r.e ∧ Mem w [] [r.e] w') v w') := by
 refine aI #[.tmp 2, .tmp 3] 11 Tryz.func66 rfl Tryz.results66 Tryz.ntmps66 rfl ?_
 have M0 := Mem.refl w
 refine aE (aA (eM rfl rfl (wq (aJ (.bool false) rfl) rfl (aB (aC (aE (aA (aS aUj M0 rfl rfl (fun b1 w1 M1 => (dD 0 (.bool false) pC M1 rfl rfl rfl rfl rfl rfl (fun w2 M2 => ?_)))))))))))
 refine aB (aC (aE (aA (dO rfl rfl (wq (dR [] [.pointer _] rfl rfl) rfl (bY bBd rfl rfl (aPb _ A n c xs (R.mem M2) hb hn b1 (M2.ownSeg 0 1) (M2.away 0 1 R (by simp))) ?_))))))
 rintro v3 w3 ⟨r, rfl, hr, hM3⟩
 have M3 : Mem _ _ [_, _] _ := M2.seg 0 1 hM3
 refine eM rfl rfl (aB (aC (aE (bQ [(0, 0), (1, 1), (2, 0), (3, 0)] mixed rfl (by kernel_rfl) (fun w4 hb4 hh4 => ?_)))))
 have M4 := M3.drew hb4 hh4
 refine jP rfl rfl rfl (bS rfl rfl rfl (aM 0 (.bool _) pC M4 rfl rfl rfl) (aV rfl rfl rfl (fun _ => aJ (.slice _ _ _) rfl) (aV rfl rfl rfl (fun _ => aJ (.bool _) rfl) (bX (aC (aO ?_))))))
 refine gA (.slice _ _ _) (.bool _) rfl rfl ?_
 exact ⟨r, rfl, hr, M4.keep [false, true]⟩
set_option maxHeartbeats 4000000 in
theorem aXp (w : World) (i : Nat) (b : Body) (hb : Okb b) (bf bl : Nat) (fl : Bool) (C : Option Addr) (m cm : Nat) (l : List (Int × Int)) (RS : Rd w 2 C m (l.map cK)) (s : Int × Int) (hs : l[i]? = some s) (hsb : (-1152921504606846976 ≤ s.1 ∧ s.1 ≤ 1152921504606846976) ∧ -1152921504606846976 ≤ s.2 ∧ s.2 ≤ 1152921504606846976) (hO : Own [(some bf, bc [.bool fl] 4), (some bl, bc [.slice C m cm] 127)] w) (hdS : 0 < m → ∀ q off, C = some ⟨q, off, none⟩ → q ∉ cE [(some bf, bc [.bool fl] 4), (some bl, bc [.slice C m cm] 127)]) :
  Calls Tryz.prog 113 #[.int .i64 (i : Int), (.agg (aF b).toArray), .pointer (some ⟨bl, 0, none⟩), .pointer (some ⟨bf, 0, none⟩)] w (fun ex w' => ∃ v, ex = .returned v ∧ (fun v w' => v = (.agg (aF (tB b s.1 s.2)).toArray) ∧ Mem w (cE [(some bf, bc [.bool fl] 4), (some bl, bc [.slice C m cm] 127)]) [(some bf, bc [.bool (fl || aFy b s.1 s.2)] 4), (some bl, bc [.slice C m cm] 127)] w') v w') := by
 have hv := hb.v
 have hpp := hb.p
 have hlm : l.length = m := by simpa using RS.len
 have hil := (List.getElem?_eq_some_iff.1 hs).1
 refine aI #[.cell 6 39] 50 Tryz.func113 rfl Tryz.results113 Tryz.ntmps113 rfl ?_
 have M0 := hO.mem
 refine aE (aA (bK (.agg (List.toArray _)) M0 rfl rfl rfl (fun b1 w1 M1 => (aS fN M1 rfl rfl (fun b2 w2 M2 => (aB (aC (aE (bQ [(0, 0), (1, 0), (2, 1), (3, 0), (4, 1), (5, 0), (6, 1), (7, 1), (8, 1), (9, 0), (10, 0), (11, 0), (12, 1), (13, 0), (14, 0), (15, 0), (16, 0)] mixed rfl (by kernel_rfl) (fun w3 hb3 hh3 => ?_))))))))))
 have M3 := M2.drew hb3 hh3
 refine aV rfl rfl rfl (fun _ => aD 6 fI rfl) (aV rfl rfl rfl (fun _ => aD 0 cR rfl) (bS rfl rfl rfl (aM 2 (.int _ _) aT M3 rfl rfl rfl) (aV rfl rfl rfl (fun _ => aZ dQ Tryz.underlying2 rfl (fH _ (by omega) (by omega))) (bS rfl rfl rfl (aM 1 (.slice _ _ _) yN M3 rfl rfl rfl) ?_))))
 refine eF rfl rfl rfl (bS rfl rfl rfl (bP (i) aCm rfl rfl rfl ((RS.memY M3 hdS).below_len (aG cK hs)) ((RS.memY M3 hdS).someK (aG cK hs))) (bS rfl rfl rfl (bB 0 aEm (RS.memY M3 hdS) (Nat.lt_of_le_of_lt (Nat.zero_le _) ((RS.memY M3 hdS).below_len (aG cK hs))) rfl) ?_))
 refine bS rfl rfl rfl (dY (o := 0) (.int _ _) iX (RS.memY M3 hdS) (aG cK hs) rfl rfl) (aV rfl rfl rfl (fun _ => aY rfl rfl (by omega) (by omega)) (aV rfl rfl rfl (fun _ => aD 8 dV rfl) (aV rfl rfl rfl (fun _ => aD 0 cR rfl) (bS rfl rfl rfl (aM 2 (.int _ _) aT M3 rfl rfl rfl) ?_))))
 refine aV rfl rfl rfl (fun _ => jQ rfl rfl (by decide)) (dX 22 (.int .i32 (b.vx / 64)) (iE (aOg _)) (aV rfl rfl rfl (fun _ => aZ dQ Tryz.underlying2 rfl (fH _ (by omega) (by omega))) (aV rfl rfl rfl (fun _ => aY rfl rfl (by omega) (by omega)) (dX 24 (.int .i64 (aFr b s.1)) rfl (mA rfl rfl rfl ?_)))))
 refine bX (aC (aE (bQ [(0, 0), (1, 0), (2, 1), (3, 0), (4, 1), (5, 0), (6, 1), (7, 1), (8, 1), (9, 0), (10, 0), (11, 0), (12, 1), (13, 0), (14, 0), (15, 0), (16, 0)] mixed rfl (by kernel_rfl) (fun w4 hb4 hh4 => ?_))))
 have M4 := M3.drew hb4 hh4
 refine aV rfl rfl rfl (fun _ => aD 6 fI rfl) (aV rfl rfl rfl (fun _ => aD 1 cO rfl) (bS rfl rfl rfl (aM 2 (.int _ _) aT M4 rfl rfl rfl) (aV rfl rfl rfl (fun _ => aZ dQ Tryz.underlying2 rfl (fH _ (by omega) (by omega))) (bS rfl rfl rfl (aM 1 (.slice _ _ _) yN M4 rfl rfl rfl) ?_))))
 refine eF rfl rfl rfl (bS rfl rfl rfl (bP (i) aCm rfl rfl rfl ((RS.memY M4 hdS).below_len (aG cK hs)) ((RS.memY M4 hdS).someK (aG cK hs))) (bS rfl rfl rfl (bB 1 aCs (RS.memY M4 hdS) (Nat.lt_of_le_of_lt (Nat.zero_le _) ((RS.memY M4 hdS).below_len (aG cK hs))) rfl) ?_))
 refine bS rfl rfl rfl (dY (o := 1) (.int _ _) iX (RS.memY M4 hdS) (aG cK hs) rfl rfl) (aV rfl rfl rfl (fun _ => aY rfl rfl (by omega) (by omega)) (aV rfl rfl rfl (fun _ => aD 8 dV rfl) (aV rfl rfl rfl (fun _ => aD 1 cO rfl) (bS rfl rfl rfl (aM 2 (.int _ _) aT M4 rfl rfl rfl) ?_))))
 refine aV rfl rfl rfl (fun _ => jQ rfl rfl (by decide)) (dX 38 (.int .i32 (b.vy / 64)) (iE (aOg _)) (aV rfl rfl rfl (fun _ => aZ dQ Tryz.underlying2 rfl (fH _ (by omega) (by omega))) (aV rfl rfl rfl (fun _ => aY rfl rfl (by omega) (by omega)) (dX 40 (.int .i64 (aGp b s.2)) rfl (mA rfl rfl rfl ?_)))))
 refine bX (aC (aE (aA (aP rfl rfl (cT [.pointer _] [[.pointer (some ⟨bf, 0, none⟩)]] rfl aHb M4 rfl rfl rfl rfl (dG rfl) (by decide) (fun b5 w5 M5 => ?_))))))
 have hlit42 := kH (T := 174) (sz := 1) (b := b5) (nn := 1) [[.pointer (some ⟨bf, 0, none⟩)]] (by simp) rfl (by decide)
 refine bY aFc rfl rfl (nP _ (aFr b s.1) 1073741824 ⟨by decide, by decide⟩ bf _ _ 1 (hlit42.rd M5 (bH (i := 4) rfl)) (hlit42.awayB M5 4 0 rfl rfl rfl) (M5.ownSeg 0 1)) ?_
 rintro v6 w6 ⟨rfl, hM6⟩
 have M6 : Mem _ _ [_, _, _, _, _] _ := M5.seg 0 1 hM6
 refine aP rfl rfl (cT [.pointer _] [[.pointer (some ⟨bf, 0, none⟩)]] rfl aHb M6 rfl rfl rfl rfl (dG rfl) (by decide) (fun b7 w7 M7 => ?_))
 have hlit45 := kH (T := 174) (sz := 1) (b := b7) (nn := 1) [[.pointer (some ⟨bf, 0, none⟩)]] (by simp) rfl (by decide)
 refine bY aFc rfl rfl (nP _ (aGp b s.2) 1073741824 ⟨by decide, by decide⟩ bf _ _ 1 (hlit45.rd M7 (bH (i := 5) rfl)) (hlit45.awayB M7 5 0 rfl rfl rfl) (M7.ownSeg 0 1)) ?_
 rintro v8 w8 ⟨rfl, hM8⟩
 have M8 : Mem _ _ [_, _, _, _, _, _] _ := M7.seg 0 1 hM8
 refine wq (cC [(0, .int _ _), (1, .int _ _)] _ eK rfl rfl) rfl (wq (aD 6 fI rfl) rfl (sO 2 _ bL M8 rfl rfl rfl rfl rfl (aR rfl) (Nat.le_of_ble_eq_true rfl) (fun w9 M9 => (aB (aC (aE (aA (wq (aX 2 bO M9 rfl rfl rfl) rfl (bG 3 _ bO M9 rfl rfl rfl rfl rfl (aR rfl) rfl (fun w10 M10 => ?_))))))))))
 refine aB (aC (aO (eL 3 bO M10 rfl rfl rfl ?_)))
 exact ⟨rfl, by rw [show (fl || aFy b s.1 s.2) = ((fl || decide (iS (aFr b s.1) 1073741824 ≠ aFr b s.1)) || decide (iS (aGp b s.2) 1073741824 ≠ aGp b s.2)) from (Bool.or_assoc _ _ _).symm]; exact M10.keep [true, true, false, false, false, false]⟩
set_option maxHeartbeats 4000000 in
theorem aSa (w : World) (A : Option Addr) (n c : Nat) (xs : List Body) (R : Rd w 10 A n (xs.map aF)) (hb : ∀ b ∈ xs, Okb b) (hn : n ≤ 1048576) (bf bl : Nat) (G : Body → Int × Int) (hG : ∀ b ∈ xs, (-1152921504606846976 ≤ (G b).1 ∧ (G b).1 ≤ 1152921504606846976) ∧ -1152921504606846976 ≤ (G b).2 ∧ (G b).2 ≤ 1152921504606846976) (C : Option Addr) (cm : Nat) (RS : Rd w 2 C n ((xs.map G).map cK)) (hO : Own [(some bf, bc [.bool false] 4), (some bl, bc [.slice C n cm] 127)] w) (hdA : 0 < n → ∀ q off, A = some ⟨q, off, none⟩ → q ∉ cE [(some bf, bc [.bool false] 4), (some bl, bc [.slice C n cm] 127)]) (hdS : 0 < n → ∀ q off, C = some ⟨q, off, none⟩ → q ∉ cE [(some bf, bc [.bool false] 4), (some bl, bc [.slice C n cm] 127)]) :
  Calls Tryz.prog 109 #[.slice A n c, .func (.func 113) #[] #[.pointer (some ⟨bl, 0, none⟩), .pointer (some ⟨bf, 0, none⟩)]] w (fun ex w' => ∃ v, ex = .returned v ∧ (fun v w' => ∃ r : Row, v = .slice r.A r.n r.c ∧ bC 39 10 r.A r.n r.c ((xs.map (fun b => tB b (G b).1 (G b).2)).map aF) r.e ∧ Mem w (cE [(some bf, bc [.bool false] 4), (some bl, bc [.slice C n cm] 127)]) [(some bf, bc [.bool (xs.any (fun b => aFy b (G b).1 (G b).2))] 4), (some bl, bc [.slice C n cm] 127), r.e] w') v w') := by
 have hlen : xs.length = n := by simpa using R.len
 have hbd := R.bound
 refine aI #[.tmp 4] 24 Tryz.func109 rfl Tryz.results109 Tryz.ntmps109 rfl ?_
 have M0 := hO.mem
 refine aE (aA (eM rfl rfl (aB (aC (aE (aA (eM rfl rfl ?_)))))))
 have M1 := M0.dummy default
 refine aB (aC (aE (aE (aA (dO rfl rfl (wq (dC Tryz.underlying29 rfl) rfl (aP rfl rfl (aB (aC (aQ (dS (σ := Nat × Row) [1, 4, 8, 9] (fun (k, q) => [(5, .slice q.A q.n q.c), (10, .int .i64 (k : Int))]) (fun (k, q) w' => (k ≤ n ∧ bC 39 10 q.A q.n q.c (((xs.take k).map (fun b => tB b (G b).1 (G b).2)).map aF) q.e) ∧ Mem w (cE [(some bf, bc [.bool false] 4), (some bl, bc [.slice C n cm] 127)]) [(some bf, bc [.bool ((xs.take k).any (fun b => aFy b (G b).1 (G b).2))] 4), (some bl, bc [.slice C n cm] 127), q.e] w') (fun (k, q) => n - k) (0, gT) (bA rfl (bA rfl eB)) (⟨⟨by omega, bC.nil _ _ _⟩, M1⟩) ?_)))))))))))
 rintro ⟨k, q⟩ ρ2 w2 ⟨⟨hk, hq⟩, hM2⟩
 have htl := List.length_take_le k xs
 have hqn : (xs.take k).length = q.n := by simpa using hq.1
 refine aE (aA (cZ rfl rfl rfl rfl (aB (aC (aE ?_)))))
 refine aW rfl (fun h11 => ?_) (fun h11 => ?_)
 ·obtain ⟨xb, hxb⟩ := cS (xs := xs) (k := k) hlen (by omega)
  refine aL (aC (aE (aQ (aE (aA (aP rfl rfl (wq (bP (k) dH rfl rfl rfl ((R.memY hM2 hdA).below_len (aG aF hxb)) ((R.memY hM2 hdA).someK (aG aF hxb))) rfl (wq (dN _ bO (R.memY hM2 hdA) (aG aF hxb) rfl) rfl (aS fN hM2 rfl rfl (fun b3 w3 M3 => ?_))))))))))
  refine bI rfl rfl (bG 3 _ bO M3 rfl rfl rfl rfl rfl (aR rfl) rfl (fun w4 M4 => (aB (aC (aA (dO rfl rfl (wq (aH (.func _ _ _) rfl) rfl (aP rfl rfl ?_))))))))
  refine wq (aX 3 bO M4 rfl rfl rfl) rfl (bY bOy rfl rfl (aXp _ k xb (hb xb (List.mem_of_getElem? hxb)) bf bl _ C n cm (xs.map G) (RS.memY M4 hdS) (G xb) (aG G hxb) (hG xb (List.mem_of_getElem? hxb)) (M4.ownSeg 0 2) (M4.away 0 2 RS hdS)) ?_)
  rintro v5 w5 ⟨rfl, hM5⟩
  have M5 : Mem _ _ [_, _, _, _] _ := M4.seg 0 2 hM5
  refine cT [.agg (List.toArray _)] [aF (tB xb (G xb).1 (G xb).2)] rfl dH M5 rfl rfl rfl rfl (dG rfl) (by decide) (fun b6 w6 M6 => (dJ 2 [aF (tB xb (G xb).1 (G xb).2)] dH M6 rfl rfl rfl rfl rfl hq rfl (by simp [aF, Go.Bil.one]) (dW.ofMem 4 M6 rfl) (by omega) (fun A7 c7 e7 w7 M7 hR7 => ?_)))
  refine eM rfl rfl (aB (cV (aC (aA (wq (aY rfl rfl (by omega) (by omega)) rfl (aP rfl rfl ?_))))))
  refine aB ?_
  refine cG (k + 1, ⟨A7, q.n + 1, c7, e7⟩) (bA rfl (bA rfl eB)) (cN rfl (cN rfl (cN rfl (cN rfl gV)))) ?_ ?_
  ·exact ⟨⟨by omega, by rw [cP hxb, List.map_append, List.map_append]; exact hR7⟩, by rw [cP hxb, List.any_append, List.any_cons, List.any_nil, Bool.or_false]; exact M7.keep [true, true, true, false, false]⟩
  ·(show n - (k + 1) < n - k; omega)
 ·have hkn : k = n := by omega
  rw [List.take_of_length_le (by omega)] at hq
  rw [List.take_of_length_le (by omega)] at hM2
  refine cX (dF (dK (eS (aC (aE (aA (dO rfl rfl ?_)))))))
  refine eM rfl rfl (aB (aC (aO (cD (.slice _ _ _) rfl ?_))))
  exact ⟨q, rfl, hq, hM2⟩
set_option maxHeartbeats 4000000 in
theorem bDf (w : World) (A : Option Addr) (n c : Nat) (xs : List Body) (R : Rd w 10 A n (xs.map aF)) (hb : ∀ b ∈ xs, Okb b) (hn : n ≤ 1048576) (G : Body → Int × Int) (hG : ∀ b ∈ xs, (-1152921504606846976 ≤ (G b).1 ∧ (G b).1 ≤ 1152921504606846976) ∧ -1152921504606846976 ≤ (G b).2 ∧ (G b).2 ≤ 1152921504606846976) (C : Option Addr) (cm : Nat) (RS : Rd w 2 C n ((xs.map G).map cK)) :
  Calls Tryz.prog 67 #[.slice A n c, .slice C n cm] w (fun ex w' => ∃ v, ex = .returned v ∧ (fun v w' => ∃ r : Row, v = .tuple #[.slice r.A r.n r.c, .bool (xs.any (fun b => aFy b (G b).1 (G b).2))] ∧ bC 39 10 r.A r.n r.c ((xs.map (fun b => tB b (G b).1 (G b).2)).map aF) r.e ∧ Mem w [] [r.e] w') v w') := by
 refine aI #[.tmp 4, .tmp 5] 13 Tryz.func67 rfl Tryz.results67 Tryz.ntmps67 rfl ?_
 have M0 := Mem.refl w
 refine aE (aA (bK (.slice _ _ _) M0 rfl rfl rfl (fun b1 w1 M1 => (eM rfl rfl (wq (aJ (.bool false) rfl) rfl (aB (aC (aE (aA (aS aUj M1 rfl rfl (fun b2 w2 M2 => ?_)))))))))))
 refine dD 1 (.bool false) pC M2 rfl rfl rfl rfl rfl rfl (fun w3 M3 => (aB (aC (aE (aA ?_)))))
 have M4 : Mem _ _ [_, _] _ := Mem.swap2 M3
 refine dO rfl rfl (wq (dR [] [.pointer _, .pointer _] rfl rfl) rfl (bY bBd rfl rfl (aSa _ A n c xs (R.mem M4) hb hn b2 b1 G hG C cm (RS.mem M4) (M4.ownSeg 0 2) (M4.away 0 2 R (by simp)) (M4.away 0 2 RS (by simp))) ?_))
 rintro v5 w5 ⟨r, rfl, hr, hM5⟩
 have M5 : Mem _ _ [_, _, _] _ := M4.seg 0 2 hM5
 refine eM rfl rfl (aB (aC (aE (bQ [(0, 0), (1, 1), (2, 0), (3, 0)] mixed rfl (by kernel_rfl) (fun w6 hb6 hh6 => ?_)))))
 have M6 := M5.drew hb6 hh6
 refine jP rfl rfl rfl (bS rfl rfl rfl (aM 0 (.bool _) pC M6 rfl rfl rfl) (aV rfl rfl rfl (fun _ => aJ (.slice _ _ _) rfl) (aV rfl rfl rfl (fun _ => aJ (.bool _) rfl) (bX (aC (aO ?_))))))
 refine gA (.slice _ _ _) (.bool _) rfl rfl ?_
 exact ⟨r, rfl, hr, M6.keep [false, false, true]⟩
set_option maxHeartbeats 4000000 in
theorem aRv (w : World) (bs : Nat) (vr lr : Row) (tt mm : Int) (cl : Bool) (A : Option Addr) (n c : Nat) (q : Row) (c2 : Bool) (hO : Own [(some bs, bc [.slice A n c, .slice vr.A vr.n vr.c, .slice lr.A lr.n lr.c, .int .i64 tt, .int .i64 mm, .bool cl] 168)] w) :
  Calls Tryz.prog 145 #[.pointer (some ⟨bs, 0, none⟩), .slice q.A q.n q.c, .bool c2] w (fun ex w' => ∃ v, ex = .returned v ∧ (fun v w' => v = .tuple #[] ∧ Mem w (cE [(some bs, bc [.slice A n c, .slice vr.A vr.n vr.c, .slice lr.A lr.n lr.c, .int .i64 tt, .int .i64 mm, .bool cl] 168)]) [(some bs, bc [.slice A n c, .slice q.A q.n q.c, .slice lr.A lr.n lr.c, .int .i64 tt, .int .i64 mm, .bool (cl || c2)] 168)] w') v w') := by
 refine aI #[] 22 Tryz.func145 rfl Tryz.results145 Tryz.ntmps145 rfl ?_
 have M0 := hO.mem
 refine aE (aA (wq (aH (.pointer _) rfl) rfl (dO rfl rfl (wq (bE rfl) rfl (wq (aD 1 xS rfl) rfl (dD 0 (.slice _ _ _) fX M0 rfl rfl rfl rfl rfl rfl (fun w1 M1 => ?_)))))))
 refine aB (aC (aA (wq (aH (.pointer _) rfl) rfl (wq (aH (.pointer _) rfl) rfl (wq (bE rfl) rfl (wq (aD 3 qT rfl) rfl (wq (aD 2 wW rfl) rfl ?_)))))))
 refine wq (aM 0 (.bool _) pC M1 rfl rfl rfl) rfl (wq (aH (.bool _) rfl) rfl ?_)
 refine jR 16 _ rfl (fun g16 => ?_) (fun g16 => ?_)
 ·refine aN rfl rfl (wq (bR true (.bool true) rfl rfl) rfl (wq (bE rfl) rfl (wq (aD 3 qT rfl) rfl (wq (aD 2 wW rfl) rfl (dD 0 (.bool true) pC M1 rfl rfl rfl rfl rfl rfl (fun w2 M2 => ?_))))))
  refine aB (lD ?_)
  first | exact ⟨rfl, by rw [(by simp only [g16, Bool.true_or] : (cl || c2) = true)]; exact M2⟩ | exact ⟨rfl, by rw [(by simp only [g16, Bool.false_or] : (cl || c2) = c2)]; exact M2⟩
 ·refine wq (aH (.bool _) rfl) rfl (wq (bR false (.bool _) rfl rfl) rfl (wq (bE rfl) rfl (wq (aD 3 qT rfl) rfl (wq (aD 2 wW rfl) rfl (dD 0 (.bool _) pC M1 rfl rfl rfl rfl rfl rfl (fun w3 M3 => ?_))))))
  refine aB (lD ?_)
  first | exact ⟨rfl, by rw [(by simp only [g16, Bool.true_or] : (cl || c2) = true)]; exact M3⟩ | exact ⟨rfl, by rw [(by simp only [g16, Bool.false_or] : (cl || c2) = c2)]; exact M3⟩
set_option maxHeartbeats 4000000 in
theorem bFq (w : World) (F : Rd w 2 (some ⟨0, 0, none⟩) 1 [[.int .u32 73856093, .int .u32 19349663]]) (N : Rd w 4 (some ⟨3, 0, none⟩) 1 [eI jO]) (bs : Nat) (vr lr : Row) (tt mm : Int) (cl : Bool) (A : Option Addr) (n c : Nat) (xs : List Body) (R : Rd w 10 A n (xs.map aF)) (hb : ∀ b ∈ xs, Okb b) (hs : cW xs) (hn : n ≤ 4096) (hO : Own [(some bs, bc [.slice A n c, .slice vr.A vr.n vr.c, .slice lr.A lr.n lr.c, .int .i64 tt, .int .i64 mm, .bool cl] 168)] w) (hdA : 0 < n → ∀ q off, A = some ⟨q, off, none⟩ → q ∉ cE [(some bs, bc [.slice A n c, .slice vr.A vr.n vr.c, .slice lr.A lr.n lr.c, .int .i64 tt, .int .i64 mm, .bool cl] 168)]) (hdF : 0 < 1 → ∀ q off, (some ⟨0, 0, none⟩ : Option Addr) = some ⟨q, off, none⟩ → q ∉ cE [(some bs, bc [.slice A n c, .slice vr.A vr.n vr.c, .slice lr.A lr.n lr.c, .int .i64 tt, .int .i64 mm, .bool cl] 168)]) (hdN : 0 < 1 → ∀ q off, (some ⟨3, 0, none⟩ : Option Addr) = some ⟨q, off, none⟩ → q ∉ cE [(some bs, bc [.slice A n c, .slice vr.A vr.n vr.c, .slice lr.A lr.n lr.c, .int .i64 tt, .int .i64 mm, .bool cl] 168)]) :
  Calls Tryz.prog 105 #[.pointer (some ⟨bs, 0, none⟩)] w (fun ex w' => ∃ v, ex = .returned v ∧ (fun v w' => v = .tuple #[] ∧ ∃ (r : Row) (m : Nat), (nH xs).length ≤ m ∧ 2 * m ≤ xs.length * (xs.length - 1) ∧ bC 211 5 r.A r.n r.c ((kL xs).map cH) r.e ∧ Mem w (cE [(some bs, bc [.slice A n c, .slice vr.A vr.n vr.c, .slice lr.A lr.n lr.c, .int .i64 tt, .int .i64 mm, .bool cl] 168)]) [(some bs, bc [.slice A n c, .slice vr.A vr.n vr.c, .slice r.A r.n r.c, .int .i64 (m : Int), .int .i64 (r.n : Int), .bool cl] 168), r.e] w') v w') := by
 refine aI #[] 26 Tryz.func105 rfl Tryz.results105 Tryz.ntmps105 rfl ?_
 have M0 := hO.mem
 refine aE (aA (wq (aH (.pointer _) rfl) rfl (wq (aH (.pointer _) rfl) rfl (wq (aH (.pointer _) rfl) rfl (wq (bE rfl) rfl (wq (aD 0 aCk rfl) rfl ?_))))))
 refine wq (aM 0 (.slice _ _ _) fX M0 rfl rfl rfl) rfl (bY bOk rfl rfl (aKe _ (F.memY M0 hdF) (N.memY M0 hdN) A n c xs (R.memY M0 hdA) hb hs hn) ?_)
 rintro v1 w1 ⟨r, m, rfl, hm1, hm2, hr, hM1⟩
 have M1 : Mem _ _ [_, _] _ := M0.call0 hM1
 refine wq (aH (.tuple (List.toArray _)) rfl) rfl (wq (bN (.slice _ _ _) rfl rfl) rfl (wq (bN (.int _ _) rfl rfl) rfl (wq (bE rfl) rfl (wq (aD 2 wZ rfl) rfl (dD 0 (.slice _ _ _) oQ M1 rfl rfl rfl rfl rfl rfl (fun w2 M2 => ?_))))))
 refine wq (bE rfl) rfl (wq (aD 3 qT rfl) rfl (wq (aD 0 aUn rfl) rfl (dD 0 (.int _ _) iJ M2 rfl rfl rfl rfl rfl rfl (fun w3 M3 => (aB (aC (aA (wq (aH (.pointer _) rfl) rfl ?_))))))))
 refine wq (aH (.pointer _) rfl) rfl (wq (bE rfl) rfl (wq (aD 2 wZ rfl) rfl (wq (aM 0 (.slice _ _ _) oQ M3 rfl rfl rfl) rfl (wq (dC Tryz.underlying166 rfl) rfl (wq (bE rfl) rfl ?_)))))
 refine wq (aD 3 qT rfl) rfl (wq (aD 1 aKl rfl) rfl (dD 0 (.int _ _) iJ M3 rfl rfl rfl rfl rfl rfl (fun w4 M4 => (aB (lD ?_)))))
 exact ⟨rfl, r, m, hm1, hm2, hr, M4⟩
set_option maxHeartbeats 4000000 in
theorem bGe (w : World) (bs : Nat) (vr lr : Row) (tt mm : Int) (cl : Bool) (A : Option Addr) (n c : Nat) (xs : List Body) (R : Rd w 10 A n (xs.map aF)) (hb : ∀ b ∈ xs, Okb b) (hn : n ≤ 1048576) (hO : Own [(some bs, bc [.slice A n c, .slice vr.A vr.n vr.c, .slice lr.A lr.n lr.c, .int .i64 tt, .int .i64 mm, .bool cl] 168)] w) (hdA : 0 < n → ∀ q off, A = some ⟨q, off, none⟩ → q ∉ cE [(some bs, bc [.slice A n c, .slice vr.A vr.n vr.c, .slice lr.A lr.n lr.c, .int .i64 tt, .int .i64 mm, .bool cl] 168)]) :
  Calls Tryz.prog 106 #[.pointer (some ⟨bs, 0, none⟩)] w (fun ex w' => ∃ v, ex = .returned v ∧ (fun v w' => v = .tuple #[] ∧ ∃ r : Row, bC 39 10 r.A r.n r.c ((pJ xs).map aF) r.e ∧ Mem w (cE [(some bs, bc [.slice A n c, .slice vr.A vr.n vr.c, .slice lr.A lr.n lr.c, .int .i64 tt, .int .i64 mm, .bool cl] 168)]) [(some bs, bc [.slice A n c, .slice r.A r.n r.c, .slice lr.A lr.n lr.c, .int .i64 tt, .int .i64 mm, .bool (cl || xs.any lR)] 168), r.e] w') v w') := by
 refine aI #[] 11 Tryz.func106 rfl Tryz.results106 Tryz.ntmps106 rfl ?_
 have M0 := hO.mem
 refine aA (wq (aH (.pointer _) rfl) rfl (wq (aH (.pointer _) rfl) rfl (wq (bE rfl) rfl (wq (aD 0 aCk rfl) rfl (wq (aM 0 (.slice _ _ _) fX M0 rfl rfl rfl) rfl ?_)))))
 refine bY bQj rfl rfl (aNy _ A n c xs (R.memY M0 hdA) hb hn) ?_
 rintro v1 w1 ⟨r, rfl, hr, hM1⟩
 have M1 : Mem _ _ [_, _] _ := M0.call0 hM1
 refine wq (bN (.slice _ _ _) rfl rfl) rfl (wq (bN (.bool _) rfl rfl) rfl (bY aPk rfl rfl (aRv _ bs vr lr tt mm cl A n c r _ (M1.ownSeg 0 1)) ?_))
 rintro v2 w2 ⟨rfl, hM2⟩
 have M2 : Mem _ _ [_, _] _ := M1.seg 0 1 hM2
 refine aB (lD ?_)
 exact ⟨rfl, r, hr, M2⟩
set_option maxHeartbeats 4000000 in
theorem bBf (w : World) (bs : Nat) (vr lr : Row) (tt mm : Int) (cl : Bool) (A : Option Addr) (n c : Nat) (ys : List Body) (cs : List Con) (RV : Rd w 10 vr.A vr.n (ys.map aF)) (RL : Rd w 5 lr.A lr.n (cs.map cH)) (hs : cW ys) (hb : ∀ b ∈ ys, Okb b) (hn : vr.n ≤ 1048576) (hcs : ∀ c ∈ cs, OkC ys c) (hmc : lr.n ≤ 8589934592) (hO : Own [(some bs, bc [.slice A n c, .slice vr.A vr.n vr.c, .slice lr.A lr.n lr.c, .int .i64 tt, .int .i64 mm, .bool cl] 168)] w) (hdV : 0 < vr.n → ∀ q off, vr.A = some ⟨q, off, none⟩ → q ∉ cE [(some bs, bc [.slice A n c, .slice vr.A vr.n vr.c, .slice lr.A lr.n lr.c, .int .i64 tt, .int .i64 mm, .bool cl] 168)]) (hdL : 0 < lr.n → ∀ q off, lr.A = some ⟨q, off, none⟩ → q ∉ cE [(some bs, bc [.slice A n c, .slice vr.A vr.n vr.c, .slice lr.A lr.n lr.c, .int .i64 tt, .int .i64 mm, .bool cl] 168)]) :
  Calls Tryz.prog 107 #[.pointer (some ⟨bs, 0, none⟩)] w (fun ex w' => ∃ v, ex = .returned v ∧ (fun v w' => v = .tuple #[] ∧ ∃ r : Row, bC 39 10 r.A r.n r.c (((gR ys cs 4).1).map aF) r.e ∧ Mem w (cE [(some bs, bc [.slice A n c, .slice vr.A vr.n vr.c, .slice lr.A lr.n lr.c, .int .i64 tt, .int .i64 mm, .bool cl] 168)]) [(some bs, bc [.slice A n c, .slice r.A r.n r.c, .slice lr.A lr.n lr.c, .int .i64 tt, .int .i64 mm, .bool (cl || (gR ys cs 4).2)] 168), r.e] w') v w') := by
 refine aI #[] 15 Tryz.func107 rfl Tryz.results107 Tryz.ntmps107 rfl ?_
 have M0 := hO.mem
 refine bQ [(0, 0), (1, 0), (2, 0), (3, 0), (4, 1), (5, 0), (6, 0), (7, 0), (8, 1), (9, 2), (10, 0), (11, 0), (12, 2)] mixed rfl (by kernel_rfl) (fun w1 hb1 hh1 => ?_)
 have M1 := M0.drew hb1 hh1
 refine aV rfl rfl rfl (fun _ => aH (.pointer _) rfl) (aV rfl rfl rfl (fun _ => aH (.pointer _) rfl) (aV rfl rfl rfl (fun _ => bE rfl) (aV rfl rfl rfl (fun _ => aD 1 xS rfl) (bS rfl rfl rfl (aM 0 (.slice _ _ _) fX M1 rfl rfl rfl) (aV rfl rfl rfl (fun _ => aH (.pointer _) rfl) ?_)))))
 refine aV rfl rfl rfl (fun _ => bE rfl) (aV rfl rfl rfl (fun _ => aD 2 wZ rfl) (bS rfl rfl rfl (aM 0 (.slice _ _ _) oQ M1 rfl rfl rfl) (dT [true, true] rfl (by kernel_rfl) (bY bMv rfl rfl (aXx _ vr.A vr.n vr.c ys (RV.memY M1 hdV) hs hb hn lr.A lr.n lr.c cs (RL.memY M1 hdL) hcs hmc) ?_))))
 rintro v2 w2 ⟨r, rfl, hr, hM2⟩
 have M2 : Mem _ _ [_, _] _ := M1.call0 hM2
 refine aB (aC ⟨dU, ?_⟩)
 refine aV rfl rfl rfl (fun _ => bN (.slice _ _ _) rfl rfl) (aV rfl rfl rfl (fun _ => bN (.bool _) rfl rfl) (dT [] rfl (by kernel_rfl) (bY aPk rfl rfl (aRv _ bs vr lr tt mm cl A n c r _ (M2.ownSeg 0 1)) ?_)))
 rintro v3 w3 ⟨rfl, hM3⟩
 have M3 : Mem _ _ [_, _] _ := M2.seg 0 1 hM3
 refine aB (aC ⟨dU, ?_⟩)
 refine bX (lD ?_)
 exact ⟨rfl, r, hr, M3⟩
set_option maxHeartbeats 4000000 in
theorem bFz (w : World) (bs : Nat) (vr lr : Row) (tt mm : Int) (cl : Bool) (A : Option Addr) (n c : Nat) (xs : List Body) (R : Rd w 10 A n (xs.map aF)) (ys : List Body) (cs : List Con) (RV : Rd w 10 vr.A vr.n (ys.map aF)) (RL : Rd w 5 lr.A lr.n (cs.map cH)) (hs : cW xs) (hb : ∀ b ∈ xs, Okb b) (hb2 : ∀ b ∈ ys, Okb b) (hn : n ≤ 1048576) (hvn : vr.n = n) (hcs : ∀ c ∈ cs, OkC xs c) (hmc : lr.n ≤ 1073741824) (hsh : xs.map (jT xs cs) = ys.map (jT xs cs)) (hG : ∀ b ∈ ys, (-1152921504606846976 ≤ (jT xs cs b).1 ∧ (jT xs cs b).1 ≤ 1152921504606846976) ∧ -1152921504606846976 ≤ (jT xs cs b).2 ∧ (jT xs cs b).2 ≤ 1152921504606846976) (hO : Own [(some bs, bc [.slice A n c, .slice vr.A vr.n vr.c, .slice lr.A lr.n lr.c, .int .i64 tt, .int .i64 mm, .bool cl] 168)] w) (hdA : 0 < n → ∀ q off, A = some ⟨q, off, none⟩ → q ∉ cE [(some bs, bc [.slice A n c, .slice vr.A vr.n vr.c, .slice lr.A lr.n lr.c, .int .i64 tt, .int .i64 mm, .bool cl] 168)]) (hdV : 0 < vr.n → ∀ q off, vr.A = some ⟨q, off, none⟩ → q ∉ cE [(some bs, bc [.slice A n c, .slice vr.A vr.n vr.c, .slice lr.A lr.n lr.c, .int .i64 tt, .int .i64 mm, .bool cl] 168)]) (hdL : 0 < lr.n → ∀ q off, lr.A = some ⟨q, off, none⟩ → q ∉ cE [(some bs, bc [.slice A n c, .slice vr.A vr.n vr.c, .slice lr.A lr.n lr.c, .int .i64 tt, .int .i64 mm, .bool cl] 168)]) :
  Calls Tryz.prog 108 #[.pointer (some ⟨bs, 0, none⟩)] w (fun ex w' => ∃ v, ex = .returned v ∧ (fun v w' => v = .tuple #[] ∧ ∃ r : Row, bC 39 10 r.A r.n r.c ((aUu xs cs ys).map aF) r.e ∧ Mem w (cE [(some bs, bc [.slice A n c, .slice vr.A vr.n vr.c, .slice lr.A lr.n lr.c, .int .i64 tt, .int .i64 mm, .bool cl] 168)]) [(some bs, bc [.slice A n c, .slice r.A r.n r.c, .slice lr.A lr.n lr.c, .int .i64 tt, .int .i64 mm, .bool (cl || aTg xs cs ys)] 168), r.e] w') v w') := by
 have hlen : xs.length = n := by simpa using R.len
 refine aI #[] 20 Tryz.func108 rfl Tryz.results108 Tryz.ntmps108 rfl ?_
 have M0 := hO.mem
 refine bQ [(0, 0), (1, 0), (2, 0), (3, 0), (4, 1), (5, 0), (6, 0), (7, 0), (8, 1), (9, 0), (10, 0), (11, 0), (12, 1), (13, 2), (14, 2), (15, 0), (16, 0), (17, 2)] mixed rfl (by kernel_rfl) (fun w1 hb1 hh1 => ?_)
 have M1 := M0.drew hb1 hh1
 refine aV rfl rfl rfl (fun _ => aH (.pointer _) rfl) (aV rfl rfl rfl (fun _ => aH (.pointer _) rfl) (aV rfl rfl rfl (fun _ => bE rfl) (aV rfl rfl rfl (fun _ => aD 1 xS rfl) (bS rfl rfl rfl (aM 0 (.slice _ _ _) fX M1 rfl rfl rfl) (aV rfl rfl rfl (fun _ => aH (.pointer _) rfl) ?_)))))
 refine aV rfl rfl rfl (fun _ => bE rfl) (aV rfl rfl rfl (fun _ => aD 0 aCk rfl) (bS rfl rfl rfl (aM 0 (.slice _ _ _) fX M1 rfl rfl rfl) (aV rfl rfl rfl (fun _ => aH (.pointer _) rfl) (aV rfl rfl rfl (fun _ => bE rfl) (aV rfl rfl rfl (fun _ => aD 2 wZ rfl) ?_)))))
 refine bS rfl rfl rfl (aM 0 (.slice _ _ _) oQ M1 rfl rfl rfl) (dT [true, true, false] rfl (by kernel_rfl) (bY bOx rfl rfl (aQl _ A n c xs (R.memY M1 hdA) hs hb hn lr.A lr.n lr.c cs (RL.memY M1 hdL) hcs hmc) ?_))
 rintro v2 w2 ⟨⟨qA, qn, qc, qe⟩, rfl, hq, hM2⟩
 have hqn : xs.length = qn := by simpa using hq.1
 obtain rfl : qn = vr.n := by omega
 rw [hsh] at hq
 have M2 : Mem _ _ [_, _] _ := M1.call0 hM2
 refine aB (aC ⟨(dZ (bM rfl (aM 0 (.slice _ _ _) fX M2 rfl rfl rfl)) dU), ?_⟩)
 refine dT [true] rfl (by kernel_rfl) (bY bPy rfl rfl (bDf _ vr.A vr.n vr.c ys (RV.memY M2 hdV) hb2 (by omega) (jT xs cs) hG qA qc (hq.rd M2 (bH (i := 1) rfl))) ?_)
 rintro v3 w3 ⟨r, rfl, hr, hM3⟩
 have M3 : Mem _ _ [_, _, _] _ := M2.call0 hM3
 refine aB (aC ⟨dU, ?_⟩)
 refine aV rfl rfl rfl (fun _ => bN (.slice _ _ _) rfl rfl) (aV rfl rfl rfl (fun _ => bN (.bool _) rfl rfl) (dT [] rfl (by kernel_rfl) (bY aPk rfl rfl (aRv _ bs vr lr tt mm cl A n c r _ (M3.ownSeg 0 1)) ?_)))
 rintro v4 w4 ⟨rfl, hM4⟩
 have M4 : Mem _ _ [_, _, _] _ := M3.seg 0 1 hM4
 refine aB (aC ⟨dU, ?_⟩)
 refine bX (lD ?_)
 exact ⟨rfl, r, hr, M4.keep [true, false, true]⟩
theorem aXf {xs : List Body} {cs : List Con} {b b' : Body} (h : SameB b b') : jT xs cs b = jT xs cs b' := by
 unfold jT uY uX
 rw [h.key, h.mass]
theorem aEs {xs ys zs : List Body} {cs : List Con} (h : Like ys zs) : ys.map (jT xs cs) = zs.map (jT xs cs) := by
 apply List.ext_getElem?
 intro i
 rw [List.getElem?_map, List.getElem?_map]
 by_cases hi : i < ys.length
 ·have h1 : ys[i]? = some ys[i] := List.getElem?_eq_getElem hi
  have h2 : zs[i]? = some (zs[i]'(by rw [h.len]; exact hi)) := List.getElem?_eq_getElem _
  rw [h1, h2]
  exact congrArg some (aXf (h.at_ i _ _ h1 h2)).symm
 ·have hl := h.len
  rw [List.getElem?_eq_none (show ys.length ≤ i by omega), List.getElem?_eq_none (show zs.length ≤ i by omega)]
theorem aTu {xs : List Body} {cs : List Con} (hs : cW xs) (hb : ∀ b ∈ xs, Okb b) (hcs : ∀ c ∈ cs, OkC xs c) (hl : cs.length ≤ 1073741824) {zs : List Body} (h : Like xs zs) : ∀ b ∈ zs, (-1152921504606846976 ≤ (jT xs cs b).1 ∧ (jT xs cs b).1 ≤ 1152921504606846976) ∧ -1152921504606846976 ≤ (jT xs cs b).2 ∧ (jT xs cs b).2 ≤ 1152921504606846976 := fun b hbm => by
 have hm : jT xs cs b ∈ zs.map (jT xs cs) := List.mem_map_of_mem hbm
 rw [← aEs h] at hm
 obtain ⟨x, hx, e⟩ := List.mem_map.1 hm
 rw [← e]
 have := aBy hs hb hcs rfl hl cs.length hx
 rwa [List.take_of_length_le (Nat.le_refl _)] at this
set_option maxHeartbeats 16000000 in
theorem aHz (w : World) (F : Rd w 2 (some ⟨0, 0, none⟩) 1 [[.int .u32 73856093, .int .u32 19349663]]) (N : Rd w 4 (some ⟨3, 0, none⟩) 1 [eI jO]) (A : Option Addr) (n c : Nat) (xs : List Body) (R : Rd w 10 A n (xs.map aF)) (hb : ∀ b ∈ xs, Okb b) (hs : cW xs) (hn : n ≤ 4096) :
  Calls Tryz.prog 65 #[.slice A n c] w (fun ex w' => ∃ v, ex = .returned v ∧ (fun v w' => ∃ (r : Row) (t : Nat), v = .tuple #[.slice r.A r.n r.c, .agg [.int .i64 (t : Int), .int .i64 ((kL xs).length : Int), .bool (sJ xs)].toArray] ∧ (kL xs).length ≤ t ∧ 2 * t ≤ xs.length * (xs.length - 1) ∧ bC 39 10 r.A r.n r.c ((pU xs).map aF) r.e ∧ Mem w [] [r.e] w') v w') := by
 have hlen : xs.length = n := by simpa using R.len
 have hnn : xs.length * xs.length ≤ 4096 * 4096 := Nat.mul_le_mul (by omega) (by omega)
 have hcl := aDj xs
 have hsq := aUi (xs := xs)
 refine aI #[.tmp 2, .cell 3 58] 26 Tryz.func65 rfl Tryz.results65 Tryz.ntmps65 rfl ?_
 have M0 := Mem.refl w
 refine aE (aA (eM rfl rfl (aS wA M0 rfl rfl (fun b1 w1 M1 => (aB (aC (aE (aA (dO rfl rfl (wq (cC [(0, .slice _ _ _)] _ aXa rfl rfl) rfl ?_))))))))))
 refine bK (.agg (List.toArray _)) M1 rfl rfl rfl (fun b2 w2 M2 => (wq (aJ (.pointer _) rfl) rfl (aB (aC (aE (aE (aA (wq (tA [.func _ _ _, .func _ _ _, .func _ _ _, .func _ _ _] aEh bFn rfl rfl (dG rfl)) rfl (aP rfl rfl (aB (aC (aQ ?_))))))))))))
 refine iR 5 (fK (aE (aA (cZ rfl rfl rfl rfl (kZ 12 rfl (by first | decide | omega) (aB (aC (aE (cF rfl ?_)))))))))
 refine aL (aC (aE (aQ (aE (aA (wq (zT 0 (.func _ _ _) aEh aKh rfl rfl (by decide) (by decide) rfl rfl) rfl (wq (aJ (.func _ _ _) rfl) rfl (aB (aC (aA (wq (aH (.func _ _ _) rfl) rfl (wq (aH (.pointer _) rfl) rfl ?_))))))))))))
 refine bY bLk rfl rfl (bFq _ (F.mem M2) (N.mem M2) b2 gT gT 0 0 false A n c xs (R.mem M2) hb hs hn (M2.ownSeg 1 1) (M2.away 1 1 R (by simp)) (M2.away 1 1 F (by simp)) (M2.away 1 1 N (by simp))) ?_
 rintro v3 w3 ⟨rfl, r, tm, ht1, ht2, hr, hM3⟩
 have M3 : Mem _ _ [_, _, _] _ := M2.seg 1 1 hM3
 have hrn : (kL xs).length = r.n := by simpa using hr.1
 refine aB (cV (aC (aA (wq (aY rfl rfl (by first | decide | omega) (by first | decide | omega)) rfl (aK 17 (.int .i64 1) (iE (by first | decide | omega)) (aP rfl rfl ?_))))))
 refine aB (aC (fK (aE (aA (cZ rfl rfl rfl rfl (kZ 12 rfl (by first | decide | omega) (aB (aC (aE ?_)))))))))
 refine cF rfl (aL (aC (aE (aQ (aE (aA (wq (zT 1 (.func _ _ _) aEh aKh rfl rfl (by decide) (by decide) rfl rfl) rfl (wq (aJ (.func _ _ _) rfl) rfl (aB (aC (aA (wq (aH (.func _ _ _) rfl) rfl ?_))))))))))))
 refine wq (aH (.pointer _) rfl) rfl (bY bLw rfl rfl (bGe _ b2 gT r (tm : Int) (r.n : Int) false A n c xs (R.mem M3) hb (by omega) (M3.ownSeg 1 1) (M3.away 1 1 R (by simp))) ?_)
 rintro v4 w4 ⟨rfl, g, hg, hM4⟩
 have M4 : Mem _ _ [_, _, _, _] _ := M3.seg 1 1 hM4
 have hgn : (pJ xs).length = g.n := by simpa using hg.1
 have hgl := (kQ xs).len
 refine aB (cV (aC (aA (wq (aY rfl rfl (by first | decide | omega) (by first | decide | omega)) rfl (aK 17 (.int .i64 2) (iE (by first | decide | omega)) (aP rfl rfl ?_))))))
 refine aB (aC (fK (aE (aA (cZ rfl rfl rfl rfl (kZ 12 rfl (by first | decide | omega) (aB (aC (aE ?_)))))))))
 refine cF rfl (aL (aC (aE (aQ (aE (aA (wq (zT 2 (.func _ _ _) aEh aKh rfl rfl (by decide) (by decide) rfl rfl) rfl (wq (aJ (.func _ _ _) rfl) rfl (aB (aC (aA (wq (aH (.func _ _ _) rfl) rfl ?_))))))))))))
 refine wq (aH (.pointer _) rfl) rfl (bY bOr rfl rfl (bBf _ b2 g r (tm : Int) (r.n : Int) _ A n c (pJ xs) (kL xs) (hg.rd M4 (bH (i := 3) rfl)) (hr.rd M4 (bH (i := 2) rfl)) ((kQ xs).sorted hs) (xQ hb) (by omega) (fun c h => (kQ xs).okc (qL hs hb c h)) (by omega) (M4.ownSeg 1 1) (hg.awayB M4 3 1 rfl rfl rfl) (hr.awayB M4 2 1 rfl rfl rfl)) ?_)
 rintro v5 w5 ⟨rfl, s, hsv, hM5⟩
 have M5 : Mem _ _ [_, _, _, _, _] _ := M4.seg 1 1 hM5
 have hsn : (lJ xs).length = s.n := by have h := hsv.1; rwa [List.length_map] at h
 have hlk : Like xs (lJ xs) := (kQ xs).trans (iY _ _ 4)
 have hsl := hlk.len
 refine aB (cV (aC (aA (wq (aY rfl rfl (by first | decide | omega) (by first | decide | omega)) rfl (aK 17 (.int .i64 3) (iE (by first | decide | omega)) (aP rfl rfl ?_))))))
 refine aB (aC (fK (aE (aA (cZ rfl rfl rfl rfl (kZ 12 rfl (by first | decide | omega) (aB (aC (aE ?_)))))))))
 refine cF rfl (aL (aC (aE (aQ (aE (aA (wq (zT 3 (.func _ _ _) aEh aKh rfl rfl (by decide) (by decide) rfl rfl) rfl (wq (aJ (.func _ _ _) rfl) rfl (aB (aC (aA (wq (aH (.func _ _ _) rfl) rfl ?_))))))))))))
 refine wq (aH (.pointer _) rfl) rfl (bY bOv rfl rfl (bFz _ b2 s r (tm : Int) (r.n : Int) _ A n c xs (R.mem M5) (lJ xs) (kL xs) (hsv.rd M5 (bH (i := 4) rfl)) (hr.rd M5 (bH (i := 2) rfl)) hs hb (qV (xQ hb) 4) (by omega) (by omega) (qL hs hb) (by omega) (aEs hlk) (aTu hs hb (qL hs hb) (by omega) hlk) (M5.ownSeg 1 1) (M5.away 1 1 R (by simp)) (hsv.awayB M5 4 1 rfl rfl rfl) (hr.awayB M5 2 1 rfl rfl rfl)) ?_)
 rintro v6 w6 ⟨rfl, m, hm, hM6⟩
 have M6 : Mem _ _ [_, _, _, _, _, _] _ := M5.seg 1 1 hM6
 refine aB (cV (aC (aA (wq (aY rfl rfl (by first | decide | omega) (by first | decide | omega)) rfl (aK 17 (.int .i64 4) (iE (by first | decide | omega)) (aP rfl rfl ?_))))))
 refine aB (aC (fK (aE (aA (cZ rfl rfl rfl rfl (pE 12 rfl (by first | decide | omega) (aB (aC (aE ?_)))))))))
 refine cJ rfl (cX (dF (dF (eS (aC (aE (bQ [(0, 0), (1, 0), (2, 0), (3, 1), (4, 0), (5, 0), (6, 0), (7, 1), (8, 0), (9, 2)] mixed rfl (by kernel_rfl) (fun w7 hb7 hh7 => ?_))))))))
 have M7 := M6.drew hb7 hh7
 refine aV rfl rfl rfl (fun _ => aH (.pointer _) rfl) (aV rfl rfl rfl (fun _ => bE rfl) (aV rfl rfl rfl (fun _ => aD 1 xS rfl) (bS rfl rfl rfl (aM 1 (.slice _ _ _) fX M7 rfl rfl rfl) (aV rfl rfl rfl (fun _ => aH (.pointer _) rfl) (aV rfl rfl rfl (fun _ => bE rfl) ?_)))))
 refine aV rfl rfl rfl (fun _ => aD 3 qT rfl) (bS rfl rfl rfl (qI 1 _ qK M7 rfl rfl rfl rfl) (aV rfl rfl rfl (fun _ => aJ (.slice _ _ _) rfl) (dT [true, true] rfl (by kernel_rfl) (bG 0 _ qK M7 rfl rfl rfl rfl rfl (aR rfl) rfl (fun w8 M8 => ?_)))))
 refine aB (aC ⟨dU, ?_⟩)
 refine bX (aC (aO (aSy (.slice _ _ _) 0 qK M8 rfl rfl rfl rfl ?_)))
 exact ⟨m, tm, tP rfl (by rw [hrn]; show Value.agg _ = _; rw [show sJ xs = (((false || xs.any lR) || (gR (pJ xs) (kL xs) 4).2) || aTg xs (kL xs) (lJ xs)) by unfold sJ; rw [Bool.false_or]]; rfl), by omega, ht2, hm, M8.keep [false, false, false, false, false, true]⟩
theorem aVy {a b : Int} {p : Nat} (ha : 0 ≤ a) (hp : a.natAbs * b.natAbs = p) : (if decide (b < 0) = true then (if 0 < p % 65536 then -((p / 65536 : Nat) : Int) - 1 else -((p / 65536 : Nat) : Int)) else ((p / 65536 : Nat) : Int)) = a * b / 65536 := by
 have e : a.natAbs * b.natAbs = (a * b).natAbs := (Int.natAbs_mul a b).symm
 rw [e] at hp
 by_cases h : b < 0
 ·have hs : a * b ≤ 0 := Int.mul_nonpos_of_nonneg_of_nonpos ha (by omega)
  rw [if_pos (decide_eq_true h)]
  split <;> omega
 ·have hs : 0 ≤ a * b := Int.mul_nonneg ha (by omega)
  rw [if_neg (by rw [decide_eq_true_eq]; exact h)]
  omega
set_option maxHeartbeats 4000000 in
theorem kB (w : World) (a l : Int) (hl : 0 ≤ l ∧ l ≤ 2147483648) :
  Calls Tryz.prog 153 #[.int .i64 a, .int .i64 l] w (fun ex w' => ∃ v, ex = .returned v ∧ (fun v w' => v = .int .i64 (iS a l) ∧ Below w.heap.size w w') v w') := by
 refine aI #[.tmp 4] 16 Tryz.func153 rfl Tryz.results153 Tryz.ntmps153 rfl ?_
 have M0 := Mem.refl w
 refine aE (aA (bI rfl rfl (aB (aC (aE (aE (aA (aP rfl rfl (aP rfl rfl (cZ rfl rfl rfl rfl ?_))))))))))
 refine aB (aC ?_)
 refine aW rfl (fun h7 => ?_) (fun h7 => ?_)
 ·refine aE (aA (aP rfl rfl (bI rfl rfl (aB (aC (aO (cM (cD (.int _ _) rfl ?_))))))))
  exact ⟨iE (by unfold iS; omega), M0.below⟩
 ·refine aL (aC (aE (aE (aA (aP rfl rfl (aP rfl rfl (wq (pX rfl (fH _ (by omega) (by omega))) rfl (cZ rfl rfl rfl rfl (aB (aC ?_))))))))))
  refine aW rfl (fun h12 => ?_) (fun h12 => ?_)
  ·refine aE (aA (aP rfl rfl (wq (pX rfl (fH _ (by omega) (by omega))) rfl (bI rfl rfl (aB (aC (aO (cM (cD (.int _ _) rfl ?_)))))))))
   exact ⟨iE (by unfold iS; omega), M0.below⟩
  ·refine aL (aC (aE (aA (aP rfl rfl (bI rfl rfl (aB (aC (aO (cD (.int _ _) rfl ?_)))))))))
   exact ⟨iE (by unfold iS; omega), M0.below⟩
set_option maxHeartbeats 8000000 in
theorem tF (w : World) (a b : Int) (ha : 0 ≤ a) (ha2 : a ≤ 4611686018427387904) (hb0 : -4611686018427387904 ≤ b) (hb1 : b ≤ 4611686018427387904) (hp : -8796093022208 ≤ a * b ∧ a * b ≤ 8796093022208) :
  Calls Tryz.prog 228 #[.int .i64 a, .int .i64 b, .int .i64 16] w (fun ex w' => ∃ v, ex = .returned v ∧ (fun v w' => v = .tuple #[.int .i64 (a * b / 65536), .int .i64 0] ∧ Below w.heap.size w w') v w') := by
 obtain ⟨p, hpp⟩ : ∃ p, a.natAbs * b.natAbs = p := ⟨_, rfl⟩
 have hpl : p ≤ 8796093022208 := by have e := Int.natAbs_mul a b; omega
 refine aI #[.tmp 6, .tmp 7] 52 Tryz.func228 rfl Tryz.results228 Tryz.ntmps228 rfl ?_
 have M0 := Mem.refl w
 refine aE (aA (bI rfl rfl (bI rfl rfl (aB (aC (aE (aE (aA (aP rfl rfl (cZ rfl rfl rfl rfl ?_))))))))))
 refine pE 16 rfl (by first | decide | omega) (wq (aH (.bool false) rfl) rfl (aP rfl rfl (cZ rfl rfl rfl rfl (pE 19 rfl (by first | decide | omega) (wq (bR false (.bool false) rfl rfl) rfl ?_)))))
 refine aB (aC (cJ rfl (aL (aC (aE (aA (bI rfl rfl (aB (aC (aE (aE (aA (bI rfl rfl ?_)))))))))))))
 refine aB (aC (aQ (dS (σ := Nat) [0, 1, 2, 6, 7] (fun k => [(8, .int .u64 ((2 ^ k : Nat) : Int)), (9, .int .i64 (k : Int))]) (fun k w' => k ≤ 16 ∧ Mem w [] [] w') (fun k => 16 - k) 0 (bA (iE rfl) (bA rfl eB)) (⟨by omega, M0⟩) ?_)))
 rintro k ρ1 w1 ⟨hk, hM1⟩
 refine aE (aE (aA (aP rfl rfl (aP rfl rfl (cZ rfl rfl rfl rfl (aB (aC ?_)))))))
 refine aW rfl (fun h23 => ?_) (fun h23 => ?_)
 ·have hpw : 2 ^ k ≤ 2 ^ 15 := Nat.pow_le_pow_right (by omega) (by omega)
  refine aL (aC (aE (aQ (aA (aP rfl rfl (wq (bZ (.int _ _) rfl rfl rfl) rfl (aK 27 (.int .u64 ((2 ^ (k + 1) : Nat) : Int)) (iE (by rw [gB, Nat.pow_succ]; omega)) (bI rfl rfl (aB ?_)))))))))
  refine cV (aC (aA (aP rfl rfl (wq (aY rfl rfl (by omega) (by omega)) rfl (bI rfl rfl (aB ?_))))))
  refine cG (k + 1) (bA (iE rfl) (bA rfl eB)) (cN rfl (cN rfl (cN rfl (cN rfl (cN rfl gV))))) ?_ ?_
  ·exact ⟨by omega, hM1⟩
  ·omega
 ·have hk16 : k = 16 := by omega
  subst hk16
  refine cX (dF (dK (eS (aC (aE (aA (aP rfl rfl ?_)))))))
  refine aP rfl rfl (bY bAe rfl rfl (vK _ a b (by omega) (by omega) (by omega) (by omega)) ?_)
  rintro v2 w2 ⟨D, rfl, hD8, hDd, hDv, hb2⟩
  have M2 := hM1.callB hb2
  obtain ⟨d0, d1, d2, d3, d4, d5, d6, d7, rfl⟩ := bKj hD8
  rw [hpp] at hDv
  refine aP rfl rfl (bY bCd rfl rfl (yG _ d0 d1 d2 d3 d4 d5 d6 d7 hDd 65536 (by omega) (by omega) (by rw [hDv]; omega) (by rw [hDv]; omega)) ?_)
  rintro v3 w3 ⟨rfl, hb3⟩
  have M3 := M2.callB hb3
  refine wq (aH (.tuple (List.toArray _)) rfl) rfl (wq (bN (.int _ _) rfl rfl) rfl (aK 34 (.int .u64 ((p / 65536 : Nat) : Int)) (iE (by rw [hDv])) (wq (bN (.int _ _) rfl rfl) rfl (aK 35 (.int .u64 ((p % 65536 : Nat) : Int)) (iE (by rw [hDv])) (wq (bN (.bool true) rfl rfl) rfl ?_)))))
  refine bI rfl rfl (bI rfl rfl (wq (aJ (.bool true) rfl) rfl (aB (aC (aE (aA (aP rfl rfl (aP rfl rfl ?_))))))))
  refine wq (aH (.bool true) rfl) rfl (aP rfl rfl (cZ rfl rfl rfl rfl (pE 42 rfl (by omega) (aP rfl rfl (cZ rfl rfl rfl rfl ?_)))))
  refine wq (rR _ Tryz.underlying4 rfl rfl rfl) rfl (aK 45 (.bool (decide (b < 0))) (bv rfl (by simp)) (bY bBy rfl rfl (aAw _ (p / 65536) (p % 65536) (decide (b < 0)) (by omega)) ?_))
  rintro v4 w4 ⟨rfl, hb4⟩
  have M4 := M3.callB hb4
  refine wq (aH (.tuple (List.toArray _)) rfl) rfl (wq (bN (.int _ _) rfl rfl) rfl (wq (bN (.bool true) rfl rfl) rfl (bI rfl rfl (wq (aJ (.bool true) rfl) rfl (aB (aC (aE (aE (aA ?_)))))))))
  refine wq (aH (.bool true) rfl) rfl (wq (gG false rfl rfl) rfl (aB (aC (cJ rfl (aL (aC (aE (aA (aP rfl rfl ?_)))))))))
  refine bI rfl rfl (bI rfl rfl (aB (aC (aO (gA (.int _ _) (.int _ _) rfl rfl ?_)))))
  exact ⟨tP (iE (aVy ha hpp)) rfl, M4.below⟩
set_option maxHeartbeats 4000000 in
theorem aDc (w : World) (c : Con) (a b : Body) (hc : Okn c) (ha : Okb a) (hb : Okb b) :
  Calls Tryz.prog 227 #[.agg (cH c).toArray, (.agg (aF a).toArray), (.agg (aF b).toArray)] w (fun ex w' => ∃ v, ex = .returned v ∧ (fun v w' => v = .int .i64 (wE c a b) ∧ Below w.heap.size w w') v w') := by
 have hr := yE hc ha hb
 have hv1 := ha.v
 have hv2 := hb.v
 have hx := hc.x
 have hy := hc.y
 refine aI #[.tmp 6] 41 Tryz.func227 rfl Tryz.results227 Tryz.ntmps227 rfl ?_
 have M0 := Mem.refl w
 refine aE (aA (bK (.agg (List.toArray _)) M0 rfl rfl rfl (fun b1 w1 M1 => (bK (.agg (List.toArray _)) M1 rfl rfl rfl (fun b2 w2 M2 => (bK (.agg (List.toArray _)) M2 rfl rfl rfl (fun b3 w3 M3 => (bI rfl rfl (aB (aC (aE (aA ?_))))))))))))
 refine wq (aD 8 dV rfl) rfl (wq (aD 0 cR rfl) rfl (wq (aM 2 (.int _ _) aT M3 rfl rfl rfl) rfl (wq (aZ dQ Tryz.underlying2 rfl (fH _ (by omega) (by omega))) rfl (wq (aD 8 dV rfl) rfl (wq (aD 0 cR rfl) rfl ?_)))))
 refine wq (aM 1 (.int _ _) aT M3 rfl rfl rfl) rfl (wq (aZ dQ Tryz.underlying2 rfl (fH _ (by omega) (by omega))) rfl (wq (fU rfl rfl (by omega) (by omega)) rfl (wq (aD 2 gX rfl) rfl (wq (aD 0 cR rfl) rfl (wq (aM 0 (.int _ _) aT M3 rfl rfl rfl) rfl ?_)))))
 refine wq (aZ dQ Tryz.underlying2 rfl (fH _ (by omega) (by omega))) rfl (wq (fB rfl rfl (by omega) (by omega)) rfl (bI rfl rfl (aB (aC (aE (aA (wq (aD 8 dV rfl) rfl (wq (aD 1 cO rfl) rfl ?_))))))))
 refine wq (aM 2 (.int _ _) aT M3 rfl rfl rfl) rfl (wq (aZ dQ Tryz.underlying2 rfl (fH _ (by omega) (by omega))) rfl (wq (aD 8 dV rfl) rfl (wq (aD 1 cO rfl) rfl (wq (aM 1 (.int _ _) aT M3 rfl rfl rfl) rfl (wq (aZ dQ Tryz.underlying2 rfl (fH _ (by omega) (by omega))) rfl ?_)))))
 refine wq (fU rfl rfl (by omega) (by omega)) rfl (wq (aD 2 gX rfl) rfl (wq (aD 1 cO rfl) rfl (wq (aM 0 (.int _ _) aT M3 rfl rfl rfl) rfl (wq (aZ dQ Tryz.underlying2 rfl (fH _ (by omega) (by omega))) rfl (wq (fB rfl rfl (by omega) (by omega)) rfl ?_)))))
 refine bI rfl rfl (aB (aC (aE (aA (aP rfl rfl (aP rfl rfl (wq (aY rfl rfl (by omega) (by omega)) rfl (bY kW rfl rfl (fA _ _ 65536 (by decide) (by omega) (by omega)) ?_))))))))
 rintro v4 w4 ⟨rfl, hb4⟩
 have M4 := M3.callB hb4
 refine bI rfl rfl (aB (aC (aO (cD (.int _ _) rfl ?_))))
 exact ⟨rfl, M4.below⟩
set_option maxHeartbeats 4000000 in
theorem tS (w : World) (c : Con) (a b : Body) (hc : Okn c) (ha : Okb a) (hb : Okb b) :
  Calls Tryz.prog 201 #[.agg (cH c).toArray, (.agg (aF a).toArray), (.agg (aF b).toArray)] w (fun ex w' => ∃ v, ex = .returned v ∧ (fun v w' => v = .int .i64 (kP c a b) ∧ Below w.heap.size w w') v w') := by
 have hr := yE hc ha hb
 have hm1 := ha.m
 have hm2 := hb.m
 have hc1 := ha.c
 have hc2 := hb.c
 refine aI #[.tmp 6] 38 Tryz.func201 rfl Tryz.results201 Tryz.ntmps201 rfl ?_
 have M0 := Mem.refl w
 refine aE (aA (bK (.agg (List.toArray _)) M0 rfl rfl rfl (fun b1 w1 M1 => (bK (.agg (List.toArray _)) M1 rfl rfl rfl (fun b2 w2 M2 => (bK (.agg (List.toArray _)) M2 rfl rfl rfl (fun b3 w3 M3 => (bI rfl rfl (aB (aC (aE (aA ?_))))))))))))
 refine wq (aX 0 eQ M3 rfl rfl rfl) rfl (wq (aX 1 bO M3 rfl rfl rfl) rfl (wq (aX 2 bO M3 rfl rfl rfl) rfl (bY bMr rfl rfl (aDc _ c a b hc ha hb) ?_)))
 rintro v4 w4 ⟨rfl, hb4⟩
 have M4 := M3.callB hb4
 refine bI rfl rfl (aB (aC (aE (aA (wq (aD 4 eH rfl) rfl (wq (aM 1 (.int _ _) aT M4 rfl rfl rfl) rfl (wq (aZ dQ Tryz.underlying2 rfl (fH _ (by omega) (by omega))) rfl (wq (aD 4 eH rfl) rfl ?_))))))))
 refine wq (aM 2 (.int _ _) aT M4 rfl rfl rfl) rfl (wq (aZ dQ Tryz.underlying2 rfl (fH _ (by omega) (by omega))) rfl (wq (aY rfl rfl (by omega) (by omega)) rfl (bI rfl rfl (aB (aC (aE (aE (aA (aP rfl rfl ?_)))))))))
 refine cZ rfl rfl rfl rfl (wq (aH (.bool (decide _)) rfl) rfl ?_)
 refine dM 22 rfl (fun g22 => ?_) (fun g22 => ?_)
 ·refine aN rfl rfl (aN rfl rfl (wq (bR true (.bool true) rfl rfl) rfl (aB (aC (cF rfl (aE (aA ?_)))))))
  refine bI rfl rfl (aB (aC (aO (cM (cD (.int _ _) rfl ?_)))))
  exact ⟨iE (by unfold kP; rw [if_pos (.inl (by omega))]), M4.below⟩
 ·refine aP rfl rfl (cZ rfl rfl rfl rfl (wq (bR false (.bool (decide _)) rfl rfl) rfl (aB (aC ?_))))
  refine aW rfl (fun h25 => ?_) (fun h25 => ?_)
  ·refine aE (aA (bI rfl rfl (aB (aC (aO (cM (cD (.int _ _) rfl ?_)))))))
   exact ⟨iE (by unfold kP; rw [if_pos (.inr (by omega))]), M4.below⟩
  ·have hsp := aDk hc ha hb (by omega)
   refine aL (aC (aE (aA (aP rfl rfl (wq (pX rfl (fH _ (by omega) (by omega))) rfl (wq (aD 5 mY rfl) rfl (wq (aM 1 (.int _ _) aT M4 rfl rfl rfl) rfl (wq (aD 5 mY rfl) rfl ?_))))))))
   refine wq (aM 2 (.int _ _) aT M4 rfl rfl rfl) rfl (wq (qB rfl rfl ) rfl (wq (aZ dQ Tryz.underlying2 rfl (fH _ (by omega) (by omega))) rfl (aK 33 (.int .i64 (max a.bounce b.bounce)) (iE (by first | rfl | omega)) (wq (aY rfl rfl (by omega) (by omega)) rfl (wq (fB rfl rfl (by omega) (by omega)) rfl ?_)))))
   refine aP rfl rfl (bY kW rfl rfl (fA _ (-wE c a b * (65536 + max a.bounce b.bounce)) (a.mass + b.mass) (by omega) (by omega) (by omega)) ?_)
   rintro v5 w5 ⟨rfl, hb5⟩
   have M5 := M4.callB hb5
   refine bI rfl rfl (aB (aC (aO (cD (.int _ _) rfl ?_))))
   exact ⟨iE (by unfold kP; rw [if_neg (fun g => by omega)]), M5.below⟩
set_option maxHeartbeats 4000000 in
theorem mZ (w : World) (j m x : Int) (hj : 0 ≤ j ∧ j ≤ 8796093022208) (hm : 0 ≤ m ∧ m ≤ 1048576) (hp : 0 ≤ j * m ∧ j * m ≤ 8796093022208) (hx : -65536 ≤ x ∧ x ≤ 65536) :
  Calls Tryz.prog 202 #[.int .i64 j, .int .i32 m, .int .i32 x] w (fun ex w' => ∃ v, ex = .returned v ∧ (fun v w' => v = .int .i64 (nG j m x) ∧ Below w.heap.size w w') v w') := by
 have r1 := kK hp hx
 have hkk := r1.1
 refine aI #[.tmp 6] 26 Tryz.func202 rfl Tryz.results202 Tryz.ntmps202 rfl ?_
 have M0 := Mem.refl w
 refine aE (aA (bI rfl rfl (aB (aC (aE (aA (aP rfl rfl (aP rfl rfl (wq (aZ dQ Tryz.underlying2 rfl (fH _ (by omega) (by omega))) rfl ?_)))))))))
 refine bY bBb rfl rfl (tF _ j m (by omega) (by omega) (by omega) (by omega) (by omega)) ?_
 rintro v1 w1 ⟨rfl, hb1⟩
 have M1 := M0.callB hb1
 refine wq (aH (.tuple (List.toArray _)) rfl) rfl (wq (bN (.int _ _) rfl rfl) rfl (wq (bN (.int _ _) rfl rfl) rfl (bI rfl rfl (bI rfl rfl (aB (aC (aE (aA ?_))))))))
 refine aP rfl rfl (aP rfl rfl (wq (aZ dQ Tryz.underlying2 rfl (fH _ (by omega) (by omega))) rfl (bY bBb rfl rfl (tF _ (j * m / 65536) x (by omega) (by omega) (by omega) (by omega) r1.2.1) ?_)))
 rintro v2 w2 ⟨rfl, hb2⟩
 have M2 := M1.callB hb2
 refine wq (aH (.tuple (List.toArray _)) rfl) rfl (wq (bN (.int _ _) rfl rfl) rfl (wq (bN (.int _ _) rfl rfl) rfl (bI rfl rfl (bI rfl rfl (aB (aC (aE (aA ?_))))))))
 refine aP rfl rfl (bI rfl rfl (aB (aC (aO (cD (.int _ _) rfl ?_)))))
 exact ⟨rfl, M2.below⟩
def pW (s : Bool) (c : Con) : Int := cond s c.ny c.nx
theorem aUz {s : Bool} {c : Con} (h : Okn c) : -65536 ≤ pW s c ∧ pW s c ≤ 65536 := by cases s; exact h.x; exact h.y
theorem uI {xs : List Body} {b xa xb : Body} (hs : cW xs) (ha : xa ∈ xs) (hb : xb ∈ xs) (h : b ∈ xs) (hm : 0 ≤ xa.mass) (hm2 : 0 ≤ xb.mass) (e : b.key = xa.key ∨ b.key = xb.key) : b.mass ≤ xa.mass + xb.mass := by
 rcases e with e | e
 ·rw [lN hs h ha e]; omega
 ·rw [lN hs h hb e]; omega
set_option maxHeartbeats 8000000 in
theorem aHs (w : World) (A : Option Addr) (n c : Nat) (xs : List Body) (R : Rd w 10 A n (xs.map aF)) (hs : cW xs) (hb : ∀ b ∈ xs, Okb b) (hn : n ≤ 1048576) (B : Option Addr) (mc c' : Nat) (cs : List Con) (R' : Rd w 5 B mc (cs.map cH)) (hcs : ∀ c ∈ cs, OkC xs c) (hmc : mc ≤ 8589934592) (i : Nat) (b : Body) (hxi : xs[i]? = some b) (sec : Bool) :
  Calls Tryz.prog 178 #[.slice A n c, .slice B mc c', .int .i64 (i : Int), .bool sec] w (fun ex w' => ∃ v, ex = .returned v ∧ (fun v w' => v = .int .i64 (gW xs cs (pW sec) b) ∧ Below w.heap.size w w') v w') := by
 have hlen : xs.length = n := by simpa using R.len
 have hbd := R.bound
 have hclen : cs.length = mc := by simpa using R'.len
 have hbd' := R'.bound
 have hbi := List.mem_of_getElem? hxi
 have hil := (List.getElem?_eq_some_iff.1 hxi).1
 refine aI #[.tmp 8] 98 Tryz.func178 rfl Tryz.results178 Tryz.ntmps178 rfl ?_
 have M0 := Mem.refl w
 refine aE (aA (bI rfl rfl (aB (aC (aE (aA (bI rfl rfl (aB (aC (aE (aE (aA (bI rfl rfl ?_)))))))))))))
 refine aB (aC (aQ (dS (σ := Nat) [0, 1, 2, 3, 8] (fun k => [(9, .int .i64 (gW xs (cs.take k) (pW sec) b)), (10, .int .i64 (k : Int))]) (fun k w' => k ≤ mc ∧ Mem w [] [] w') (fun k => mc - k) 0 (bA (iE (aIa _ _ _ _).symm) (bA rfl eB)) (⟨by omega, M0⟩) ?_)))
 rintro k ρ1 w1 ⟨hk, hM1⟩
 refine aE (aE (aA (aP rfl rfl (dO rfl rfl (wq (dC Tryz.underlying166 rfl) rfl (cZ rfl rfl rfl rfl (aB (aC ?_))))))))
 refine aW rfl (fun h20 => ?_) (fun h20 => ?_)
 ·obtain ⟨cn, hcn⟩ := cS (xs := cs) (k := k) hclen (by omega)
  have hc := hcs cn (List.mem_of_getElem? hcn)
  have hne := hc.ne
  have hg := aUz (s := sec) hc.n
  have hsr := sY (cs := cs.take k) (g := pW sec) hs hb (fun c h => hcs c (List.mem_of_mem_take h)) (fun c h => aUz (hcs c (List.mem_of_mem_take h)).n) hbi
  have htl := List.length_take_le k cs
  obtain ⟨pa, xa, hxa, hka, hfa⟩ := tZ hc.l
  obtain ⟨pb, xb, hxb, hkb, hfb⟩ := tZ hc.h
  have hba := zM hxa hfa
  have hbb := zM hxb hfb
  have hma := List.mem_of_getElem? hxa
  have hmb := List.mem_of_getElem? hxb
  have hoa := hb xa hma
  have hob := hb xb hmb
  have qa := hoa.m
  have qb := hob.m
  refine aL (aC (aE (aQ (aE (aA (dO rfl rfl (aP rfl rfl (wq (bP (k) sK rfl rfl rfl ((R'.mem hM1).below_len (aG cH hcn)) ((R'.mem hM1).someK (aG cH hcn))) rfl (wq (dN _ eQ (R'.mem hM1) (aG cH hcn) rfl) rfl (aS lZ hM1 rfl rfl (fun b2 w2 M2 => ?_)))))))))))
  refine bG 0 _ eQ M2 rfl rfl rfl rfl rfl (aR rfl) rfl (fun w3 M3 => (aB (aC (aE (aE (bQ [(0, 0), (1, 0), (2, 1), (3, 0), (4, 0), (5, 1), (6, 1), (7, 1), (8, 0), (9, 0), (10, 0), (11, 0), (12, 1), (13, 0), (14, 0), (15, 1), (16, 1), (17, 1), (18, 0), (19, 0)] mixed rfl (by kernel_rfl) (fun w4 hb4 hh4 => ?_)))))))
  have M4 := M3.drew hb4 hh4
  refine aV rfl rfl rfl (fun _ => aD 0 fL rfl) (aV rfl rfl rfl (fun _ => aD 0 gC rfl) (bS rfl rfl rfl (aM 0 (.int _ _) bW M4 rfl rfl rfl) (jP rfl rfl rfl (eF rfl rfl rfl (bS rfl rfl rfl (bP (i) dH rfl rfl rfl ((R.mem M4).below_len (aG aF hxi)) ((R.mem M4).someK (aG aF hxi))) ?_)))))
  refine bS rfl rfl rfl (bB 0 dL (R.mem M4) (Nat.lt_of_le_of_lt (Nat.zero_le _) ((R.mem M4).below_len (aG aF hxi))) rfl) (bS rfl rfl rfl (dY (o := 0) (.int _ _) bW (R.mem M4) (aG aF hxi) rfl rfl) (aV rfl rfl rfl (fun _ => bZ (.bool (decide _)) rfl rfl rfl) (aV rfl rfl rfl (fun _ => aH (.bool (decide _)) rfl) ?_)))
  refine aEw 36 rfl (fun g36 => ?_) (fun g36 => ?_)
  ·refine aV rfl rfl rfl (fun _ => aD 0 fL rfl) (aV rfl rfl rfl (fun _ => aD 1 jS rfl) (bS rfl rfl rfl (aM 0 (.int _ _) bW M4 rfl rfl rfl) (jP rfl rfl rfl (eF rfl rfl rfl (bS rfl rfl rfl (bP (i) dH rfl rfl rfl ((R.mem M4).below_len (aG aF hxi)) ((R.mem M4).someK (aG aF hxi))) ?_)))))
   refine bS rfl rfl rfl (bB 0 dL (R.mem M4) (Nat.lt_of_le_of_lt (Nat.zero_le _) ((R.mem M4).below_len (aG aF hxi))) rfl) (bS rfl rfl rfl (dY (o := 0) (.int _ _) bW (R.mem M4) (aG aF hxi) rfl rfl) (aV rfl rfl rfl (fun _ => bZ (.bool (decide _)) rfl rfl rfl) (aV rfl rfl rfl (fun _ => bR true (.bool (decide _)) rfl rfl) ?_)))
   refine bX (aC ?_)
   refine aW rfl (fun h46 => ?_) (fun h46 => ?_)
   ·refine cX (dF (eS (aC (aA (aP rfl rfl (wq (aY rfl rfl (by omega) (by omega)) rfl ?_))))))
    refine bI rfl rfl (aB ?_)
    refine cG (k + 1) (bA (iE (by rw [jU hcn]; unfold ctr; rw [if_neg (by omega), if_neg (by omega)]; omega)) (bA rfl eB)) (cN rfl (cN rfl (cN rfl (cN rfl (cN rfl gV))))) ?_ ?_
    ·exact ⟨by omega, M4.keep [false]⟩
    ·(show mc - (k + 1) < mc - k; omega)
   ·refine aL (aC (aE (aA (dO rfl rfl (dO rfl rfl (wq (aD 0 fL rfl) rfl (wq (aD 0 gC rfl) rfl (wq (aM 0 (.int _ _) bW M4 rfl rfl rfl) rfl ?_))))))))
    refine bY sI rfl rfl (gS _ cn.low _ _ _ xs (R.mem M4)) ?_
    rintro v5 w5 ⟨rfl, hb5⟩
    have M5 := M4.callB hb5
    refine wq (bP (pa) dH rfl rfl hfa ((R.mem M5).below_len (aG aF hxa)) ((R.mem M5).someK (aG aF hxa))) rfl (wq (dN _ bO (R.mem M5) (aG aF hxa) rfl) rfl (aS fN M5 rfl rfl (fun b6 w6 M6 => (bG 1 _ bO M6 rfl rfl rfl rfl rfl (aR rfl) rfl (fun w7 M7 => ?_)))))
    refine aB (aC (aE (aA (dO rfl rfl (dO rfl rfl (wq (aD 0 fL rfl) rfl (wq (aD 1 jS rfl) rfl (wq (aM 0 (.int _ _) bW M7 rfl rfl rfl) rfl ?_))))))))
    refine bY sI rfl rfl (gS _ cn.high _ _ _ xs (R.mem M7)) ?_
    rintro v8 w8 ⟨rfl, hb8⟩
    have M8 := M7.callB hb8
    refine wq (bP (pb) dH rfl rfl hfb ((R.mem M8).below_len (aG aF hxb)) ((R.mem M8).someK (aG aF hxb))) rfl (wq (dN _ bO (R.mem M8) (aG aF hxb) rfl) rfl (aS fN M8 rfl rfl (fun b9 w9 M9 => (bG 2 _ bO M9 rfl rfl rfl rfl rfl (aR rfl) rfl (fun w10 M10 => ?_)))))
    refine aB (aC (aE (aA (wq (aX 0 eQ M10 rfl rfl rfl) rfl (wq (aX 1 bO M10 rfl rfl rfl) rfl (wq (aX 2 bO M10 rfl rfl rfl) rfl (bY bAs rfl rfl (tS _ cn xa xb hc.n hoa hob) ?_)))))))
    rintro v11 w11 ⟨rfl, hb11⟩
    have M11 := M10.callB hb11
    refine bI rfl rfl (aB (aC (aE (aA (wq (aD 2 gX rfl) rfl (wq (aD 0 cR rfl) rfl (wq (aM 0 (.int _ _) aT M11 rfl rfl rfl) rfl (bI rfl rfl ?_))))))))
    refine aB (aC (aE (aE (aA (wq (aH (.bool _) rfl) rfl (aB (aC ?_)))))))
    refine iG _ rfl (fun h70 => ?_) (fun h70 => ?_)
    ·refine aA (wq (aD 2 gX rfl) rfl (wq (aD 1 cO rfl) rfl (wq (aM 0 (.int _ _) aT M11 rfl rfl rfl) rfl (bI rfl rfl (aB (aC (aE (aA ?_))))))))
     refine aP rfl rfl (dO rfl rfl (aP rfl rfl (wq (bP (i) dH rfl rfl rfl ((R.mem M11).below_len (aG aF hxi)) ((R.mem M11).someK (aG aF hxi))) rfl (wq (bB 4 eH (R.mem M11) (Nat.lt_of_le_of_lt (Nat.zero_le _) ((R.mem M11).below_len (aG aF hxi))) rfl) rfl (wq (dY (o := 4) (.int _ _) aT (R.mem M11) (aG aF hxi) rfl rfl) rfl ?_)))))
     refine aP rfl rfl (aK 80 (.int .i32 (pW sec cn)) (iE (by rw [h70]; rfl)) (wC aJt rfl rfl rfl ?_))
     have hbm : 0 ≤ b.mass ∧ b.mass ≤ xa.mass + xb.mass := ⟨(hb b hbi).m.1, uI hs hma hmb hbi qa.1 qb.1 (by omega)⟩
     have hst := pS hc.n hoa hob hbm
     have hmq := (hb b hbi).m
     have hcr := (kK hst.2.2 hg).2.2
     have hjv : nG (kP cn xa xb) b.mass (pW sec cn) = nG (jV xs cn) b.mass (pW sec cn) := by unfold jV; rw [hba, hbb]
     refine (mZ _ (kP cn xa xb) b.mass (pW sec cn) ⟨hst.1, hst.2.1⟩ hmq hst.2.2 hg).mono ?_
     rintro _ w12 ⟨v12, rfl, ⟨rfl, hb12⟩⟩
     refine ⟨_, rfl, ?_⟩
     have M12 := M11.callB hb12
     refine bI rfl rfl (aB (aC (aE (bQ [(0, 0), (1, 0), (2, 1), (3, 0), (4, 0), (5, 1), (6, 1), (7, 1), (8, 0)] mixed rfl (by kernel_rfl) (fun w13 hb13 hh13 => ?_)))))
     have M13 := M12.drew hb13 hh13
     refine aV rfl rfl rfl (fun _ => aD 0 fL rfl) (aV rfl rfl rfl (fun _ => aD 0 gC rfl) (bS rfl rfl rfl (aM 0 (.int _ _) bW M13 rfl rfl rfl) (jP rfl rfl rfl (eF rfl rfl rfl (bS rfl rfl rfl (bP (i) dH rfl rfl rfl ((R.mem M13).below_len (aG aF hxi)) ((R.mem M13).someK (aG aF hxi))) ?_)))))
     refine bS rfl rfl rfl (bB 0 dL (R.mem M13) (Nat.lt_of_le_of_lt (Nat.zero_le _) ((R.mem M13).below_len (aG aF hxi))) rfl) (bS rfl rfl rfl (dY (o := 0) (.int _ _) bW (R.mem M13) (aG aF hxi) rfl rfl) (aV rfl rfl rfl (fun _ => bZ (.bool (decide _)) rfl rfl rfl) ?_))
     refine bX (aC ?_)
     refine aW rfl (fun h90 => ?_) (fun h90 => ?_)
     ·refine aA (aP rfl rfl (aP rfl rfl (wq (fU rfl rfl (by omega) (by omega)) rfl (bI rfl rfl (aB ?_)))))
      refine cV (aC (aA (aP rfl rfl (wq (aY rfl rfl (by omega) (by omega)) rfl (bI rfl rfl (aB ?_))))))
      refine cG (k + 1) (bA (iE (by rw [jU hcn]; unfold ctr; rw [if_pos (by omega), ← hjv]; omega)) (bA rfl eB)) (cN rfl (cN rfl (cN rfl (cN rfl (cN rfl gV))))) ?_ ?_
      ·exact ⟨by omega, M13.keep [false, false, false]⟩
      ·(show mc - (k + 1) < mc - k; omega)
     ·refine aA (aP rfl rfl (aP rfl rfl (wq (aY rfl rfl (by omega) (by omega)) rfl (bI rfl rfl (aB ?_)))))
      refine cV (aC (aA (aP rfl rfl (wq (aY rfl rfl (by omega) (by omega)) rfl (bI rfl rfl (aB ?_))))))
      refine cG (k + 1) (bA (iE (by rw [jU hcn]; unfold ctr; rw [if_neg (by omega), if_pos (by omega), ← hjv])) (bA rfl eB)) (cN rfl (cN rfl (cN rfl (cN rfl (cN rfl gV))))) ?_ ?_
      ·exact ⟨by omega, M13.keep [false, false, false]⟩
      ·(show mc - (k + 1) < mc - k; omega)
    ·refine aL (aC (aE (aA (aP rfl rfl (dO rfl rfl (aP rfl rfl (wq (bP (i) dH rfl rfl rfl ((R.mem M11).below_len (aG aF hxi)) ((R.mem M11).someK (aG aF hxi))) rfl (wq (bB 4 eH (R.mem M11) (Nat.lt_of_le_of_lt (Nat.zero_le _) ((R.mem M11).below_len (aG aF hxi))) rfl) rfl ?_))))))))
     refine wq (dY (o := 4) (.int _ _) aT (R.mem M11) (aG aF hxi) rfl rfl) rfl (aP rfl rfl (aK 80 (.int .i32 (pW sec cn)) (iE (by rw [h70]; rfl)) (wC aJt rfl rfl rfl ?_)))
     have hbm : 0 ≤ b.mass ∧ b.mass ≤ xa.mass + xb.mass := ⟨(hb b hbi).m.1, uI hs hma hmb hbi qa.1 qb.1 (by omega)⟩
     have hst := pS hc.n hoa hob hbm
     have hmq := (hb b hbi).m
     have hcr := (kK hst.2.2 hg).2.2
     have hjv : nG (kP cn xa xb) b.mass (pW sec cn) = nG (jV xs cn) b.mass (pW sec cn) := by unfold jV; rw [hba, hbb]
     refine (mZ _ (kP cn xa xb) b.mass (pW sec cn) ⟨hst.1, hst.2.1⟩ hmq hst.2.2 hg).mono ?_
     rintro _ w14 ⟨v14, rfl, ⟨rfl, hb14⟩⟩
     refine ⟨_, rfl, ?_⟩
     have M14 := M11.callB hb14
     refine bI rfl rfl (aB (aC (aE (bQ [(0, 0), (1, 0), (2, 1), (3, 0), (4, 0), (5, 1), (6, 1), (7, 1), (8, 0)] mixed rfl (by kernel_rfl) (fun w15 hb15 hh15 => ?_)))))
     have M15 := M14.drew hb15 hh15
     refine aV rfl rfl rfl (fun _ => aD 0 fL rfl) (aV rfl rfl rfl (fun _ => aD 0 gC rfl) (bS rfl rfl rfl (aM 0 (.int _ _) bW M15 rfl rfl rfl) (jP rfl rfl rfl (eF rfl rfl rfl (bS rfl rfl rfl (bP (i) dH rfl rfl rfl ((R.mem M15).below_len (aG aF hxi)) ((R.mem M15).someK (aG aF hxi))) ?_)))))
     refine bS rfl rfl rfl (bB 0 dL (R.mem M15) (Nat.lt_of_le_of_lt (Nat.zero_le _) ((R.mem M15).below_len (aG aF hxi))) rfl) (bS rfl rfl rfl (dY (o := 0) (.int _ _) bW (R.mem M15) (aG aF hxi) rfl rfl) (aV rfl rfl rfl (fun _ => bZ (.bool (decide _)) rfl rfl rfl) ?_))
     refine bX (aC ?_)
     refine aW rfl (fun h90 => ?_) (fun h90 => ?_)
     ·refine aA (aP rfl rfl (aP rfl rfl (wq (fU rfl rfl (by omega) (by omega)) rfl (bI rfl rfl (aB ?_)))))
      refine cV (aC (aA (aP rfl rfl (wq (aY rfl rfl (by omega) (by omega)) rfl (bI rfl rfl (aB ?_))))))
      refine cG (k + 1) (bA (iE (by rw [jU hcn]; unfold ctr; rw [if_pos (by omega), ← hjv]; omega)) (bA rfl eB)) (cN rfl (cN rfl (cN rfl (cN rfl (cN rfl gV))))) ?_ ?_
      ·exact ⟨by omega, M15.keep [false, false, false]⟩
      ·(show mc - (k + 1) < mc - k; omega)
     ·refine aA (aP rfl rfl (aP rfl rfl (wq (aY rfl rfl (by omega) (by omega)) rfl (bI rfl rfl (aB ?_)))))
      refine cV (aC (aA (aP rfl rfl (wq (aY rfl rfl (by omega) (by omega)) rfl (bI rfl rfl (aB ?_))))))
      refine cG (k + 1) (bA (iE (by rw [jU hcn]; unfold ctr; rw [if_neg (by omega), if_pos (by omega), ← hjv])) (bA rfl eB)) (cN rfl (cN rfl (cN rfl (cN rfl (cN rfl gV))))) ?_ ?_
      ·exact ⟨by omega, M15.keep [false, false, false]⟩
      ·(show mc - (k + 1) < mc - k; omega)
  ·refine D_s rfl rfl rfl (D_s rfl rfl rfl (zU rfl rfl rfl (D_s rfl rfl rfl (D_s rfl rfl rfl (zU rfl rfl rfl ?_)))))
   refine zU rfl rfl rfl (zU rfl rfl rfl (D_s rfl rfl rfl (aV rfl rfl rfl (fun _ => bR false (.bool false) rfl rfl) (bX (aC ?_)))))
   refine cJ rfl (aL (aC (aE (aA (dO rfl rfl (dO rfl rfl (wq (aD 0 fL rfl) rfl (wq (aD 0 gC rfl) rfl ?_))))))))
   refine wq (aM 0 (.int _ _) bW M4 rfl rfl rfl) rfl (bY sI rfl rfl (gS _ cn.low _ _ _ xs (R.mem M4)) ?_)
   rintro v16 w16 ⟨rfl, hb16⟩
   have M16 := M4.callB hb16
   refine wq (bP (pa) dH rfl rfl hfa ((R.mem M16).below_len (aG aF hxa)) ((R.mem M16).someK (aG aF hxa))) rfl (wq (dN _ bO (R.mem M16) (aG aF hxa) rfl) rfl (aS fN M16 rfl rfl (fun b17 w17 M17 => (bG 1 _ bO M17 rfl rfl rfl rfl rfl (aR rfl) rfl (fun w18 M18 => ?_)))))
   refine aB (aC (aE (aA (dO rfl rfl (dO rfl rfl (wq (aD 0 fL rfl) rfl (wq (aD 1 jS rfl) rfl (wq (aM 0 (.int _ _) bW M18 rfl rfl rfl) rfl ?_))))))))
   refine bY sI rfl rfl (gS _ cn.high _ _ _ xs (R.mem M18)) ?_
   rintro v19 w19 ⟨rfl, hb19⟩
   have M19 := M18.callB hb19
   refine wq (bP (pb) dH rfl rfl hfb ((R.mem M19).below_len (aG aF hxb)) ((R.mem M19).someK (aG aF hxb))) rfl (wq (dN _ bO (R.mem M19) (aG aF hxb) rfl) rfl (aS fN M19 rfl rfl (fun b20 w20 M20 => (bG 2 _ bO M20 rfl rfl rfl rfl rfl (aR rfl) rfl (fun w21 M21 => ?_)))))
   refine aB (aC (aE (aA (wq (aX 0 eQ M21 rfl rfl rfl) rfl (wq (aX 1 bO M21 rfl rfl rfl) rfl (wq (aX 2 bO M21 rfl rfl rfl) rfl (bY bAs rfl rfl (tS _ cn xa xb hc.n hoa hob) ?_)))))))
   rintro v22 w22 ⟨rfl, hb22⟩
   have M22 := M21.callB hb22
   refine bI rfl rfl (aB (aC (aE (aA (wq (aD 2 gX rfl) rfl (wq (aD 0 cR rfl) rfl (wq (aM 0 (.int _ _) aT M22 rfl rfl rfl) rfl (bI rfl rfl ?_))))))))
   refine aB (aC (aE (aE (aA (wq (aH (.bool _) rfl) rfl (aB (aC ?_)))))))
   refine iG _ rfl (fun h70 => ?_) (fun h70 => ?_)
   ·refine aA (wq (aD 2 gX rfl) rfl (wq (aD 1 cO rfl) rfl (wq (aM 0 (.int _ _) aT M22 rfl rfl rfl) rfl (bI rfl rfl (aB (aC (aE (aA ?_))))))))
    refine aP rfl rfl (dO rfl rfl (aP rfl rfl (wq (bP (i) dH rfl rfl rfl ((R.mem M22).below_len (aG aF hxi)) ((R.mem M22).someK (aG aF hxi))) rfl (wq (bB 4 eH (R.mem M22) (Nat.lt_of_le_of_lt (Nat.zero_le _) ((R.mem M22).below_len (aG aF hxi))) rfl) rfl (wq (dY (o := 4) (.int _ _) aT (R.mem M22) (aG aF hxi) rfl rfl) rfl ?_)))))
    refine aP rfl rfl (aK 80 (.int .i32 (pW sec cn)) (iE (by rw [h70]; rfl)) (wC aJt rfl rfl rfl ?_))
    have hbm : 0 ≤ b.mass ∧ b.mass ≤ xa.mass + xb.mass := ⟨(hb b hbi).m.1, uI hs hma hmb hbi qa.1 qb.1 (by omega)⟩
    have hst := pS hc.n hoa hob hbm
    have hmq := (hb b hbi).m
    have hcr := (kK hst.2.2 hg).2.2
    have hjv : nG (kP cn xa xb) b.mass (pW sec cn) = nG (jV xs cn) b.mass (pW sec cn) := by unfold jV; rw [hba, hbb]
    refine (mZ _ (kP cn xa xb) b.mass (pW sec cn) ⟨hst.1, hst.2.1⟩ hmq hst.2.2 hg).mono ?_
    rintro _ w23 ⟨v23, rfl, ⟨rfl, hb23⟩⟩
    refine ⟨_, rfl, ?_⟩
    have M23 := M22.callB hb23
    refine bI rfl rfl (aB (aC (aE (bQ [(0, 0), (1, 0), (2, 1), (3, 0), (4, 0), (5, 1), (6, 1), (7, 1), (8, 0)] mixed rfl (by kernel_rfl) (fun w24 hb24 hh24 => ?_)))))
    have M24 := M23.drew hb24 hh24
    refine aV rfl rfl rfl (fun _ => aD 0 fL rfl) (aV rfl rfl rfl (fun _ => aD 0 gC rfl) (bS rfl rfl rfl (aM 0 (.int _ _) bW M24 rfl rfl rfl) (jP rfl rfl rfl (eF rfl rfl rfl (bS rfl rfl rfl (bP (i) dH rfl rfl rfl ((R.mem M24).below_len (aG aF hxi)) ((R.mem M24).someK (aG aF hxi))) ?_)))))
    refine bS rfl rfl rfl (bB 0 dL (R.mem M24) (Nat.lt_of_le_of_lt (Nat.zero_le _) ((R.mem M24).below_len (aG aF hxi))) rfl) (bS rfl rfl rfl (dY (o := 0) (.int _ _) bW (R.mem M24) (aG aF hxi) rfl rfl) (aV rfl rfl rfl (fun _ => bZ (.bool (decide _)) rfl rfl rfl) ?_))
    refine bX (aC ?_)
    refine aW rfl (fun h90 => ?_) (fun h90 => ?_)
    ·refine aA (aP rfl rfl (aP rfl rfl (wq (fU rfl rfl (by omega) (by omega)) rfl (bI rfl rfl (aB ?_)))))
     refine cV (aC (aA (aP rfl rfl (wq (aY rfl rfl (by omega) (by omega)) rfl (bI rfl rfl (aB ?_))))))
     refine cG (k + 1) (bA (iE (by rw [jU hcn]; unfold ctr; rw [if_pos (by omega), ← hjv]; omega)) (bA rfl eB)) (cN rfl (cN rfl (cN rfl (cN rfl (cN rfl gV))))) ?_ ?_
     ·exact ⟨by omega, M24.keep [false, false, false]⟩
     ·(show mc - (k + 1) < mc - k; omega)
    ·refine aA (aP rfl rfl (aP rfl rfl (wq (aY rfl rfl (by omega) (by omega)) rfl (bI rfl rfl (aB ?_)))))
     refine cV (aC (aA (aP rfl rfl (wq (aY rfl rfl (by omega) (by omega)) rfl (bI rfl rfl (aB ?_))))))
     refine cG (k + 1) (bA (iE (by rw [jU hcn]; unfold ctr; rw [if_neg (by omega), if_pos (by omega), ← hjv])) (bA rfl eB)) (cN rfl (cN rfl (cN rfl (cN rfl (cN rfl gV))))) ?_ ?_
     ·exact ⟨by omega, M24.keep [false, false, false]⟩
     ·(show mc - (k + 1) < mc - k; omega)
   ·refine aL (aC (aE (aA (aP rfl rfl (dO rfl rfl (aP rfl rfl (wq (bP (i) dH rfl rfl rfl ((R.mem M22).below_len (aG aF hxi)) ((R.mem M22).someK (aG aF hxi))) rfl (wq (bB 4 eH (R.mem M22) (Nat.lt_of_le_of_lt (Nat.zero_le _) ((R.mem M22).below_len (aG aF hxi))) rfl) rfl ?_))))))))
    refine wq (dY (o := 4) (.int _ _) aT (R.mem M22) (aG aF hxi) rfl rfl) rfl (aP rfl rfl (aK 80 (.int .i32 (pW sec cn)) (iE (by rw [h70]; rfl)) (wC aJt rfl rfl rfl ?_)))
    have hbm : 0 ≤ b.mass ∧ b.mass ≤ xa.mass + xb.mass := ⟨(hb b hbi).m.1, uI hs hma hmb hbi qa.1 qb.1 (by omega)⟩
    have hst := pS hc.n hoa hob hbm
    have hmq := (hb b hbi).m
    have hcr := (kK hst.2.2 hg).2.2
    have hjv : nG (kP cn xa xb) b.mass (pW sec cn) = nG (jV xs cn) b.mass (pW sec cn) := by unfold jV; rw [hba, hbb]
    refine (mZ _ (kP cn xa xb) b.mass (pW sec cn) ⟨hst.1, hst.2.1⟩ hmq hst.2.2 hg).mono ?_
    rintro _ w25 ⟨v25, rfl, ⟨rfl, hb25⟩⟩
    refine ⟨_, rfl, ?_⟩
    have M25 := M22.callB hb25
    refine bI rfl rfl (aB (aC (aE (bQ [(0, 0), (1, 0), (2, 1), (3, 0), (4, 0), (5, 1), (6, 1), (7, 1), (8, 0)] mixed rfl (by kernel_rfl) (fun w26 hb26 hh26 => ?_)))))
    have M26 := M25.drew hb26 hh26
    refine aV rfl rfl rfl (fun _ => aD 0 fL rfl) (aV rfl rfl rfl (fun _ => aD 0 gC rfl) (bS rfl rfl rfl (aM 0 (.int _ _) bW M26 rfl rfl rfl) (jP rfl rfl rfl (eF rfl rfl rfl (bS rfl rfl rfl (bP (i) dH rfl rfl rfl ((R.mem M26).below_len (aG aF hxi)) ((R.mem M26).someK (aG aF hxi))) ?_)))))
    refine bS rfl rfl rfl (bB 0 dL (R.mem M26) (Nat.lt_of_le_of_lt (Nat.zero_le _) ((R.mem M26).below_len (aG aF hxi))) rfl) (bS rfl rfl rfl (dY (o := 0) (.int _ _) bW (R.mem M26) (aG aF hxi) rfl rfl) (aV rfl rfl rfl (fun _ => bZ (.bool (decide _)) rfl rfl rfl) ?_))
    refine bX (aC ?_)
    refine aW rfl (fun h90 => ?_) (fun h90 => ?_)
    ·refine aA (aP rfl rfl (aP rfl rfl (wq (fU rfl rfl (by omega) (by omega)) rfl (bI rfl rfl (aB ?_)))))
     refine cV (aC (aA (aP rfl rfl (wq (aY rfl rfl (by omega) (by omega)) rfl (bI rfl rfl (aB ?_))))))
     refine cG (k + 1) (bA (iE (by rw [jU hcn]; unfold ctr; rw [if_pos (by omega), ← hjv]; omega)) (bA rfl eB)) (cN rfl (cN rfl (cN rfl (cN rfl (cN rfl gV))))) ?_ ?_
     ·exact ⟨by omega, M26.keep [false, false, false]⟩
     ·(show mc - (k + 1) < mc - k; omega)
    ·refine aA (aP rfl rfl (aP rfl rfl (wq (aY rfl rfl (by omega) (by omega)) rfl (bI rfl rfl (aB ?_)))))
     refine cV (aC (aA (aP rfl rfl (wq (aY rfl rfl (by omega) (by omega)) rfl (bI rfl rfl (aB ?_))))))
     refine cG (k + 1) (bA (iE (by rw [jU hcn]; unfold ctr; rw [if_neg (by omega), if_pos (by omega), ← hjv])) (bA rfl eB)) (cN rfl (cN rfl (cN rfl (cN rfl (cN rfl gV))))) ?_ ?_
     ·exact ⟨by omega, M26.keep [false, false, false]⟩
     ·(show mc - (k + 1) < mc - k; omega)
 ·have hkn : k = mc := by omega
  refine cX (dF (dK (eS (aC (aE (aA (aP rfl rfl ?_)))))))
  refine bI rfl rfl (aB (aC (aO (cD (.int _ _) rfl ?_))))
  exact ⟨iE (by rw [List.take_of_length_le (by omega)]), hM1.below⟩
set_option maxHeartbeats 8000000 in
theorem aNk (w : World) (A : Option Addr) (n c : Nat) (xs : List Body) (R : Rd w 10 A n (xs.map aF)) (hs : cW xs) (hb : ∀ b ∈ xs, Okb b) (hn : n ≤ 1048576) (B : Option Addr) (mc c' : Nat) (cs : List Con) (R' : Rd w 5 B mc (cs.map cH)) (hcs : ∀ c ∈ cs, OkC xs c) (hmc : mc ≤ 8589934592) :
  Calls Tryz.prog 155 #[.slice A n c, .slice B mc c'] w (fun ex w' => ∃ v, ex = .returned v ∧ (fun v w' => ∃ r : Row, v = .tuple #[.slice r.A r.n r.c, .bool (aRo xs cs)] ∧ bC 39 10 r.A r.n r.c ((aEp xs cs).map aF) r.e ∧ Mem w [] [r.e] w') v w') := by
 have hlen : xs.length = n := by simpa using R.len
 have hbd := R.bound
 have hclen : cs.length = mc := by simpa using R'.len
 have hbd' := R'.bound
 refine aI #[.tmp 4, .tmp 5] 77 Tryz.func155 rfl Tryz.results155 Tryz.ntmps155 rfl ?_
 have M0 := Mem.refl w
 refine aE (aA (eM rfl rfl (wq (aJ (.bool false) rfl) rfl (aB (aC (aE (aA (eM rfl rfl ?_))))))))
 have M1 := M0.dummy default
 refine aB (aC (aE (aA (wq (aJ (.bool false) rfl) rfl (aB (aC (aE (aE (aA (bI rfl rfl (aB (aC (aQ (dS (σ := Nat × Row) [0, 1, 4, 5] (fun (k, q) => [(6, .slice q.A q.n q.c), (7, .bool ((xs.take k).any (aPn xs cs))), (8, .int .i64 (k : Int))]) (fun (k, q) w' => (k ≤ n ∧ bC 39 10 q.A q.n q.c (((xs.take k).map (vX xs cs)).map aF) q.e) ∧ Mem w [] [q.e] w') (fun (k, q) => n - k) (0, gT) (bA rfl (bA (bv rfl rfl) (bA rfl eB))) (⟨⟨by omega, bC.nil _ _ _⟩, M1⟩) ?_))))))))))))))
 rintro ⟨k, q⟩ ρ2 w2 ⟨⟨hk, hq⟩, hM2⟩
 have htl := List.length_take_le k xs
 have hqn : (xs.take k).length = q.n := by simpa using hq.1
 refine aE (aE (aA (aP rfl rfl (dO rfl rfl (wq (dC Tryz.underlying29 rfl) rfl (cZ rfl rfl rfl rfl (aB (aC ?_))))))))
 refine aW rfl (fun h15 => ?_) (fun h15 => ?_)
 ·obtain ⟨xb, hxb⟩ := cS (xs := xs) (k := k) hlen (by omega)
  have hxm := List.mem_of_getElem? hxb
  have hsb := aSt hs hb hcs hclen hmc hxm
  have hvb := (hb xb hxm).v
  have hlx := eP (xb.vx + gW xs cs (·.nx) xb) (l := 16777216) (by decide)
  have hly := eP (xb.vy + gW xs cs (·.ny) xb) (l := 16777216) (by decide)
  refine aL (aC (aE (aQ (aE (bQ [(0, 0), (1, 0), (2, 1), (3, 1), (4, 1), (5, 1), (6, 0), (7, 0), (8, 0), (9, 0), (10, 2), (11, 0), (12, 0)] mixed rfl (by kernel_rfl) (fun w3 hb3 hh3 => ?_))))))
  have M3 := hM2.drew hb3 hh3
  refine jP rfl rfl rfl (eF rfl rfl rfl (bS rfl rfl rfl (bP (k) dH rfl rfl rfl ((R.mem M3).below_len (aG aF hxb)) ((R.mem M3).someK (aG aF hxb))) (bS rfl rfl rfl (bB 8 dV (R.mem M3) (Nat.lt_of_le_of_lt (Nat.zero_le _) ((R.mem M3).below_len (aG aF hxb))) rfl) ?_)))
  refine bS rfl rfl rfl (bB 0 cR (R.mem M3) (Nat.lt_of_le_of_lt (Nat.zero_le _) ((R.mem M3).below_len (aG aF hxb))) rfl) (bS rfl rfl rfl (dY (o := 8) (.int _ _) aT (R.mem M3) (aG aF hxb) rfl rfl) (aV rfl rfl rfl (fun _ => aZ dQ Tryz.underlying2 rfl (fH _ (by omega) (by omega))) ?_))
  refine jP rfl rfl rfl (jP rfl rfl rfl (eF rfl rfl rfl (dT [false, false, false, false] rfl (by kernel_rfl) (bY aYs rfl rfl (aHs _ A n c xs (R.mem M3) hs hb hn B mc c' cs (R'.mem M3) hcs hmc k xb hxb false) ?_))))
  rintro v4 w4 ⟨rfl, hb4⟩
  have M4 := M3.callB hb4
  refine aB (aC ⟨(dZ (bM rfl (dY (o := 8) (.int _ _) aT (R.mem M4) (aG aF hxb) rfl rfl)) (dZ (bM rfl (bB 0 cR (R.mem M4) (Nat.lt_of_le_of_lt (Nat.zero_le _) ((R.mem M4).below_len (aG aF hxb))) rfl)) (dZ (bM rfl (bB 8 dV (R.mem M4) (Nat.lt_of_le_of_lt (Nat.zero_le _) ((R.mem M4).below_len (aG aF hxb))) rfl)) (dZ (bM rfl (bP (k) dH rfl rfl rfl ((R.mem M4).below_len (aG aF hxb)) ((R.mem M4).someK (aG aF hxb)))) dU)))), ?_⟩)
  refine dX 28 (.int .i64 (gW xs cs (·.nx) xb)) rfl (aV rfl rfl rfl (fun _ => aY rfl rfl (by omega) (by omega)) (mA rfl rfl rfl (bX (aC (aE (bQ [(0, 0), (1, 0), (2, 1), (3, 1), (4, 1), (5, 1), (6, 0), (7, 0), (8, 0), (9, 0), (10, 2), (11, 0), (12, 0)] mixed rfl (by kernel_rfl) (fun w5 hb5 hh5 => ?_)))))))
  have M5 := M4.drew hb5 hh5
  refine jP rfl rfl rfl (eF rfl rfl rfl (bS rfl rfl rfl (bP (k) dH rfl rfl rfl ((R.mem M5).below_len (aG aF hxb)) ((R.mem M5).someK (aG aF hxb))) (bS rfl rfl rfl (bB 8 dV (R.mem M5) (Nat.lt_of_le_of_lt (Nat.zero_le _) ((R.mem M5).below_len (aG aF hxb))) rfl) ?_)))
  refine bS rfl rfl rfl (bB 1 cO (R.mem M5) (Nat.lt_of_le_of_lt (Nat.zero_le _) ((R.mem M5).below_len (aG aF hxb))) rfl) (bS rfl rfl rfl (dY (o := 9) (.int _ _) aT (R.mem M5) (aG aF hxb) rfl rfl) (aV rfl rfl rfl (fun _ => aZ dQ Tryz.underlying2 rfl (fH _ (by omega) (by omega))) ?_))
  refine jP rfl rfl rfl (jP rfl rfl rfl (eF rfl rfl rfl (dT [false, false, false, false] rfl (by kernel_rfl) (bY aYs rfl rfl (aHs _ A n c xs (R.mem M5) hs hb hn B mc c' cs (R'.mem M5) hcs hmc k xb hxb true) ?_))))
  rintro v6 w6 ⟨rfl, hb6⟩
  have M6 := M5.callB hb6
  refine aB (aC ⟨(dZ (bM rfl (dY (o := 9) (.int _ _) aT (R.mem M6) (aG aF hxb) rfl rfl)) (dZ (bM rfl (bB 1 cO (R.mem M6) (Nat.lt_of_le_of_lt (Nat.zero_le _) ((R.mem M6).below_len (aG aF hxb))) rfl)) (dZ (bM rfl (bB 8 dV (R.mem M6) (Nat.lt_of_le_of_lt (Nat.zero_le _) ((R.mem M6).below_len (aG aF hxb))) rfl)) (dZ (bM rfl (bP (k) dH rfl rfl rfl ((R.mem M6).below_len (aG aF hxb)) ((R.mem M6).someK (aG aF hxb)))) dU)))), ?_⟩)
  refine dX 40 (.int .i64 (gW xs cs (·.ny) xb)) rfl (aV rfl rfl rfl (fun _ => aY rfl rfl (by omega) (by omega)) (mA rfl rfl rfl (bX (aC (aE (aA (dO rfl rfl ?_)))))))
  refine aP rfl rfl (wq (bP (k) dH rfl rfl rfl ((R.mem M6).below_len (aG aF hxb)) ((R.mem M6).someK (aG aF hxb))) rfl (wq (dN _ bO (R.mem M6) (aG aF hxb) rfl) rfl (aS fN M6 rfl rfl (fun b7 w7 M7 => (bG 1 _ bO M7 rfl rfl rfl rfl rfl (aR rfl) rfl (fun w8 M8 => ?_))))))
  refine aB (aC (aE (aA (aP rfl rfl (bY wF rfl rfl (kB _ (xb.vx + gW xs cs (·.nx) xb) 16777216 ⟨by decide, by decide⟩) ?_)))))
  rintro v9 w9 ⟨rfl, hb9⟩
  have M9 := M8.callB hb9
  refine wq (aZ lW Tryz.underlying21 rfl (iW _ (by omega) (by omega))) rfl (aP rfl rfl (bY wF rfl rfl (kB _ (xb.vy + gW xs cs (·.ny) xb) 16777216 ⟨by decide, by decide⟩) ?_))
  rintro v10 w10 ⟨rfl, hb10⟩
  have M10 := M9.callB hb10
  refine wq (aZ lW Tryz.underlying21 rfl (iW _ (by omega) (by omega))) rfl (wq (cC [(0, .int _ _), (1, .int _ _)] _ eK rfl rfl) rfl (wq (aD 8 dV rfl) rfl (sO 1 _ bL M10 rfl rfl rfl rfl rfl (aR rfl) (Nat.le_of_ble_eq_true rfl) (fun w11 M11 => (aB (aC (aE (aA ?_))))))))
  refine wq (aH (.bool _) rfl) rfl (wq (aH (.bool _) rfl) rfl ?_)
  refine jR 55 _ rfl (fun g55 => ?_) (fun g55 => ?_)
  ·refine aN rfl rfl (aN rfl rfl (aN rfl rfl (aN rfl rfl (aN rfl rfl (aN rfl rfl ?_)))))
   refine wq (bR true (.bool true) rfl rfl) rfl (wq (aH (.bool true) rfl) rfl (aN rfl rfl (aN rfl rfl (aN rfl rfl (aN rfl rfl ?_)))))
   refine aN rfl rfl (aN rfl rfl (wq (bR true (.bool true) rfl rfl) rfl (wq (aJ (.bool true) rfl) rfl (aB (aC (aA (dO rfl rfl ?_)))))))
   refine wq (aX 1 bO M11 rfl rfl rfl) rfl (cT [.agg (List.toArray _)] [aF (vX xs cs xb)] rfl dH M11 rfl rfl rfl rfl (dG rfl) (by decide) (fun b12 w12 M12 => (dJ 0 [aF (vX xs cs xb)] dH M12 rfl rfl rfl rfl rfl hq rfl (by simp [aF, Go.Bil.one]) (dW.ofMem 2 M12 rfl) (by omega) (fun A13 c13 e13 w13 M13 hR13 => ?_))))
   refine eM rfl rfl (aB (cV (aC (aA (aP rfl rfl (wq (aY rfl rfl (by omega) (by omega)) rfl ?_))))))
   refine bI rfl rfl (aB ?_)
   refine cG (k + 1, ⟨A13, q.n + 1, c13, e13⟩) (bA rfl (bA (bv rfl (by rw [cP hxb, List.any_append, List.any_cons, List.any_nil, Bool.or_false]; rw [g55, Bool.true_or])) (bA rfl eB))) (cN rfl (cN rfl (cN rfl (cN rfl gV)))) ?_ ?_
   ·exact ⟨⟨by omega, by rw [cP hxb, List.map_append, List.map_append]; exact hR13⟩, M13.keep [true, false, false]⟩
   ·(show n - (k + 1) < n - k; omega)
  ·refine wq (aD 8 dV rfl) rfl (wq (aD 0 cR rfl) rfl (wq (aM 1 (.int _ _) aT M11 rfl rfl rfl) rfl (wq (aZ dQ Tryz.underlying2 rfl (fH _ (by omega) (by omega))) rfl (aP rfl rfl (cZ rfl rfl rfl rfl ?_)))))
   refine wq (bR false (.bool (decide _)) rfl rfl) rfl (wq (aH (.bool (decide _)) rfl) rfl ?_)
   refine dM 63 rfl (fun g63 => ?_) (fun g63 => ?_)
   ·refine aN rfl rfl (aN rfl rfl (aN rfl rfl (aN rfl rfl (aN rfl rfl (aN rfl rfl ?_)))))
    refine wq (bR true (.bool true) rfl rfl) rfl (wq (aJ (.bool true) rfl) rfl (aB (aC (aA (dO rfl rfl (wq (aX 1 bO M11 rfl rfl rfl) rfl (cT [.agg (List.toArray _)] [aF (vX xs cs xb)] rfl dH M11 rfl rfl rfl rfl (dG rfl) (by decide) (fun b14 w14 M14 => ?_))))))))
    refine dJ 0 [aF (vX xs cs xb)] dH M14 rfl rfl rfl rfl rfl hq rfl (by simp [aF, Go.Bil.one]) (dW.ofMem 2 M14 rfl) (by omega) (fun A15 c15 e15 w15 M15 hR15 => (eM rfl rfl (aB (cV (aC (aA (aP rfl rfl ?_)))))))
    refine wq (aY rfl rfl (by omega) (by omega)) rfl (bI rfl rfl (aB ?_))
    refine cG (k + 1, ⟨A15, q.n + 1, c15, e15⟩) (bA rfl (bA (bv rfl (by rw [cP hxb, List.any_append, List.any_cons, List.any_nil, Bool.or_false]; rw [g55]; simp [aPn, g63])) (bA rfl eB))) (cN rfl (cN rfl (cN rfl (cN rfl gV)))) ?_ ?_
    ·exact ⟨⟨by omega, by rw [cP hxb, List.map_append, List.map_append]; exact hR15⟩, M15.keep [true, false, false]⟩
    ·(show n - (k + 1) < n - k; omega)
   ·refine wq (aD 8 dV rfl) rfl (wq (aD 1 cO rfl) rfl (wq (aM 1 (.int _ _) aT M11 rfl rfl rfl) rfl (wq (aZ dQ Tryz.underlying2 rfl (fH _ (by omega) (by omega))) rfl (aP rfl rfl (cZ rfl rfl rfl rfl ?_)))))
    refine wq (bR false (.bool (decide _)) rfl rfl) rfl (wq (aJ (.bool (decide _)) rfl) rfl (aB (aC (aA (dO rfl rfl (wq (aX 1 bO M11 rfl rfl rfl) rfl (cT [.agg (List.toArray _)] [aF (vX xs cs xb)] rfl dH M11 rfl rfl rfl rfl (dG rfl) (by decide) (fun b16 w16 M16 => ?_))))))))
    refine dJ 0 [aF (vX xs cs xb)] dH M16 rfl rfl rfl rfl rfl hq rfl (by simp [aF, Go.Bil.one]) (dW.ofMem 2 M16 rfl) (by omega) (fun A17 c17 e17 w17 M17 hR17 => (eM rfl rfl (aB (cV (aC (aA (aP rfl rfl ?_)))))))
    refine wq (aY rfl rfl (by omega) (by omega)) rfl (bI rfl rfl (aB ?_))
    refine cG (k + 1, ⟨A17, q.n + 1, c17, e17⟩) (bA rfl (bA (bv rfl (by rw [cP hxb, List.any_append, List.any_cons, List.any_nil, Bool.or_false]; rw [g55]; simp [aPn, g63])) (bA rfl eB))) (cN rfl (cN rfl (cN rfl (cN rfl gV)))) ?_ ?_
    ·exact ⟨⟨by omega, by rw [cP hxb, List.map_append, List.map_append]; exact hR17⟩, M17.keep [true, false, false]⟩
    ·(show n - (k + 1) < n - k; omega)
 ·have hkn : k = n := by omega
  rw [List.take_of_length_le (by omega)] at hq
  refine cX (dF (dK (eS (aC (aE (aA (dO rfl rfl ?_)))))))
  refine wq (aH (.bool _) rfl) rfl (eM rfl rfl (wq (aJ (.bool _) rfl) rfl (aB (aC (aO (gA (.slice _ _ _) (.bool _) rfl rfl ?_))))))
  exact ⟨q, tP rfl (congrArg Value.bool (by rw [List.take_of_length_le (by omega)]; rfl)), hq, hM2⟩
set_option maxHeartbeats 4000000 in
theorem aNv (w : World) (A : Option Addr) (n c : Nat) (xs : List Body) (R : Rd w 10 A n (xs.map aF)) (hs : cW xs) (hb : ∀ b ∈ xs, Okb b) (hn : n ≤ 1048576) (B : Option Addr) (mc c' : Nat) (cs : List Con) (R' : Rd w 5 B mc (cs.map cH)) (hcs : ∀ c ∈ cs, OkC xs c) (hmc : mc ≤ 8589934592) :
  Calls Tryz.prog 130 #[.slice A n c, .slice B mc c'] w (fun ex w' => ∃ v, ex = .returned v ∧ (fun v w' => ∃ r : Row, v = .tuple #[.slice r.A r.n r.c, .bool (gR xs cs 4).2] ∧ bC 39 10 r.A r.n r.c (((gR xs cs 4).1).map aF) r.e ∧ Mem w [] [r.e] w') v w') := by
 have hlen : xs.length = n := by simpa using R.len
 have hbd := R.bound
 have hclen : cs.length = mc := by simpa using R'.len
 have hbd' := R'.bound
 refine aI #[.tmp 4, .tmp 5] 27 Tryz.func130 rfl Tryz.results130 Tryz.ntmps130 rfl ?_
 have M0 := Mem.refl w
 refine aE (aA (eM rfl rfl (wq (aJ (.bool false) rfl) rfl (aB (aC (aE (aA (wq (aJ (.bool false) rfl) rfl ?_))))))))
 have M1 := M0.dummy default
 refine aB (aC (aE (aE (aA (bI rfl rfl (aB (aC (aQ (dS (σ := Nat × Row) [1, 4, 5] (fun (k, q) => [(0, .slice q.A q.n q.c), (6, .bool (gR xs cs k).2), (7, .int .i64 (k : Int))]) (fun (k, q) w' => (k ≤ 4 ∧ Rd w' 10 q.A q.n ((gR xs cs k).1.map aF) ∧ (0 < k → bC 39 10 q.A q.n q.c (((gR xs cs k).1).map aF) q.e)) ∧ Mem w [] [q.e] w') (fun (k, q) => 4 - k) (0, ⟨A, n, c, (none, default)⟩) (bA rfl (bA (bv rfl rfl) (bA rfl eB))) (⟨⟨by omega, R.mem M1, (fun h => absurd h (by omega))⟩, M1⟩) ?_)))))))))
 rintro ⟨k, q⟩ ρ2 w2 ⟨⟨hk, hRq, hq⟩, hM2⟩
 have hql : (gR xs cs k).1.length = q.n := by simpa using hRq.len
 have hsl := (iY xs cs k).len
 refine aE (aE (aA (aP rfl rfl (cZ rfl rfl rfl rfl (aB (aC ?_))))))
 refine aW rfl (fun h11 => ?_) (fun h11 => ?_)
 ·refine aL (aC (aE (aQ (aE (aA (dO rfl rfl (dO rfl rfl (bY bKp rfl rfl (aNk _ q.A q.n q.c (gR xs cs k).1 hRq ((iY xs cs k).sorted hs) (qV hb k) (by omega) B mc c' cs (R'.mem hM2) (fun c h => (iY xs cs k).okc (hcs c h)) hmc) ?_))))))))
  rintro v3 w3 ⟨r, rfl, hr, hM3⟩
  have M3 : Mem _ _ [_, _] _ := hM2.call0 hM3
  refine wq (aH (.tuple (List.toArray _)) rfl) rfl (wq (bN (.slice _ _ _) rfl rfl) rfl (wq (bN (.bool _) rfl rfl) rfl (eM rfl rfl (wq (aJ (.bool _) rfl) rfl (aB (aC (aE (aA ?_))))))))
  refine dO rfl rfl (eM rfl rfl (aB (aC (aA (wq (aH (.bool _) rfl) rfl (wq (aH (.bool _) rfl) rfl ?_))))))
  refine jR 22 _ rfl (fun g22 => ?_) (fun g22 => ?_)
  ·refine aN rfl rfl (wq (bR true (.bool true) rfl rfl) rfl (wq (aJ (.bool true) rfl) rfl (aB (cV (aC (aA ?_))))))
   refine aP rfl rfl (wq (aY rfl rfl (by omega) (by omega)) rfl (bI rfl rfl (aB ?_)))
   refine cG (k + 1, r) (bA rfl (bA (bv rfl (by show true = (_ || _); rw [g22, Bool.true_or])) (bA rfl eB))) (cN rfl (cN rfl (cN rfl gV))) ?_ ?_
   ·exact ⟨⟨by omega, hr.rd M3 (bH (i := 1) rfl), (fun _ => hr)⟩, M3.keep [false, true]⟩
   ·(show 4 - (k + 1) < 4 - k; omega)
  ·refine wq (aH (.bool _) rfl) rfl (wq (bR false (.bool _) rfl rfl) rfl (wq (aJ (.bool _) rfl) rfl (aB (cV (aC (aA ?_))))))
   refine aP rfl rfl (wq (aY rfl rfl (by omega) (by omega)) rfl (bI rfl rfl (aB ?_)))
   refine cG (k + 1, r) (bA rfl (bA (bv rfl (by show _ = (_ || _); rw [g22, Bool.false_or])) (bA rfl eB))) (cN rfl (cN rfl (cN rfl gV))) ?_ ?_
   ·exact ⟨⟨by omega, hr.rd M3 (bH (i := 1) rfl), (fun _ => hr)⟩, M3.keep [false, true]⟩
   ·(show 4 - (k + 1) < 4 - k; omega)
 ·have hk4 : k = 4 := by omega
  rw [hk4] at hq
  refine cX (dF (dK (eS (aC (aE (aA (dO rfl rfl ?_)))))))
  refine wq (aH (.bool _) rfl) rfl (eM rfl rfl (wq (aJ (.bool _) rfl) rfl (aB (aC (aO (gA (.slice _ _ _) (.bool _) rfl rfl ?_))))))
  exact ⟨q, tP rfl (congrArg Value.bool (by rw [hk4])), hq (by omega), hM2⟩
set_option maxHeartbeats 4000000 in
theorem aKm (w : World) (c : Con) (a b : Body) (hc : Okn c) (ha : Okb a) (hb : Okb b) :
  Calls Tryz.prog 179 #[.agg (cH c).toArray, (.agg (aF a).toArray), (.agg (aF b).toArray)] w (fun ex w' => ∃ v, ex = .returned v ∧ (fun v w' => v = .int .i64 (oY c a b) ∧ Below w.heap.size w w') v w') := by
 have hdp := hc.d
 have hm1 := ha.m
 have hm2 := hb.m
 refine aI #[.tmp 6] 24 Tryz.func179 rfl Tryz.results179 Tryz.ntmps179 rfl ?_
 have M0 := Mem.refl w
 refine aE (aA (bK (.agg (List.toArray _)) M0 rfl rfl rfl (fun b1 w1 M1 => (bK (.agg (List.toArray _)) M1 rfl rfl rfl (fun b2 w2 M2 => (bK (.agg (List.toArray _)) M2 rfl rfl rfl (fun b3 w3 M3 => (bI rfl rfl (aB (aC (aE (aE (aA ?_)))))))))))))
 refine wq (aD 4 aDh rfl) rfl (wq (aM 0 (.int _ _) aT M3 rfl rfl rfl) rfl (cZ rfl rfl rfl rfl (wq (aH (.bool (decide _)) rfl) rfl ?_)))
 refine dM 10 rfl (fun g10 => ?_) (fun g10 => ?_)
 ·refine aN rfl rfl (aN rfl rfl (aN rfl rfl (aN rfl rfl (aN rfl rfl (aN rfl rfl ?_)))))
  refine wq (bR true (.bool true) rfl rfl) rfl (aB (aC (cF rfl (aE (aA (bI rfl rfl (aB (aC (aO (cM ?_))))))))))
  refine cD (.int _ _) rfl ?_
  exact ⟨iE (by unfold oY; rw [if_pos (by omega)]), M3.below⟩
 ·refine wq (aD 4 eH rfl) rfl (wq (aM 1 (.int _ _) aT M3 rfl rfl rfl) rfl (wq (aD 4 eH rfl) rfl (wq (aM 2 (.int _ _) aT M3 rfl rfl rfl) rfl (wq (iU rfl rfl (iW _ (by omega) (by omega))) rfl (cZ rfl rfl rfl rfl ?_)))))
  refine wq (bR false (.bool (decide _)) rfl rfl) rfl (aB (aC ?_))
  refine aW rfl (fun h17 => ?_) (fun h17 => ?_)
  ·refine aE (aA (bI rfl rfl (aB (aC (aO (cM (cD (.int _ _) rfl ?_)))))))
   exact ⟨iE (by unfold oY; rw [if_pos (by omega)]), M3.below⟩
  ·refine aL (aC (aE (aA (wq (aD 4 aDh rfl) rfl (wq (aM 0 (.int _ _) aT M3 rfl rfl rfl) rfl (wq (aZ dQ Tryz.underlying2 rfl (fH _ (by omega) (by omega))) rfl (wq (fU rfl rfl (by omega) (by omega)) rfl (wq (fB rfl rfl (by omega) (by omega)) rfl ?_))))))))
   refine bY kW rfl rfl (fA _ ((c.depth - 1024) * 26214) 65536 (by decide) (by omega) (by omega)) ?_
   rintro v4 w4 ⟨rfl, hb4⟩
   have M4 := M3.callB hb4
   refine bI rfl rfl (aB (aC (aO (cD (.int _ _) rfl ?_))))
   exact ⟨iE (by unfold oY; rw [if_neg (by omega)]), M4.below⟩
set_option maxHeartbeats 4000000 in
theorem aBc (w : World) (c : Con) (a b : Body) (hc : Okn c) (ha : Okb a) (hb : Okb b) (m : Int) (hm : 0 ≤ m ∧ m ≤ 1048576) :
  Calls Tryz.prog 156 #[.agg (cH c).toArray, (.agg (aF a).toArray), (.agg (aF b).toArray), .int .i32 m] w (fun ex w' => ∃ v, ex = .returned v ∧ (fun v w' => v = .int .i64 (pY c a b m) ∧ Below w.heap.size w w') v w') := by
 have hdp := hc.d
 have hm1 := ha.m
 have hm2 := hb.m
 have hsr := aSr (a := a) (b := b) hc hm
 have har := aCb (a := a) (b := b) hc
 refine aI #[.tmp 8] 28 Tryz.func156 rfl Tryz.results156 Tryz.ntmps156 rfl ?_
 have M0 := Mem.refl w
 refine aE (aA (bK (.agg (List.toArray _)) M0 rfl rfl rfl (fun b1 w1 M1 => (bK (.agg (List.toArray _)) M1 rfl rfl rfl (fun b2 w2 M2 => (bK (.agg (List.toArray _)) M2 rfl rfl rfl (fun b3 w3 M3 => (bI rfl rfl (aB (aC (aE (aA ?_))))))))))))
 refine wq (aX 0 eQ M3 rfl rfl rfl) rfl (wq (aX 1 bO M3 rfl rfl rfl) rfl (wq (aX 2 bO M3 rfl rfl rfl) rfl (bY bKw rfl rfl (aKm _ c a b hc ha hb) ?_)))
 rintro v4 w4 ⟨rfl, hb4⟩
 have M4 := M3.callB hb4
 refine bI rfl rfl (aB (aC (aE (aE (aA (aP rfl rfl (cZ rfl rfl rfl rfl (aB (aC ?_)))))))))
 refine aW rfl (fun h15 => ?_) (fun h15 => ?_)
 ·refine aE (aA (bI rfl rfl (aB (aC (aO (cM (cD (.int _ _) rfl ?_)))))))
  exact ⟨iE (by unfold pY; rw [h15]; simp), M4.below⟩
 ·have hsp : 0 < a.mass + b.mass := by unfold oY at h15; split at h15 <;> omega
  have hmx : max 1 (a.mass + b.mass) = a.mass + b.mass := by omega
  refine aL (aC (aE (aA (aP rfl rfl (aP rfl rfl (wq (aZ dQ Tryz.underlying2 rfl (fH _ (by omega) (by omega))) rfl (wq (fB rfl rfl (by omega) (by omega)) rfl (wq (aD 4 eH rfl) rfl ?_))))))))
  refine wq (aM 1 (.int _ _) aT M4 rfl rfl rfl) rfl (wq (aZ dQ Tryz.underlying2 rfl (fH _ (by omega) (by omega))) rfl (wq (aD 4 eH rfl) rfl (wq (aM 2 (.int _ _) aT M4 rfl rfl rfl) rfl (wq (aZ dQ Tryz.underlying2 rfl (fH _ (by omega) (by omega))) rfl (wq (aY rfl rfl (by omega) (by omega)) rfl ?_)))))
  refine bY kW rfl rfl (fA _ (oY c a b * m) (a.mass + b.mass) hsp (by omega) (by omega)) ?_
  rintro v5 w5 ⟨rfl, hb5⟩
  have M5 := M4.callB hb5
  refine bI rfl rfl (aB (aC (aO (cD (.int _ _) rfl ?_))))
  exact ⟨iE (by unfold pY; rw [hmx]), M5.below⟩
set_option maxHeartbeats 16000000 in
theorem aJn (w : World) (A : Option Addr) (n c : Nat) (xs : List Body) (R : Rd w 10 A n (xs.map aF)) (hs : cW xs) (hb : ∀ b ∈ xs, Okb b) (hn : n ≤ 1048576) (B : Option Addr) (mc c' : Nat) (cs : List Con) (R' : Rd w 5 B mc (cs.map cH)) (hcs : ∀ c ∈ cs, OkC xs c) (hmc : mc ≤ 1073741824) :
  Calls Tryz.prog 132 #[.slice A n c, .slice B mc c'] w (fun ex w' => ∃ v, ex = .returned v ∧ (fun v w' => ∃ r : Row, v = .slice r.A r.n r.c ∧ bC 214 2 r.A r.n r.c ((xs.map (jT xs cs)).map cK) r.e ∧ Mem w [] [r.e] w') v w') := by
 have hlen : xs.length = n := by simpa using R.len
 have hbd := R.bound
 have hclen : cs.length = mc := by simpa using R'.len
 have hbd' := R'.bound
 refine aI #[.tmp 4] 118 Tryz.func132 rfl Tryz.results132 Tryz.ntmps132 rfl ?_
 have M0 := Mem.refl w
 refine aE (aA (eM rfl rfl (aB (aC (aE (aA (eM rfl rfl ?_)))))))
 have M1 := M0.dummy default
 refine aB (aC (aE (aE (aA (bI rfl rfl (aB (aC (aQ (dS (σ := Nat × Row) [0, 1, 4] (fun (i, q) => [(5, .slice q.A q.n q.c), (6, .int .i64 (i : Int))]) (fun (i, q) w' => (i ≤ n ∧ bC 214 2 q.A q.n q.c (((xs.take i).map (jT xs cs)).map cK) q.e) ∧ Mem w [] [q.e] w') (fun (i, q) => n - i) (0, gT) (bA rfl (bA rfl eB)) (⟨⟨by omega, bC.nil _ _ _⟩, M1⟩) ?_)))))))))
 rintro ⟨i, q⟩ ρ2 w2 ⟨⟨hi, hq⟩, hM2⟩
 have htl := List.length_take_le i xs
 have hqn : (xs.take i).length = q.n := by simpa using hq.1
 refine aE (aE (aA (aP rfl rfl (dO rfl rfl (wq (dC Tryz.underlying29 rfl) rfl (cZ rfl rfl rfl rfl (aB (aC ?_))))))))
 refine aW rfl (fun h18 => ?_) (fun h18 => ?_)
 ·obtain ⟨xb, hxb⟩ := cS (xs := xs) (k := i) hlen (by omega)
  have hbi := List.mem_of_getElem? hxb
  refine aL (aC (aE (aQ (aE (aA (aS bGb hM2 rfl rfl (fun b3 w3 M3 => (aB (aC (aE (aE (aA (bI rfl rfl (aB (aC (aQ (dS (σ := Nat) [0, 1, 4, 5, 6, 7] (fun k2 => [(8, .int .i64 (k2 : Int))]) (fun k2 w' => k2 ≤ mc ∧ Mem w [] [q.e, (some b3, bc [.int .i64 (uY xs (cs.take k2) (·.nx) xb), .int .i64 (uY xs (cs.take k2) (·.ny) xb)] 214)] w') (fun k2 => mc - k2) 0 (bA rfl eB) (⟨by omega, by rw [uJ, uJ]; exact M3⟩) ?_)))))))))))))))))
  rintro k2 ρ4 w4 ⟨hk2, hM4⟩
  have hsb := aBy hs hb hcs hclen hmc k2 hbi
  unfold jT at hsb
  simp only at hsb
  refine aE (aE (aA (aP rfl rfl (dO rfl rfl (wq (dC Tryz.underlying166 rfl) rfl (cZ rfl rfl rfl rfl (aB (aC ?_))))))))
  refine aW rfl (fun h24 => ?_) (fun h24 => ?_)
  ·obtain ⟨cn, hcn⟩ := cS (xs := cs) (k := k2) hclen (by omega)
   have hc := hcs cn (List.mem_of_getElem? hcn)
   have hne := hc.ne
   have hnx := hc.n.x
   have hny := hc.n.y
   obtain ⟨pa, xa, hxa, hka, hfa⟩ := tZ hc.l
   obtain ⟨pb, xb2, hxb2, hkb, hfb⟩ := tZ hc.h
   have hba := zM hxa hfa
   have hbb := zM hxb2 hfb
   have hma := List.mem_of_getElem? hxa
   have hmb := List.mem_of_getElem? hxb2
   have hoa := hb xa hma
   have hob := hb xb2 hmb
   have qa := hoa.m
   have qb := hob.m
   refine aL (aC (aE (aQ (aE (aA (dO rfl rfl (aP rfl rfl (wq (bP (k2) sK rfl rfl rfl ((R'.mem hM4).below_len (aG cH hcn)) ((R'.mem hM4).someK (aG cH hcn))) rfl (wq (dN _ eQ (R'.mem hM4) (aG cH hcn) rfl) rfl (aS lZ hM4 rfl rfl (fun b5 w5 M5 => ?_)))))))))))
   refine bG 2 _ eQ M5 rfl rfl rfl rfl rfl (aR rfl) rfl (fun w6 M6 => (aB (aC (aE (aE (bQ [(0, 0), (1, 0), (2, 1), (3, 0), (4, 0), (5, 1), (6, 1), (7, 1), (8, 0), (9, 0), (10, 0), (11, 0), (12, 1), (13, 0), (14, 0), (15, 1), (16, 1), (17, 1), (18, 0), (19, 0)] mixed rfl (by kernel_rfl) (fun w7 hb7 hh7 => ?_)))))))
   have M7 := M6.drew hb7 hh7
   refine aV rfl rfl rfl (fun _ => aD 0 fL rfl) (aV rfl rfl rfl (fun _ => aD 0 gC rfl) (bS rfl rfl rfl (aM 2 (.int _ _) bW M7 rfl rfl rfl) (jP rfl rfl rfl (eF rfl rfl rfl (bS rfl rfl rfl (bP (i) dH rfl rfl rfl ((R.mem M7).below_len (aG aF hxb)) ((R.mem M7).someK (aG aF hxb))) ?_)))))
   refine bS rfl rfl rfl (bB 0 dL (R.mem M7) (Nat.lt_of_le_of_lt (Nat.zero_le _) ((R.mem M7).below_len (aG aF hxb))) rfl) (bS rfl rfl rfl (dY (o := 0) (.int _ _) bW (R.mem M7) (aG aF hxb) rfl rfl) (aV rfl rfl rfl (fun _ => bZ (.bool (decide _)) rfl rfl rfl) (aV rfl rfl rfl (fun _ => aH (.bool (decide _)) rfl) ?_)))
   refine aEw 40 rfl (fun g40 => ?_) (fun g40 => ?_)
   ·refine aV rfl rfl rfl (fun _ => aD 0 fL rfl) (aV rfl rfl rfl (fun _ => aD 1 jS rfl) (bS rfl rfl rfl (aM 2 (.int _ _) bW M7 rfl rfl rfl) (jP rfl rfl rfl (eF rfl rfl rfl (bS rfl rfl rfl (bP (i) dH rfl rfl rfl ((R.mem M7).below_len (aG aF hxb)) ((R.mem M7).someK (aG aF hxb))) ?_)))))
    refine bS rfl rfl rfl (bB 0 dL (R.mem M7) (Nat.lt_of_le_of_lt (Nat.zero_le _) ((R.mem M7).below_len (aG aF hxb))) rfl) (bS rfl rfl rfl (dY (o := 0) (.int _ _) bW (R.mem M7) (aG aF hxb) rfl rfl) (aV rfl rfl rfl (fun _ => bZ (.bool (decide _)) rfl rfl rfl) (aV rfl rfl rfl (fun _ => bR true (.bool (decide _)) rfl rfl) ?_)))
    refine bX (aC ?_)
    refine aW rfl (fun h50 => ?_) (fun h50 => ?_)
    ·refine cX (dF (eS (aC (aA (aP rfl rfl (wq (aY rfl rfl (by omega) (by omega)) rfl ?_))))))
     refine bI rfl rfl (aB ?_)
     refine cG (k2 + 1) (bA rfl eB) (cN rfl (cN rfl (cN rfl (cN rfl (cN rfl (cN rfl gV)))))) ?_ ?_
     ·exact ⟨by omega, by rw [iN hcn, iN hcn]; unfold uX; (have n1 : ¬ cn.low = xb.key := by omega); (have n2 : ¬ cn.high = xb.key := by omega); rw [if_neg n1, if_neg n2, if_neg n1, if_neg n2, Int.add_zero, Int.add_zero]; exact M7.keep [true, true, false]⟩
     ·(show mc - (k2 + 1) < mc - k2; omega)
    ·refine aL (aC (aE (aA (dO rfl rfl (dO rfl rfl (wq (aD 0 fL rfl) rfl (wq (aD 0 gC rfl) rfl (wq (aM 2 (.int _ _) bW M7 rfl rfl rfl) rfl ?_))))))))
     refine bY sI rfl rfl (gS _ cn.low _ _ _ xs (R.mem M7)) ?_
     rintro v8 w8 ⟨rfl, hb8⟩
     have M8 := M7.callB hb8
     refine wq (bP (pa) dH rfl rfl hfa ((R.mem M8).below_len (aG aF hxa)) ((R.mem M8).someK (aG aF hxa))) rfl (wq (dN _ bO (R.mem M8) (aG aF hxa) rfl) rfl (aS fN M8 rfl rfl (fun b9 w9 M9 => (bG 3 _ bO M9 rfl rfl rfl rfl rfl (aR rfl) rfl (fun w10 M10 => ?_)))))
     refine aB (aC (aE (aA (dO rfl rfl (dO rfl rfl (wq (aD 0 fL rfl) rfl (wq (aD 1 jS rfl) rfl (wq (aM 2 (.int _ _) bW M10 rfl rfl rfl) rfl ?_))))))))
     refine bY sI rfl rfl (gS _ cn.high _ _ _ xs (R.mem M10)) ?_
     rintro v11 w11 ⟨rfl, hb11⟩
     have M11 := M10.callB hb11
     refine wq (bP (pb) dH rfl rfl hfb ((R.mem M11).below_len (aG aF hxb2)) ((R.mem M11).someK (aG aF hxb2))) rfl (wq (dN _ bO (R.mem M11) (aG aF hxb2) rfl) rfl (aS fN M11 rfl rfl (fun b12 w12 M12 => (bG 4 _ bO M12 rfl rfl rfl rfl rfl (aR rfl) rfl (fun w13 M13 => ?_)))))
     refine aB (aC (aE (bQ [(0, 1), (1, 1), (2, 1), (3, 0), (4, 0), (5, 1), (6, 1), (7, 1), (8, 2), (9, 0)] mixed rfl (by kernel_rfl) (fun w14 hb14 hh14 => ?_))))
     have M14 := M13.drew hb14 hh14
     refine bS rfl rfl rfl (aX 2 eQ M14 rfl rfl rfl) (bS rfl rfl rfl (aX 3 bO M14 rfl rfl rfl) (bS rfl rfl rfl (aX 4 bO M14 rfl rfl rfl) (jP rfl rfl rfl (eF rfl rfl rfl (bS rfl rfl rfl (bP (i) dH rfl rfl rfl ((R.mem M14).below_len (aG aF hxb)) ((R.mem M14).someK (aG aF hxb))) ?_)))))
     refine bS rfl rfl rfl (bB 4 eH (R.mem M14) (Nat.lt_of_le_of_lt (Nat.zero_le _) ((R.mem M14).below_len (aG aF hxb))) rfl) (bS rfl rfl rfl (dY (o := 4) (.int _ _) aT (R.mem M14) (aG aF hxb) rfl rfl) (dT [true, true, true, true, true, true] rfl (by kernel_rfl) (wC bEz rfl rfl rfl ?_)))
     have hbm : 0 ≤ xb.mass ∧ xb.mass ≤ xa.mass + xb2.mass := ⟨(hb xb hbi).m.1, uI hs hma hmb hbi qa.1 qb.1 (by omega)⟩
     have hmq := (hb xb hbi).m
     have hsl := zI hc.n hbm
     have r1 := lS hsl hnx
     have r2 := lS hsl hny
     refine (aBc _ cn xa xb2 hc.n hoa hob xb.mass hmq).mono ?_
     rintro _ w15 ⟨v15, rfl, ⟨rfl, hb15⟩⟩
     refine ⟨_, rfl, ?_⟩
     have M15 := M14.callB hb15
     refine aB (aC ⟨dU, ?_⟩)
     refine mA rfl rfl rfl (bX (aC (aE (aA (aP rfl rfl (wq (aD 2 gX rfl) rfl (wq (aD 0 cR rfl) rfl ?_)))))))
     refine wq (aM 2 (.int _ _) aT M15 rfl rfl rfl) rfl (wq (aZ dQ Tryz.underlying2 rfl (fH _ (by omega) (by omega))) rfl (wq (fB rfl rfl (by omega) (by omega)) rfl (bY kW rfl rfl (fA _ _ 65536 (by decide) (by omega) (by omega)) ?_)))
     rintro v16 w16 ⟨rfl, hb16⟩
     have M16 := M15.callB hb16
     refine bI rfl rfl (aB (aC (aE (aA (aP rfl rfl (wq (aD 2 gX rfl) rfl (wq (aD 1 cO rfl) rfl (wq (aM 2 (.int _ _) aT M16 rfl rfl rfl) rfl ?_))))))))
     refine wq (aZ dQ Tryz.underlying2 rfl (fH _ (by omega) (by omega))) rfl (wq (fB rfl rfl (by omega) (by omega)) rfl (bY kW rfl rfl (fA _ _ 65536 (by decide) (by omega) (by omega)) ?_))
     rintro v17 w17 ⟨rfl, hb17⟩
     have M17 := M16.callB hb17
     refine bI rfl rfl (aB (aC (aE (aE (bQ [(0, 0), (1, 0), (2, 1), (3, 0), (4, 0), (5, 1), (6, 1), (7, 1), (8, 0)] mixed rfl (by kernel_rfl) (fun w18 hb18 hh18 => ?_))))))
     have M18 := M17.drew hb18 hh18
     refine aV rfl rfl rfl (fun _ => aD 0 fL rfl) (aV rfl rfl rfl (fun _ => aD 0 gC rfl) (bS rfl rfl rfl (aM 2 (.int _ _) bW M18 rfl rfl rfl) (jP rfl rfl rfl (eF rfl rfl rfl (bS rfl rfl rfl (bP (i) dH rfl rfl rfl ((R.mem M18).below_len (aG aF hxb)) ((R.mem M18).someK (aG aF hxb))) ?_)))))
     refine bS rfl rfl rfl (bB 0 dL (R.mem M18) (Nat.lt_of_le_of_lt (Nat.zero_le _) ((R.mem M18).below_len (aG aF hxb))) rfl) (bS rfl rfl rfl (dY (o := 0) (.int _ _) bW (R.mem M18) (aG aF hxb) rfl rfl) (aV rfl rfl rfl (fun _ => bZ (.bool (decide _)) rfl rfl rfl) ?_))
     refine bX (aC ?_)
     refine aW rfl (fun h98 => ?_) (fun h98 => ?_)
     ·refine aE (aA (aP rfl rfl (wq (pX rfl (fH _ (by omega) (by omega))) rfl (bI rfl rfl (aB (aC (aA (aP rfl rfl ?_))))))))
      refine wq (pX rfl (fH _ (by omega) (by omega))) rfl (bI rfl rfl (aB (aC (aE (aA (wq (aD 0 kY rfl) rfl (wq (aM 1 (.int _ _) iX M18 rfl rfl rfl) rfl (aP rfl rfl ?_))))))))
      refine wq (aY rfl rfl (by omega) (by omega)) rfl (wq (aD 0 kY rfl) rfl (dD 1 (.int _ _) iX M18 rfl rfl rfl rfl rfl rfl (fun w19 M19 => (aB (aC (aA (wq (aD 1 kX rfl) rfl (wq (aM 1 (.int _ _) iX M19 rfl rfl rfl) rfl ?_))))))))
      refine aP rfl rfl (wq (aY rfl rfl (by omega) (by omega)) rfl (wq (aD 1 kX rfl) rfl (dD 1 (.int _ _) iX M19 rfl rfl rfl rfl rfl rfl (fun w20 M20 => (aB (cV ?_))))))
      refine aC (aA (aP rfl rfl (wq (aY rfl rfl (by omega) (by omega)) rfl (bI rfl rfl (aB ?_)))))
      refine cG (k2 + 1) (bA rfl eB) (cN rfl (cN rfl (cN rfl (cN rfl (cN rfl (cN rfl gV)))))) ?_ ?_
      ·exact ⟨by omega, by rw [iN hcn, iN hcn]; unfold uX; (have n1 : cn.low = xb.key := by omega); rw [if_pos n1, if_pos n1, hba, hbb]; exact M20.keep [true, true, false, false, false]⟩
      ·(show mc - (k2 + 1) < mc - k2; omega)
     ·refine aL (aC (aE (aA (wq (aD 0 kY rfl) rfl (wq (aM 1 (.int _ _) iX M18 rfl rfl rfl) rfl (aP rfl rfl (wq (aY rfl rfl (by omega) (by omega)) rfl (wq (aD 0 kY rfl) rfl ?_))))))))
      refine dD 1 (.int _ _) iX M18 rfl rfl rfl rfl rfl rfl (fun w21 M21 => (aB (aC (aA (wq (aD 1 kX rfl) rfl (wq (aM 1 (.int _ _) iX M21 rfl rfl rfl) rfl (aP rfl rfl (wq (aY rfl rfl (by omega) (by omega)) rfl ?_))))))))
      refine wq (aD 1 kX rfl) rfl (dD 1 (.int _ _) iX M21 rfl rfl rfl rfl rfl rfl (fun w22 M22 => (aB (cV (aC (aA (aP rfl rfl ?_)))))))
      refine wq (aY rfl rfl (by omega) (by omega)) rfl (bI rfl rfl (aB ?_))
      refine cG (k2 + 1) (bA rfl eB) (cN rfl (cN rfl (cN rfl (cN rfl (cN rfl (cN rfl gV)))))) ?_ ?_
      ·exact ⟨by omega, by rw [iN hcn, iN hcn]; unfold uX; (have n1 : ¬ cn.low = xb.key := by omega); (have n2 : cn.high = xb.key := by omega); rw [if_neg n1, if_pos n2, if_neg n1, if_pos n2, hba, hbb]; exact M22.keep [true, true, false, false, false]⟩
      ·(show mc - (k2 + 1) < mc - k2; omega)
   ·refine D_s rfl rfl rfl (D_s rfl rfl rfl (zU rfl rfl rfl (D_s rfl rfl rfl (D_s rfl rfl rfl (zU rfl rfl rfl ?_)))))
    refine zU rfl rfl rfl (zU rfl rfl rfl (D_s rfl rfl rfl (aV rfl rfl rfl (fun _ => bR false (.bool false) rfl rfl) (bX (aC ?_)))))
    refine cJ rfl (aL (aC (aE (aA (dO rfl rfl (dO rfl rfl (wq (aD 0 fL rfl) rfl (wq (aD 0 gC rfl) rfl ?_))))))))
    refine wq (aM 2 (.int _ _) bW M7 rfl rfl rfl) rfl (bY sI rfl rfl (gS _ cn.low _ _ _ xs (R.mem M7)) ?_)
    rintro v23 w23 ⟨rfl, hb23⟩
    have M23 := M7.callB hb23
    refine wq (bP (pa) dH rfl rfl hfa ((R.mem M23).below_len (aG aF hxa)) ((R.mem M23).someK (aG aF hxa))) rfl (wq (dN _ bO (R.mem M23) (aG aF hxa) rfl) rfl (aS fN M23 rfl rfl (fun b24 w24 M24 => (bG 3 _ bO M24 rfl rfl rfl rfl rfl (aR rfl) rfl (fun w25 M25 => ?_)))))
    refine aB (aC (aE (aA (dO rfl rfl (dO rfl rfl (wq (aD 0 fL rfl) rfl (wq (aD 1 jS rfl) rfl (wq (aM 2 (.int _ _) bW M25 rfl rfl rfl) rfl ?_))))))))
    refine bY sI rfl rfl (gS _ cn.high _ _ _ xs (R.mem M25)) ?_
    rintro v26 w26 ⟨rfl, hb26⟩
    have M26 := M25.callB hb26
    refine wq (bP (pb) dH rfl rfl hfb ((R.mem M26).below_len (aG aF hxb2)) ((R.mem M26).someK (aG aF hxb2))) rfl (wq (dN _ bO (R.mem M26) (aG aF hxb2) rfl) rfl (aS fN M26 rfl rfl (fun b27 w27 M27 => (bG 4 _ bO M27 rfl rfl rfl rfl rfl (aR rfl) rfl (fun w28 M28 => ?_)))))
    refine aB (aC (aE (bQ [(0, 1), (1, 1), (2, 1), (3, 0), (4, 0), (5, 1), (6, 1), (7, 1), (8, 2), (9, 0)] mixed rfl (by kernel_rfl) (fun w29 hb29 hh29 => ?_))))
    have M29 := M28.drew hb29 hh29
    refine bS rfl rfl rfl (aX 2 eQ M29 rfl rfl rfl) (bS rfl rfl rfl (aX 3 bO M29 rfl rfl rfl) (bS rfl rfl rfl (aX 4 bO M29 rfl rfl rfl) (jP rfl rfl rfl (eF rfl rfl rfl (bS rfl rfl rfl (bP (i) dH rfl rfl rfl ((R.mem M29).below_len (aG aF hxb)) ((R.mem M29).someK (aG aF hxb))) ?_)))))
    refine bS rfl rfl rfl (bB 4 eH (R.mem M29) (Nat.lt_of_le_of_lt (Nat.zero_le _) ((R.mem M29).below_len (aG aF hxb))) rfl) (bS rfl rfl rfl (dY (o := 4) (.int _ _) aT (R.mem M29) (aG aF hxb) rfl rfl) (dT [true, true, true, true, true, true] rfl (by kernel_rfl) (wC bEz rfl rfl rfl ?_)))
    have hbm : 0 ≤ xb.mass ∧ xb.mass ≤ xa.mass + xb2.mass := ⟨(hb xb hbi).m.1, uI hs hma hmb hbi qa.1 qb.1 (by omega)⟩
    have hmq := (hb xb hbi).m
    have hsl := zI hc.n hbm
    have r1 := lS hsl hnx
    have r2 := lS hsl hny
    refine (aBc _ cn xa xb2 hc.n hoa hob xb.mass hmq).mono ?_
    rintro _ w30 ⟨v30, rfl, ⟨rfl, hb30⟩⟩
    refine ⟨_, rfl, ?_⟩
    have M30 := M29.callB hb30
    refine aB (aC ⟨dU, ?_⟩)
    refine mA rfl rfl rfl (bX (aC (aE (aA (aP rfl rfl (wq (aD 2 gX rfl) rfl (wq (aD 0 cR rfl) rfl ?_)))))))
    refine wq (aM 2 (.int _ _) aT M30 rfl rfl rfl) rfl (wq (aZ dQ Tryz.underlying2 rfl (fH _ (by omega) (by omega))) rfl (wq (fB rfl rfl (by omega) (by omega)) rfl (bY kW rfl rfl (fA _ _ 65536 (by decide) (by omega) (by omega)) ?_)))
    rintro v31 w31 ⟨rfl, hb31⟩
    have M31 := M30.callB hb31
    refine bI rfl rfl (aB (aC (aE (aA (aP rfl rfl (wq (aD 2 gX rfl) rfl (wq (aD 1 cO rfl) rfl (wq (aM 2 (.int _ _) aT M31 rfl rfl rfl) rfl ?_))))))))
    refine wq (aZ dQ Tryz.underlying2 rfl (fH _ (by omega) (by omega))) rfl (wq (fB rfl rfl (by omega) (by omega)) rfl (bY kW rfl rfl (fA _ _ 65536 (by decide) (by omega) (by omega)) ?_))
    rintro v32 w32 ⟨rfl, hb32⟩
    have M32 := M31.callB hb32
    refine bI rfl rfl (aB (aC (aE (aE (bQ [(0, 0), (1, 0), (2, 1), (3, 0), (4, 0), (5, 1), (6, 1), (7, 1), (8, 0)] mixed rfl (by kernel_rfl) (fun w33 hb33 hh33 => ?_))))))
    have M33 := M32.drew hb33 hh33
    refine aV rfl rfl rfl (fun _ => aD 0 fL rfl) (aV rfl rfl rfl (fun _ => aD 0 gC rfl) (bS rfl rfl rfl (aM 2 (.int _ _) bW M33 rfl rfl rfl) (jP rfl rfl rfl (eF rfl rfl rfl (bS rfl rfl rfl (bP (i) dH rfl rfl rfl ((R.mem M33).below_len (aG aF hxb)) ((R.mem M33).someK (aG aF hxb))) ?_)))))
    refine bS rfl rfl rfl (bB 0 dL (R.mem M33) (Nat.lt_of_le_of_lt (Nat.zero_le _) ((R.mem M33).below_len (aG aF hxb))) rfl) (bS rfl rfl rfl (dY (o := 0) (.int _ _) bW (R.mem M33) (aG aF hxb) rfl rfl) (aV rfl rfl rfl (fun _ => bZ (.bool (decide _)) rfl rfl rfl) ?_))
    refine bX (aC ?_)
    refine aW rfl (fun h98 => ?_) (fun h98 => ?_)
    ·refine aE (aA (aP rfl rfl (wq (pX rfl (fH _ (by omega) (by omega))) rfl (bI rfl rfl (aB (aC (aA (aP rfl rfl ?_))))))))
     refine wq (pX rfl (fH _ (by omega) (by omega))) rfl (bI rfl rfl (aB (aC (aE (aA (wq (aD 0 kY rfl) rfl (wq (aM 1 (.int _ _) iX M33 rfl rfl rfl) rfl (aP rfl rfl ?_))))))))
     refine wq (aY rfl rfl (by omega) (by omega)) rfl (wq (aD 0 kY rfl) rfl (dD 1 (.int _ _) iX M33 rfl rfl rfl rfl rfl rfl (fun w34 M34 => (aB (aC (aA (wq (aD 1 kX rfl) rfl (wq (aM 1 (.int _ _) iX M34 rfl rfl rfl) rfl ?_))))))))
     refine aP rfl rfl (wq (aY rfl rfl (by omega) (by omega)) rfl (wq (aD 1 kX rfl) rfl (dD 1 (.int _ _) iX M34 rfl rfl rfl rfl rfl rfl (fun w35 M35 => (aB (cV ?_))))))
     refine aC (aA (aP rfl rfl (wq (aY rfl rfl (by omega) (by omega)) rfl (bI rfl rfl (aB ?_)))))
     refine cG (k2 + 1) (bA rfl eB) (cN rfl (cN rfl (cN rfl (cN rfl (cN rfl (cN rfl gV)))))) ?_ ?_
     ·exact ⟨by omega, by rw [iN hcn, iN hcn]; unfold uX; (have n1 : cn.low = xb.key := by omega); rw [if_pos n1, if_pos n1, hba, hbb]; exact M35.keep [true, true, false, false, false]⟩
     ·(show mc - (k2 + 1) < mc - k2; omega)
    ·refine aL (aC (aE (aA (wq (aD 0 kY rfl) rfl (wq (aM 1 (.int _ _) iX M33 rfl rfl rfl) rfl (aP rfl rfl (wq (aY rfl rfl (by omega) (by omega)) rfl (wq (aD 0 kY rfl) rfl ?_))))))))
     refine dD 1 (.int _ _) iX M33 rfl rfl rfl rfl rfl rfl (fun w36 M36 => (aB (aC (aA (wq (aD 1 kX rfl) rfl (wq (aM 1 (.int _ _) iX M36 rfl rfl rfl) rfl (aP rfl rfl (wq (aY rfl rfl (by omega) (by omega)) rfl ?_))))))))
     refine wq (aD 1 kX rfl) rfl (dD 1 (.int _ _) iX M36 rfl rfl rfl rfl rfl rfl (fun w37 M37 => (aB (cV (aC (aA (aP rfl rfl ?_)))))))
     refine wq (aY rfl rfl (by omega) (by omega)) rfl (bI rfl rfl (aB ?_))
     refine cG (k2 + 1) (bA rfl eB) (cN rfl (cN rfl (cN rfl (cN rfl (cN rfl (cN rfl gV)))))) ?_ ?_
     ·exact ⟨by omega, by rw [iN hcn, iN hcn]; unfold uX; (have n1 : ¬ cn.low = xb.key := by omega); (have n2 : cn.high = xb.key := by omega); rw [if_neg n1, if_pos n2, if_neg n1, if_pos n2, hba, hbb]; exact M37.keep [true, true, false, false, false]⟩
     ·(show mc - (k2 + 1) < mc - k2; omega)
  ·have hkn : k2 = mc := by omega
   rw [hkn, List.take_of_length_le (by omega)] at hM4
   refine cX (dF (dK (eS (aC (aA (dO rfl rfl ?_))))))
   refine wq (aX 1 bOn hM4 rfl rfl rfl) rfl (cT [.agg (List.toArray _)] [cK (jT xs cs xb)] rfl aIb hM4 rfl rfl rfl rfl (dG rfl) (by decide) (fun b38 w38 M38 => (dJ 0 [cK (jT xs cs xb)] aIb M38 rfl rfl rfl rfl rfl hq rfl (by simp [cK, Go.Bil.one]) (dW.ofMem 2 M38 rfl) (by omega) (fun A39 c39 e39 w39 M39 hR39 => ?_))))
   refine eM rfl rfl (aB (cV (aC (aA (aP rfl rfl (wq (aY rfl rfl (by omega) (by omega)) rfl ?_))))))
   refine bI rfl rfl (aB ?_)
   refine cG (i + 1, ⟨A39, q.n + 1, c39, e39⟩) (bA rfl (bA rfl eB)) (cN rfl (cN rfl (cN rfl gV))) ?_ ?_
   ·exact ⟨⟨by omega, by rw [cP hxb, List.map_append, List.map_append]; exact hR39⟩, M39.keep [true, false, false]⟩
   ·(show n - (i + 1) < n - i; omega)
 ·have hin : i = n := by omega
  rw [List.take_of_length_le (by omega)] at hq
  refine cX (dF (dK (eS (aC (aE (aA (dO rfl rfl ?_)))))))
  refine eM rfl rfl (aB (aC (aO (cD (.slice _ _ _) rfl ?_))))
  exact ⟨q, rfl, hq, hM2⟩
set_option maxHeartbeats 4000000 in
theorem aGm (w : World) (A : Option Addr) (n c : Nat) (xs : List Body) (R : Rd w 10 A n (xs.map aF)) (hb : ∀ b ∈ xs, Okb b) (hn : n ≤ 1048576) :
  Calls Tryz.prog 129 #[.slice A n c] w (fun ex w' => ∃ v, ex = .returned v ∧ (fun v w' => ∃ r : Row, v = .tuple #[.slice r.A r.n r.c, .bool (xs.any lR)] ∧ bC 39 10 r.A r.n r.c ((pJ xs).map aF) r.e ∧ Mem w [] [r.e] w') v w') := by
 have hlen : xs.length = n := by simpa using R.len
 have hbd := R.bound
 refine aI #[.tmp 2, .tmp 3] 47 Tryz.func129 rfl Tryz.results129 Tryz.ntmps129 rfl ?_
 have M0 := Mem.refl w
 refine aE (aA (eM rfl rfl (wq (aJ (.bool false) rfl) rfl (aB (aC (aE (aA (eM rfl rfl ?_))))))))
 have M1 := M0.dummy default
 refine aB (aC (aE (aA (wq (aJ (.bool false) rfl) rfl (aB (aC (aE (aE (aA (bI rfl rfl (aB (aC (aQ (dS (σ := Nat × Row) [0, 2, 3] (fun (k, q) => [(4, .slice q.A q.n q.c), (5, .bool ((xs.take k).any lR)), (6, .int .i64 (k : Int))]) (fun (k, q) w' => (k ≤ n ∧ bC 39 10 q.A q.n q.c (((xs.take k).map oD).map aF) q.e) ∧ Mem w [] [q.e] w') (fun (k, q) => n - k) (0, gT) (bA rfl (bA (bv rfl rfl) (bA rfl eB))) (⟨⟨by omega, bC.nil _ _ _⟩, M1⟩) ?_))))))))))))))
 rintro ⟨k, q⟩ ρ2 w2 ⟨⟨hk, hq⟩, hM2⟩
 have htl := List.length_take_le k xs
 have hqn : (xs.take k).length = q.n := by simpa using hq.1
 refine aE (aE (aA (aP rfl rfl (dO rfl rfl (wq (dC Tryz.underlying29 rfl) rfl (cZ rfl rfl rfl rfl (aB (aC ?_))))))))
 refine aW rfl (fun h12 => ?_) (fun h12 => ?_)
 ·obtain ⟨xb, hxb⟩ := cS (xs := xs) (k := k) hlen (by omega)
  have hob := hb xb (List.mem_of_getElem? hxb)
  have hm := hob.m
  have hv := hob.v
  have hly := eP (xb.vy - 1024) (l := 16777216) (by decide)
  refine aL (aC (aE (aQ (aE (aA (dO rfl rfl (aP rfl rfl (wq (bP (k) dH rfl rfl rfl ((R.mem hM2).below_len (aG aF hxb)) ((R.mem hM2).someK (aG aF hxb))) rfl (wq (dN _ bO (R.mem hM2) (aG aF hxb) rfl) rfl (aS fN hM2 rfl rfl (fun b3 w3 M3 => ?_)))))))))))
  refine bG 1 _ bO M3 rfl rfl rfl rfl rfl (aR rfl) rfl (fun w4 M4 => (aB (aC (aE (aE (aA (wq (aD 4 eH rfl) rfl (wq (aM 1 (.int _ _) aT M4 rfl rfl rfl) rfl (cZ rfl rfl rfl rfl (aB (aC ?_)))))))))))
  refine aW rfl (fun h21 => ?_) (fun h21 => ?_)
  ·have hms : xb.mass ≠ 0 := by omega
   have hgb : oD xb = { xb with vy := iS (xb.vy - 1024) 16777216 } := by unfold oD; rw [if_neg hms]
   refine aE (aA (wq (aD 8 dV rfl) rfl (wq (aD 1 cO rfl) rfl (wq (aM 1 (.int _ _) aT M4 rfl rfl rfl) rfl (wq (aZ dQ Tryz.underlying2 rfl (fH _ (by omega) (by omega))) rfl (wq (fU rfl rfl (by omega) (by omega)) rfl ?_))))))
   refine bI rfl rfl (aB (aC (aE (aA (aP rfl rfl (bY wF rfl rfl (kB _ (xb.vy - 1024) 16777216 ⟨by decide, by decide⟩) ?_))))))
   rintro v5 w5 ⟨rfl, hb5⟩
   have M5 := M4.callB hb5
   refine wq (aZ lW Tryz.underlying21 rfl (iW _ (by omega) (by omega))) rfl (wq (aD 8 dV rfl) rfl (wq (aD 1 cO rfl) rfl (dD 1 (.int _ _) aT M5 rfl rfl rfl rfl rfl rfl (fun w6 M6 => (aB (aC (aA (wq (aH (.bool _) rfl) rfl ?_))))))))
   refine wq (aH (.bool _) rfl) rfl ?_
   refine jR 33 _ rfl (fun g33 => ?_) (fun g33 => ?_)
   ·refine aN rfl rfl (aN rfl rfl (aN rfl rfl (aN rfl rfl (aN rfl rfl (aN rfl rfl ?_)))))
    refine wq (bR true (.bool true) rfl rfl) rfl (wq (aJ (.bool true) rfl) rfl (aB (aC (aA (dO rfl rfl (wq (aX 1 bO M6 rfl rfl rfl) rfl (cT [.agg (List.toArray _)] [aF { xb with vy := iS (xb.vy - 1024) 16777216 }] rfl dH M6 rfl rfl rfl rfl (dG rfl) (by decide) (fun b7 w7 M7 => ?_))))))))
    refine dJ 0 [aF { xb with vy := iS (xb.vy - 1024) 16777216 }] dH M7 rfl rfl rfl rfl rfl hq rfl (by simp [aF, Go.Bil.one]) (dW.ofMem 2 M7 rfl) (by omega) (fun A8 c8 e8 w8 M8 hR8 => ?_)
    rw [← hgb] at hR8
    refine eM rfl rfl (aB (cV (aC (aA (aP rfl rfl (wq (aY rfl rfl (by omega) (by omega)) rfl ?_))))))
    refine bI rfl rfl (aB ?_)
    refine cG (k + 1, ⟨A8, q.n + 1, c8, e8⟩) (bA rfl (bA (bv rfl (by rw [cP hxb, List.any_append, List.any_cons, List.any_nil, Bool.or_false]; rw [show lR xb = decide (iS (xb.vy - 1024) 16777216 ≠ xb.vy - 1024) by unfold lR; rw [decide_eq_true hms, Bool.true_and]]; rw [g33]; first | exact (Bool.true_or _).symm | exact (Bool.false_or _).symm)) (bA rfl eB))) (cN rfl (cN rfl (cN rfl gV))) ?_ ?_
    ·exact ⟨⟨by omega, by rw [cP hxb, List.map_append, List.map_append]; exact hR8⟩, M8.keep [true, false, false]⟩
    ·(show n - (k + 1) < n - k; omega)
   ·refine wq (aD 8 dV rfl) rfl (wq (aD 1 cO rfl) rfl (wq (aM 1 (.int _ _) aT M6 rfl rfl rfl) rfl (wq (aZ dQ Tryz.underlying2 rfl (fH _ (by omega) (by omega))) rfl (aP rfl rfl (cZ rfl rfl rfl rfl ?_)))))
    refine wq (bR false (.bool (decide _)) rfl rfl) rfl (wq (aJ (.bool (decide _)) rfl) rfl (aB (aC (aA (dO rfl rfl (wq (aX 1 bO M6 rfl rfl rfl) rfl (cT [.agg (List.toArray _)] [aF { xb with vy := iS (xb.vy - 1024) 16777216 }] rfl dH M6 rfl rfl rfl rfl (dG rfl) (by decide) (fun b9 w9 M9 => ?_))))))))
    refine dJ 0 [aF { xb with vy := iS (xb.vy - 1024) 16777216 }] dH M9 rfl rfl rfl rfl rfl hq rfl (by simp [aF, Go.Bil.one]) (dW.ofMem 2 M9 rfl) (by omega) (fun A10 c10 e10 w10 M10 hR10 => ?_)
    rw [← hgb] at hR10
    refine eM rfl rfl (aB (cV (aC (aA (aP rfl rfl (wq (aY rfl rfl (by omega) (by omega)) rfl ?_))))))
    refine bI rfl rfl (aB ?_)
    refine cG (k + 1, ⟨A10, q.n + 1, c10, e10⟩) (bA rfl (bA (bv rfl (by rw [cP hxb, List.any_append, List.any_cons, List.any_nil, Bool.or_false]; rw [show lR xb = decide (iS (xb.vy - 1024) 16777216 ≠ xb.vy - 1024) by unfold lR; rw [decide_eq_true hms, Bool.true_and]]; rw [g33]; first | exact (Bool.true_or _).symm | exact (Bool.false_or _).symm)) (bA rfl eB))) (cN rfl (cN rfl (cN rfl gV))) ?_ ?_
    ·exact ⟨⟨by omega, by rw [cP hxb, List.map_append, List.map_append]; exact hR10⟩, M10.keep [true, false, false]⟩
    ·(show n - (k + 1) < n - k; omega)
  ·have hms : ¬ xb.mass ≠ 0 := by omega
   have hgb : oD xb = xb := by unfold oD; rw [if_pos (by omega)]
   refine aL (aC (aA (dO rfl rfl (wq (aX 1 bO M4 rfl rfl rfl) rfl (cT [.agg (List.toArray _)] [aF xb] rfl dH M4 rfl rfl rfl rfl (dG rfl) (by decide) (fun b11 w11 M11 => (dJ 0 [aF xb] dH M11 rfl rfl rfl rfl rfl hq rfl (by simp [aF, Go.Bil.one]) (dW.ofMem 2 M11 rfl) (by omega) (fun A12 c12 e12 w12 M12 hR12 => ?_))))))))
   rw [← hgb] at hR12
   refine eM rfl rfl (aB (cV (aC (aA (aP rfl rfl (wq (aY rfl rfl (by omega) (by omega)) rfl ?_))))))
   refine bI rfl rfl (aB ?_)
   refine cG (k + 1, ⟨A12, q.n + 1, c12, e12⟩) (bA rfl (bA (bv rfl (by rw [cP hxb, List.any_append, List.any_cons, List.any_nil, Bool.or_false]; rw [show lR xb = false by unfold lR; rw [decide_eq_false hms, Bool.false_and], Bool.or_false])) (bA rfl eB))) (cN rfl (cN rfl (cN rfl gV))) ?_ ?_
   ·exact ⟨⟨by omega, by rw [cP hxb, List.map_append, List.map_append]; exact hR12⟩, M12.keep [true, false, false]⟩
   ·(show n - (k + 1) < n - k; omega)
 ·have hkn : k = n := by omega
  rw [List.take_of_length_le (by omega)] at hq
  refine cX (dF (dK (eS (aC (aE (aA (dO rfl rfl ?_)))))))
  refine wq (aH (.bool _) rfl) rfl (eM rfl rfl (wq (aJ (.bool _) rfl) rfl (aB (aC (aO (gA (.slice _ _ _) (.bool _) rfl rfl ?_))))))
  exact ⟨q, tP rfl (congrArg Value.bool (by rw [List.take_of_length_le (by omega)])), hq, hM2⟩
theorem bMd {a b c a' b' c' : Value} (h1 : a = a') (h2 : b = b') (h3 : c = c') : Value.tuple #[a, b, c] = Value.tuple #[a', b', c'] := by rw [h1, h2, h3]
theorem aDz (xs : List Body) : sJ xs = ((xs.any lR || (gR (pJ xs) (kL xs) 4).2) || aTg xs (kL xs) (lJ xs)) := rfl
set_option maxHeartbeats 8000000 in
theorem aQs (w : World) (A : Option Addr) (n c : Nat) (xs : List Body) (R : Rd w 10 A n (xs.map aF)) (hb : ∀ b ∈ xs, Okb b) (hn : n ≤ 1048576) (G : Body → Int × Int) (hG : ∀ b ∈ xs, (-1152921504606846976 ≤ (G b).1 ∧ (G b).1 ≤ 1152921504606846976) ∧ -1152921504606846976 ≤ (G b).2 ∧ (G b).2 ≤ 1152921504606846976) (C : Option Addr) (cm : Nat) (RS : Rd w 2 C n ((xs.map G).map cK)) :
  Calls Tryz.prog 131 #[.slice A n c, .slice C n cm] w (fun ex w' => ∃ v, ex = .returned v ∧ (fun v w' => ∃ r : Row, v = .tuple #[.slice r.A r.n r.c, .bool (xs.any (fun b => aFy b (G b).1 (G b).2))] ∧ bC 39 10 r.A r.n r.c ((xs.map (fun b => tB b (G b).1 (G b).2)).map aF) r.e ∧ Mem w [] [r.e] w') v w') := by
 have hlen : xs.length = n := by simpa using R.len
 have hbd := R.bound
 refine aI #[.tmp 4, .tmp 5] 85 Tryz.func131 rfl Tryz.results131 Tryz.ntmps131 rfl ?_
 have M0 := Mem.refl w
 refine aE (aA (eM rfl rfl (wq (aJ (.bool false) rfl) rfl (aB (aC (aE (aA (eM rfl rfl ?_))))))))
 have M1 := M0.dummy default
 refine aB (aC (aE (aA (wq (aJ (.bool false) rfl) rfl (aB (aC (aE (aE (aA (bI rfl rfl (aB (aC (aQ (dS (σ := Nat × Row) [0, 1, 4, 5] (fun (k, q) => [(6, .slice q.A q.n q.c), (7, .bool ((xs.take k).any (fun b => aFy b (G b).1 (G b).2))), (8, .int .i64 (k : Int))]) (fun (k, q) w' => (k ≤ n ∧ bC 39 10 q.A q.n q.c (((xs.take k).map (fun b => tB b (G b).1 (G b).2)).map aF) q.e) ∧ Mem w [] [q.e] w') (fun (k, q) => n - k) (0, gT) (bA rfl (bA (bv rfl rfl) (bA rfl eB))) (⟨⟨by omega, bC.nil _ _ _⟩, M1⟩) ?_))))))))))))))
 rintro ⟨k, q⟩ ρ2 w2 ⟨⟨hk, hq⟩, hM2⟩
 have htl := List.length_take_le k xs
 have hqn : (xs.take k).length = q.n := by simpa using hq.1
 refine aE (aE (aA (aP rfl rfl (dO rfl rfl (wq (dC Tryz.underlying29 rfl) rfl (cZ rfl rfl rfl rfl (aB (aC ?_))))))))
 refine aW rfl (fun h15 => ?_) (fun h15 => ?_)
 ·obtain ⟨xb, hxb⟩ := cS (xs := xs) (k := k) hlen (by omega)
  have hxm := List.mem_of_getElem? hxb
  have hob := hb xb hxm
  have hv := hob.v
  have hpx := hob.p
  have hgb := hG xb hxm
  have hlx := eP (aFr xb (G xb).1) (l := 1073741824) (by decide)
  have hly := eP (aGp xb (G xb).2) (l := 1073741824) (by decide)
  refine aL (aC (aE (aQ (aE (aA (dO rfl rfl (aP rfl rfl (wq (bP (k) dH rfl rfl rfl ((R.mem hM2).below_len (aG aF hxb)) ((R.mem hM2).someK (aG aF hxb))) rfl (wq (dN _ bO (R.mem hM2) (aG aF hxb) rfl) rfl (aS fN hM2 rfl rfl (fun b3 w3 M3 => ?_)))))))))))
  refine bG 1 _ bO M3 rfl rfl rfl rfl rfl (aR rfl) rfl (fun w4 M4 => (aB (aC (aE (bQ [(0, 0), (1, 0), (2, 1), (3, 0), (4, 0), (5, 0), (6, 1), (7, 1), (8, 1), (9, 0), (10, 0), (11, 0), (12, 1), (13, 0), (14, 2), (15, 0), (16, 0)] mixed rfl (by kernel_rfl) (fun w5 hb5 hh5 => ?_))))))
  have M5 := M4.drew hb5 hh5
  refine aV rfl rfl rfl (fun _ => aD 6 fI rfl) (aV rfl rfl rfl (fun _ => aD 0 cR rfl) (bS rfl rfl rfl (aM 1 (.int _ _) aT M5 rfl rfl rfl) (aV rfl rfl rfl (fun _ => aZ dQ Tryz.underlying2 rfl (fH _ (by omega) (by omega))) (jP rfl rfl rfl (eF rfl rfl rfl ?_)))))
  refine bS rfl rfl rfl (bP (k) aIb rfl rfl rfl ((RS.mem M5).below_len (aG cK (aG G hxb))) ((RS.mem M5).someK (aG cK (aG G hxb)))) (bS rfl rfl rfl (bB 0 kY (RS.mem M5) (Nat.lt_of_le_of_lt (Nat.zero_le _) ((RS.mem M5).below_len (aG cK (aG G hxb)))) rfl) ?_)
  refine bS rfl rfl rfl (dY (o := 0) (.int _ _) iX (RS.mem M5) (aG cK (aG G hxb)) rfl rfl) (aV rfl rfl rfl (fun _ => aY rfl rfl (by omega) (by omega)) (aV rfl rfl rfl (fun _ => aD 8 dV rfl) (aV rfl rfl rfl (fun _ => aD 0 cR rfl) (bS rfl rfl rfl (aM 1 (.int _ _) aT M5 rfl rfl rfl) ?_))))
  refine aV rfl rfl rfl (fun _ => aZ dQ Tryz.underlying2 rfl (fH _ (by omega) (by omega))) (dT [true, false, false, false, false] rfl (by kernel_rfl) (bY kW rfl rfl (fA _ xb.vx 64 (by decide) (by omega) (by omega)) ?_))
  rintro v6 w6 ⟨rfl, hb6⟩
  have M6 := M5.callB hb6
  refine aB (aC ⟨(dZ (bM rfl (dY (o := 0) (.int _ _) iX (RS.mem M6) (aG cK (aG G hxb)) rfl rfl)) (dZ (bM rfl (bB 0 kY (RS.mem M6) (Nat.lt_of_le_of_lt (Nat.zero_le _) ((RS.mem M6).below_len (aG cK (aG G hxb)))) rfl)) (dZ (bM rfl (bP (k) aIb rfl rfl rfl ((RS.mem M6).below_len (aG cK (aG G hxb))) ((RS.mem M6).someK (aG cK (aG G hxb))))) (dZ (bM rfl (aM 1 (.int _ _) aT M6 rfl rfl rfl)) dU)))), ?_⟩)
  refine aV rfl rfl rfl (fun _ => aY rfl rfl (by omega) (by omega)) (dX 37 (.int .i64 (aFr xb (G xb).1)) rfl (mA rfl rfl rfl (bX (aC (aE (bQ [(0, 0), (1, 0), (2, 1), (3, 0), (4, 0), (5, 0), (6, 1), (7, 1), (8, 1), (9, 0), (10, 0), (11, 0), (12, 1), (13, 0), (14, 2), (15, 0), (16, 0)] mixed rfl (by kernel_rfl) (fun w7 hb7 hh7 => ?_)))))))
  have M7 := M6.drew hb7 hh7
  refine aV rfl rfl rfl (fun _ => aD 6 fI rfl) (aV rfl rfl rfl (fun _ => aD 1 cO rfl) (bS rfl rfl rfl (aM 1 (.int _ _) aT M7 rfl rfl rfl) (aV rfl rfl rfl (fun _ => aZ dQ Tryz.underlying2 rfl (fH _ (by omega) (by omega))) (jP rfl rfl rfl (eF rfl rfl rfl ?_)))))
  refine bS rfl rfl rfl (bP (k) aIb rfl rfl rfl ((RS.mem M7).below_len (aG cK (aG G hxb))) ((RS.mem M7).someK (aG cK (aG G hxb)))) (bS rfl rfl rfl (bB 1 kX (RS.mem M7) (Nat.lt_of_le_of_lt (Nat.zero_le _) ((RS.mem M7).below_len (aG cK (aG G hxb)))) rfl) ?_)
  refine bS rfl rfl rfl (dY (o := 1) (.int _ _) iX (RS.mem M7) (aG cK (aG G hxb)) rfl rfl) (aV rfl rfl rfl (fun _ => aY rfl rfl (by omega) (by omega)) (aV rfl rfl rfl (fun _ => aD 8 dV rfl) (aV rfl rfl rfl (fun _ => aD 1 cO rfl) (bS rfl rfl rfl (aM 1 (.int _ _) aT M7 rfl rfl rfl) ?_))))
  refine aV rfl rfl rfl (fun _ => aZ dQ Tryz.underlying2 rfl (fH _ (by omega) (by omega))) (dT [true, false, false, false, false] rfl (by kernel_rfl) (bY kW rfl rfl (fA _ xb.vy 64 (by decide) (by omega) (by omega)) ?_))
  rintro v8 w8 ⟨rfl, hb8⟩
  have M8 := M7.callB hb8
  refine aB (aC ⟨(dZ (bM rfl (dY (o := 1) (.int _ _) iX (RS.mem M8) (aG cK (aG G hxb)) rfl rfl)) (dZ (bM rfl (bB 1 kX (RS.mem M8) (Nat.lt_of_le_of_lt (Nat.zero_le _) ((RS.mem M8).below_len (aG cK (aG G hxb)))) rfl)) (dZ (bM rfl (bP (k) aIb rfl rfl rfl ((RS.mem M8).below_len (aG cK (aG G hxb))) ((RS.mem M8).someK (aG cK (aG G hxb))))) (dZ (bM rfl (aM 1 (.int _ _) aT M8 rfl rfl rfl)) dU)))), ?_⟩)
  refine aV rfl rfl rfl (fun _ => aY rfl rfl (by omega) (by omega)) (dX 53 (.int .i64 (aGp xb (G xb).2)) rfl (mA rfl rfl rfl (bX (aC (aE (aA (aP rfl rfl ?_)))))))
  refine bY wF rfl rfl (kB _ (aFr xb (G xb).1) 1073741824 ⟨by decide, by decide⟩) ?_
  rintro v9 w9 ⟨rfl, hb9⟩
  have M9 := M8.callB hb9
  refine wq (aZ lW Tryz.underlying21 rfl (iW _ (by omega) (by omega))) rfl (aP rfl rfl (bY wF rfl rfl (kB _ (aGp xb (G xb).2) 1073741824 ⟨by decide, by decide⟩) ?_))
  rintro v10 w10 ⟨rfl, hb10⟩
  have M10 := M9.callB hb10
  refine wq (aZ lW Tryz.underlying21 rfl (iW _ (by omega) (by omega))) rfl (wq (cC [(0, .int _ _), (1, .int _ _)] _ eK rfl rfl) rfl (wq (aD 6 fI rfl) rfl (sO 1 _ bL M10 rfl rfl rfl rfl rfl (aR rfl) (Nat.le_of_ble_eq_true rfl) (fun w11 M11 => (aB (aC (aE (aA ?_))))))))
  refine wq (aH (.bool _) rfl) rfl (wq (aH (.bool _) rfl) rfl ?_)
  refine jR 63 _ rfl (fun g63 => ?_) (fun g63 => ?_)
  ·refine aN rfl rfl (aN rfl rfl (aN rfl rfl (aN rfl rfl (aN rfl rfl (aN rfl rfl ?_)))))
   refine wq (bR true (.bool true) rfl rfl) rfl (wq (aH (.bool true) rfl) rfl (aN rfl rfl (aN rfl rfl (aN rfl rfl (aN rfl rfl ?_)))))
   refine aN rfl rfl (aN rfl rfl (wq (bR true (.bool true) rfl rfl) rfl (wq (aJ (.bool true) rfl) rfl (aB (aC (aA (dO rfl rfl ?_)))))))
   refine wq (aX 1 bO M11 rfl rfl rfl) rfl (cT [.agg (List.toArray _)] [aF (tB xb (G xb).1 (G xb).2)] rfl dH M11 rfl rfl rfl rfl (dG rfl) (by decide) (fun b12 w12 M12 => (dJ 0 [aF (tB xb (G xb).1 (G xb).2)] dH M12 rfl rfl rfl rfl rfl hq rfl (by simp [aF, Go.Bil.one]) (dW.ofMem 2 M12 rfl) (by omega) (fun A13 c13 e13 w13 M13 hR13 => ?_))))
   refine eM rfl rfl (aB (cV (aC (aA (aP rfl rfl (wq (aY rfl rfl (by omega) (by omega)) rfl ?_))))))
   refine bI rfl rfl (aB ?_)
   refine cG (k + 1, ⟨A13, q.n + 1, c13, e13⟩) (bA rfl (bA (bv rfl (by rw [cP hxb, List.any_append, List.any_cons, List.any_nil, Bool.or_false]; rw [g63, Bool.true_or])) (bA rfl eB))) (cN rfl (cN rfl (cN rfl (cN rfl gV)))) ?_ ?_
   ·exact ⟨⟨by omega, by rw [cP hxb, List.map_append, List.map_append]; exact hR13⟩, M13.keep [true, false, false]⟩
   ·(show n - (k + 1) < n - k; omega)
  ·refine wq (aD 6 fI rfl) rfl (wq (aD 0 cR rfl) rfl (wq (aM 1 (.int _ _) aT M11 rfl rfl rfl) rfl (wq (aZ dQ Tryz.underlying2 rfl (fH _ (by omega) (by omega))) rfl (aP rfl rfl (cZ rfl rfl rfl rfl ?_)))))
   refine wq (bR false (.bool (decide _)) rfl rfl) rfl (wq (aH (.bool (decide _)) rfl) rfl ?_)
   refine dM 71 rfl (fun g71 => ?_) (fun g71 => ?_)
   ·refine aN rfl rfl (aN rfl rfl (aN rfl rfl (aN rfl rfl (aN rfl rfl (aN rfl rfl ?_)))))
    refine wq (bR true (.bool true) rfl rfl) rfl (wq (aJ (.bool true) rfl) rfl (aB (aC (aA (dO rfl rfl (wq (aX 1 bO M11 rfl rfl rfl) rfl (cT [.agg (List.toArray _)] [aF (tB xb (G xb).1 (G xb).2)] rfl dH M11 rfl rfl rfl rfl (dG rfl) (by decide) (fun b14 w14 M14 => ?_))))))))
    refine dJ 0 [aF (tB xb (G xb).1 (G xb).2)] dH M14 rfl rfl rfl rfl rfl hq rfl (by simp [aF, Go.Bil.one]) (dW.ofMem 2 M14 rfl) (by omega) (fun A15 c15 e15 w15 M15 hR15 => (eM rfl rfl (aB (cV (aC (aA (aP rfl rfl ?_)))))))
    refine wq (aY rfl rfl (by omega) (by omega)) rfl (bI rfl rfl (aB ?_))
    refine cG (k + 1, ⟨A15, q.n + 1, c15, e15⟩) (bA rfl (bA (bv rfl (by rw [cP hxb, List.any_append, List.any_cons, List.any_nil, Bool.or_false]; rw [g63]; simp [aFy, g71])) (bA rfl eB))) (cN rfl (cN rfl (cN rfl (cN rfl gV)))) ?_ ?_
    ·exact ⟨⟨by omega, by rw [cP hxb, List.map_append, List.map_append]; exact hR15⟩, M15.keep [true, false, false]⟩
    ·(show n - (k + 1) < n - k; omega)
   ·refine wq (aD 6 fI rfl) rfl (wq (aD 1 cO rfl) rfl (wq (aM 1 (.int _ _) aT M11 rfl rfl rfl) rfl (wq (aZ dQ Tryz.underlying2 rfl (fH _ (by omega) (by omega))) rfl (aP rfl rfl (cZ rfl rfl rfl rfl ?_)))))
    refine wq (bR false (.bool (decide _)) rfl rfl) rfl (wq (aJ (.bool (decide _)) rfl) rfl (aB (aC (aA (dO rfl rfl (wq (aX 1 bO M11 rfl rfl rfl) rfl (cT [.agg (List.toArray _)] [aF (tB xb (G xb).1 (G xb).2)] rfl dH M11 rfl rfl rfl rfl (dG rfl) (by decide) (fun b16 w16 M16 => ?_))))))))
    refine dJ 0 [aF (tB xb (G xb).1 (G xb).2)] dH M16 rfl rfl rfl rfl rfl hq rfl (by simp [aF, Go.Bil.one]) (dW.ofMem 2 M16 rfl) (by omega) (fun A17 c17 e17 w17 M17 hR17 => (eM rfl rfl (aB (cV (aC (aA (aP rfl rfl ?_)))))))
    refine wq (aY rfl rfl (by omega) (by omega)) rfl (bI rfl rfl (aB ?_))
    refine cG (k + 1, ⟨A17, q.n + 1, c17, e17⟩) (bA rfl (bA (bv rfl (by rw [cP hxb, List.any_append, List.any_cons, List.any_nil, Bool.or_false]; rw [g63]; simp [aFy, g71])) (bA rfl eB))) (cN rfl (cN rfl (cN rfl (cN rfl gV)))) ?_ ?_
    ·exact ⟨⟨by omega, by rw [cP hxb, List.map_append, List.map_append]; exact hR17⟩, M17.keep [true, false, false]⟩
    ·(show n - (k + 1) < n - k; omega)
 ·have hkn : k = n := by omega
  rw [List.take_of_length_le (by omega)] at hq
  refine cX (dF (dK (eS (aC (aE (aA (dO rfl rfl ?_)))))))
  refine wq (aH (.bool _) rfl) rfl (eM rfl rfl (wq (aJ (.bool _) rfl) rfl (aB (aC (aO (gA (.slice _ _ _) (.bool _) rfl rfl ?_))))))
  exact ⟨q, tP rfl (congrArg Value.bool (by rw [List.take_of_length_le (by omega)])), hq, hM2⟩
set_option maxHeartbeats 8000000 in
theorem aQw (w : World) (A : Option Addr) (n c : Nat) (xs : List Body) (R : Rd w 10 A n (xs.map aF)) (hb : ∀ b ∈ xs, Okb b) (hs : cW xs) (hn : n ≤ 4096) :
  Calls Tryz.prog 97 #[.slice A n c] w (fun ex w' => ∃ v, ex = .returned v ∧ (fun v w' => ∃ r : Row, v = .tuple #[.slice r.A r.n r.c, .int .i64 ((kL xs).length : Int), .bool (sJ xs)] ∧ bC 39 10 r.A r.n r.c ((pU xs).map aF) r.e ∧ Mem w [] [r.e] w') v w') := by
 have hlen : xs.length = n := by simpa using R.len
 have hnn : xs.length * xs.length ≤ 4096 * 4096 := Nat.mul_le_mul (by omega) (by omega)
 have hcl := aDj xs
 have hsq := aUi (xs := xs)
 refine aI #[.tmp 2, .tmp 3, .tmp 4] 43 Tryz.func97 rfl Tryz.results97 Tryz.ntmps97 rfl ?_
 have M0 := Mem.refl w
 refine aE (aA (eM rfl rfl (bI rfl rfl (wq (aJ (.bool false) rfl) rfl (aB (aC (aE (aA (dO rfl rfl ?_)))))))))
 refine bY bNf rfl rfl (aYa _ _ _ _ xs (R.mem M0) hb hs (by first | decide | omega)) ?_
 rintro v1 w1 ⟨r, rfl, hr, hM1⟩
 have M1 : Mem _ _ [_] _ := M0.call0 hM1
 have hrn : (kL xs).length = r.n := by simpa using hr.1
 refine eM rfl rfl (aB (aC (aE (aA (dO rfl rfl (bY bLp rfl rfl (aGm _ A n c xs (R.mem M1) hb (by omega)) ?_))))))
 rintro v2 w2 ⟨g, rfl, hg, hM2⟩
 have M2 : Mem _ _ [_, _] _ := M1.call0 hM2
 have hgn : (pJ xs).length = g.n := by simpa using hg.1
 have hgl := (kQ xs).len
 refine wq (aH (.tuple (List.toArray _)) rfl) rfl (wq (bN (.slice _ _ _) rfl rfl) rfl (wq (bN (.bool _) rfl rfl) rfl (eM rfl rfl (wq (aJ (.bool _) rfl) rfl (aB (aC (aE (aA ?_))))))))
 refine dO rfl rfl (dO rfl rfl (bY bNn rfl rfl (aNv _ g.A g.n g.c (pJ xs) (hg.rd M2 (bH (i := 1) rfl)) ((kQ xs).sorted hs) (xQ hb) (by omega) r.A r.n r.c (kL xs) (hr.rd M2 (bH (i := 0) rfl)) (fun c h => (kQ xs).okc (qL hs hb c h)) (by omega)) ?_))
 rintro v3 w3 ⟨⟨sA, sn, sc, se⟩, rfl, hsv, hM3⟩
 have hsn : (lJ xs).length = sn := by have h := hsv.1; rwa [List.length_map] at h
 have hlk : Like xs (lJ xs) := (kQ xs).trans (iY _ _ 4)
 have hsl := hlk.len
 obtain rfl : n = sn := by omega
 have M3 : Mem _ _ [_, _, _] _ := M2.call0 hM3
 refine wq (aH (.tuple (List.toArray _)) rfl) rfl (wq (bN (.slice _ _ _) rfl rfl) rfl (wq (bN (.bool _) rfl rfl) rfl (eM rfl rfl (wq (aJ (.bool _) rfl) rfl (aB (aC (aE (aA ?_))))))))
 refine dO rfl rfl (dO rfl rfl (dO rfl rfl (bY bNt rfl rfl (aJn _ A n c xs (R.mem M3) hs hb (by omega) r.A r.n r.c (kL xs) (hr.rd M3 (bH (i := 0) rfl)) (qL hs hb) (by omega)) ?_)))
 rintro v4 w4 ⟨⟨qA, qn, qc, qe⟩, rfl, hq, hM4⟩
 have hqn : xs.length = qn := by simpa using hq.1
 obtain rfl : n = qn := by omega
 rw [aEs hlk] at hq
 have M4 : Mem _ _ [_, _, _, _] _ := M3.call0 hM4
 refine bY bKz rfl rfl (aQs _ sA n sc (lJ xs) (hsv.rd M4 (bH (i := 2) rfl)) (qV (xQ hb) 4) (by omega) (jT xs (kL xs)) (aTu hs hb (qL hs hb) (by omega) hlk) qA qc (hq.rd M4 (bH (i := 3) rfl))) ?_
 rintro v5 w5 ⟨m, rfl, hm, hM5⟩
 have M5 : Mem _ _ [_, _, _, _, _] _ := M4.call0 hM5
 refine wq (aH (.tuple (List.toArray _)) rfl) rfl (wq (bN (.slice _ _ _) rfl rfl) rfl (wq (bN (.bool _) rfl rfl) rfl (eM rfl rfl (wq (aJ (.bool _) rfl) rfl (aB (aC (aE (aA ?_))))))))
 refine dO rfl rfl (dO rfl rfl (wq (dC Tryz.underlying166 rfl) rfl (wq (aH (.bool _) rfl) rfl (wq (aH (.bool _) rfl) rfl ?_))))
 refine jR 37 _ rfl (fun g37 => ?_) (fun g37 => ?_)
 ·refine aN rfl rfl (wq (bR true (.bool true) rfl rfl) rfl (wq (aH (.bool true) rfl) rfl (aN rfl rfl (wq (bR true (.bool true) rfl rfl) rfl (eM rfl rfl ?_)))))
  refine bI rfl rfl (wq (aJ (.bool true) rfl) rfl (aB (aC (aO (aZj (.slice _ _ _) (.int _ _) (.bool true) rfl rfl rfl ?_)))))
  exact ⟨m, bMd rfl (iE (by rw [hrn])) (congrArg Value.bool (by rw [aDz]; first | (simp only [g37, Bool.true_or]; done) | (simp only [g37, g40, Bool.false_or, Bool.true_or]; done) | (rw [g37, g40]; rfl))), hm, M5.keep [false, false, false, false, true]⟩
 ·refine wq (aH (.bool _) rfl) rfl (wq (bR false (.bool _) rfl rfl) rfl (wq (aH (.bool _) rfl) rfl ?_))
  refine jR 40 _ rfl (fun g40 => ?_) (fun g40 => ?_)
  ·refine aN rfl rfl (wq (bR true (.bool true) rfl rfl) rfl (eM rfl rfl (bI rfl rfl (wq (aJ (.bool true) rfl) rfl (aB (aC (aO ?_)))))))
   refine aZj (.slice _ _ _) (.int _ _) (.bool true) rfl rfl rfl ?_
   exact ⟨m, bMd rfl (iE (by rw [hrn])) (congrArg Value.bool (by rw [aDz]; first | (simp only [g37, Bool.true_or]; done) | (simp only [g37, g40, Bool.false_or, Bool.true_or]; done) | (rw [g37, g40]; rfl))), hm, M5.keep [false, false, false, false, true]⟩
  ·refine wq (aH (.bool _) rfl) rfl (wq (bR false (.bool _) rfl rfl) rfl (eM rfl rfl (bI rfl rfl (wq (aJ (.bool _) rfl) rfl (aB (aC (aO ?_)))))))
   refine aZj (.slice _ _ _) (.int _ _) (.bool _) rfl rfl rfl ?_
   exact ⟨m, bMd rfl (iE (by rw [hrn])) (congrArg Value.bool (by rw [aDz]; first | (simp only [g37, Bool.true_or]; done) | (simp only [g37, g40, Bool.false_or, Bool.true_or]; done) | (rw [g37, g40]; rfl))), hm, M5.keep [false, false, false, false, true]⟩
end Go.Proofs.YtaoaknafiegfoaaGreatDoor
