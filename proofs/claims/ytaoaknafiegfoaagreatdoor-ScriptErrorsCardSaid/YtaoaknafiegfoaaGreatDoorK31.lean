/- Part of the proof of the laws of this seat: S20i, S20j, S20k, S20l, S20m, S20n, R20a, R20b, R20c, R20d, R20e, R20f. No conditions. -/
import Derived.Test.YtaoaknafiegfoaaGreatDoorK2
import Derived.Test.YtaoaknafiegfoaaGreatDoorK5
import Derived.Test.YtaoaknafiegfoaaGreatDoorK27
import Derived.Test.YtaoaknafiegfoaaGreatDoorK30
import Derived.Test.YtaoaknafiegfoaaGreatDoorK29
import Derived.Test.YtaoaknafiegfoaaGreatDoorK28
set_option linter.unusedVariables false
set_option linter.unusedSimpArgs false
set_option linter.unnecessarySimpa false
namespace Go.Proofs.YtaoaknafiegfoaaGreatDoor
open Go.Bil
open Go.RowKit (Below)
open Go.Proofs
set_option maxHeartbeats 4000000 in
theorem kK (w : World) (a l : Int) (hl : 0 ≤ l ∧ l ≤ 2147483647) (bf : Nat) (fl : Bool) (F : Option Addr) (cf : Nat) (RF : Rd w 1 F 1 [[.pointer (some ⟨bf, 0, none⟩)]]) (hdF : 0 < 1 → ∀ q off, F = some ⟨q, off, none⟩ → q ∉ bJ [(some bf, bc [.bool fl] 4)]) (hO : Own [(some bf, bc [.bool fl] 4)] w) :
  Calls Tryz.prog 112 #[.int .i64 a, .int .i64 l, .slice F 1 cf] w (fun ex w' => ∃ v, ex = .returned v ∧ (fun v w' => v = .int .i32 (iX a l) ∧ Mem w (bJ [(some bf, bc [.bool fl] 4)]) [(some bf, bc [.bool (fl || decide (iX a l ≠ a))] 4)] w') v w') := by
 have hr := eG a hl.1
 refine aH #[.tmp 6] 34 Tryz.func112 rfl Tryz.results112 Tryz.ntmps112 rfl ?_
 have M0 := hO.mem
 refine aD (aA (bO rfl rfl (aB (aC (aD (aA (aY rfl rfl (aY rfl rfl (cA aLf rfl rfl (aAe _ a l (by omega)) ?_)))))))))
 rintro v1 w1 ⟨rfl, hb1⟩
 have M1 := M0.callB hb1
 refine wq (aG (.tuple (List.toArray _)) rfl) rfl (wq (bG (.int _ _) rfl rfl) rfl (wq (bG (.bool (decide _)) rfl rfl) rfl (bO rfl rfl (wq (aI (.bool (decide _)) rfl) rfl (aB (aC (aD (aD (aA ?_)))))))))
 refine dV rfl rfl (wq (cN Tryz.underlying201 rfl) rfl (aV 18 (.int .i64 1) (iE rfl) (aY rfl rfl (aB (aC (aT (lN 2 (iI ?_))))))))
 refine aD (aA (cY rfl rfl rfl rfl (nU 20 rfl (by first | decide | omega) (aB (aC (aD (cS rfl (aK (aC (aD (aT (aD (aA ?_)))))))))))))
 refine wq (bR (0) aCy rfl rfl rfl ((RF.memY M1 hdF).below_len ((show ([[.pointer (some ⟨bf, 0, none⟩)]] : List (List Value))[0]? = some [.pointer (some ⟨bf, 0, none⟩)] from rfl))) ((RF.memY M1 hdF).someK ((show ([[.pointer (some ⟨bf, 0, none⟩)]] : List (List Value))[0]? = some [.pointer (some ⟨bf, 0, none⟩)] from rfl)))) rfl ?_
 refine wq (iA (.pointer _) bEb (RF.memY M1 hdF) ((show ([[.pointer (some ⟨bf, 0, none⟩)]] : List (List Value))[0]? = some [.pointer (some ⟨bf, 0, none⟩)] from rfl)) rfl) rfl (wq (aI (.pointer _) rfl) rfl (aB (aC (aA (wq (aG (.pointer _) rfl) rfl (wq (aG (.pointer _) rfl) rfl ?_))))))
 refine wq (aM rfl) rfl (wq (aL 0 (.bool _) mD M1 rfl rfl rfl) rfl (wq (aG (.bool _) rfl) rfl ?_))
 refine nM 27 _ rfl (fun g27 => ?_) (fun g27 => ?_)
 ·refine aS rfl rfl (wq (bX true (.bool true) rfl rfl) rfl (wq (aM rfl) rfl (eD 0 (.bool true) mD M1 rfl rfl rfl rfl rfl rfl (fun w2 M2 => (aB (dE ?_))))))
  refine aC (aA (wq (bQ rfl rfl (by first | decide | omega) (by first | decide | omega)) rfl (aV 31 (.int .i64 1) (iE (by first | decide | omega)) (aY rfl rfl (aB (aC (iI ?_)))))))
  refine aD (aA (cY rfl rfl rfl rfl (tS 20 rfl (by first | decide | omega) (aB (aC (aD (bY rfl (cQ ?_))))))))
  refine dC (dC (eT (aC (aD (aA (aY rfl rfl (wq (bU us2 Tryz.underlying21 rfl (mB _ (by omega) (by omega))) rfl (bO rfl rfl ?_))))))))
  refine aB (aC (aO (cD (.int _ _) rfl ?_)))
  first | exact ⟨rfl, by rw [(by simp only [g27, Bool.true_or] : (fl || decide (iX a l ≠ a)) = true)]; exact M2⟩ | exact ⟨rfl, by rw [(by simp only [g27, Bool.false_or] : (fl || decide (iX a l ≠ a)) = decide (iX a l ≠ a))]; exact M2⟩
 ·refine wq (aG (.bool (decide _)) rfl) rfl (wq (bX false (.bool (decide _)) rfl rfl) rfl (wq (aM rfl) rfl (eD 0 (.bool (decide _)) mD M1 rfl rfl rfl rfl rfl rfl (fun w3 M3 => (aB (dE ?_))))))
  refine aC (aA (wq (bQ rfl rfl (by first | decide | omega) (by first | decide | omega)) rfl (aV 31 (.int .i64 1) (iE (by first | decide | omega)) (aY rfl rfl (aB (aC (iI ?_)))))))
  refine aD (aA (cY rfl rfl rfl rfl (tS 20 rfl (by first | decide | omega) (aB (aC (aD (bY rfl (cQ ?_))))))))
  refine dC (dC (eT (aC (aD (aA (aY rfl rfl (wq (bU us2 Tryz.underlying21 rfl (mB _ (by omega) (by omega))) rfl (bO rfl rfl ?_))))))))
  refine aB (aC (aO (cD (.int _ _) rfl ?_)))
  first | exact ⟨rfl, by rw [(by simp only [g27, Bool.true_or] : (fl || decide (iX a l ≠ a)) = true)]; exact M3⟩ | exact ⟨rfl, by rw [(by simp only [g27, Bool.false_or] : (fl || decide (iX a l ≠ a)) = decide (iX a l ≠ a))]; exact M3⟩
set_option maxHeartbeats 4000000 in
theorem aRh (w : World) (i : Int) (b : Body) (hb : Okb b) (bf : Nat) (fl : Bool) (hO : Own [(some bf, bc [.bool fl] 4)] w) :
  Calls Tryz.prog 110 #[.int .i64 i, (.agg (aF b).toArray), .pointer (some ⟨bf, 0, none⟩)] w (fun ex w' => ∃ v, ex = .returned v ∧ (fun v w' => v = (.agg (aF (pZ b)).toArray) ∧ Mem w (bJ [(some bf, bc [.bool fl] 4)]) [(some bf, bc [.bool (fl || pH b)] 4)] w') v w') := by
 have hv := hb.v
 refine aH #[.cell 5 39] 19 Tryz.func110 rfl Tryz.results110 Tryz.ntmps110 rfl ?_
 have M0 := hO.mem
 refine aD (aA (bE (.agg (List.toArray _)) M0 rfl rfl rfl (fun b1 w1 M1 => (aQ gW M1 rfl rfl (fun b2 w2 M2 => (aB (aC (aD (aD (aA (wq (bA 1 bS M2 rfl rfl rfl) rfl (cA bDu rfl rfl (aAz _ b) ?_))))))))))))
 rintro v3 w3 ⟨rfl, hb3⟩
 have M3 := M2.callB hb3
 refine wq (tI rfl) rfl (aB (aC ?_))
 refine bB rfl (fun h8 => ?_) (fun h8 => ?_)
 ·refine aA (wq (aE 8 fO rfl) rfl (wq (aE 1 dO rfl) rfl (wq (aL 1 (.int _ _) aW M3 rfl rfl rfl) rfl (wq (bU fV Tryz.underlying2 rfl (kO _ (by omega) (by omega))) rfl (wq (nE rfl rfl (by omega) (by omega)) rfl ?_)))))
  refine cT [.pointer _] [[.pointer (some ⟨bf, 0, none⟩)]] rfl aCy M3 rfl rfl rfl rfl (dA rfl) (by decide) (fun b4 w4 M4 => ?_)
  have hlit14 := jY (T := 174) (sz := 1) (b := b4) (nn := 1) [[.pointer (some ⟨bf, 0, none⟩)]] (by simp) rfl (by decide)
  refine cA zG rfl rfl (kK _ (b.vy - 1024) 16777216 ⟨by decide, by decide⟩ bf _ _ 1 (hlit14.rd M4 (aP (i := 3) rfl)) (hlit14.awayB M4 3 0 rfl rfl rfl) (M4.ownSeg 0 1)) ?_
  rintro v5 w5 ⟨rfl, hM5⟩
  have M5 : Mem _ _ [_, _, _, _] _ := M4.seg 0 1 hM5
  refine wq (aE 8 fO rfl) rfl (wq (aE 1 dO rfl) rfl (eD 1 (.int _ _) aW M5 rfl rfl rfl rfl rfl rfl (fun w6 M6 => (aB (aC (aD (aA (wq (bA 1 bS M6 rfl rfl rfl) rfl (bC 2 _ bS M6 rfl rfl rfl rfl rfl (aR rfl) rfl (fun w7 M7 => ?_))))))))))
  refine aB (aC (aO (eQ 2 bS M7 rfl rfl rfl ?_)))
  exact ⟨by unfold pZ; rw [if_neg h8]; rfl, by rw [show pH b = decide (iX (b.vy - 1024) 16777216 ≠ b.vy - 1024) by unfold pH; rw [decide_eq_true h8, Bool.true_and]]; exact M7.keep [true, false, false, false]⟩
 ·refine aK (aC (aD (aA (wq (bA 1 bS M3 rfl rfl rfl) rfl (bC 2 _ bS M3 rfl rfl rfl rfl rfl (aR rfl) rfl (fun w8 M8 => (aB (aC (aO (eQ 2 bS M8 rfl rfl rfl ?_))))))))))
  exact ⟨by unfold pZ; rw [if_pos (Decidable.not_not.1 h8)]; rfl, by rw [show pH b = false by unfold pH; rw [decide_eq_false h8, Bool.false_and], Bool.or_false]; exact M8.keep [true, false, false]⟩
set_option maxHeartbeats 4000000 in
theorem aLj (w : World) (A : Option Addr) (n c : Nat) (xs : List Body) (R : Rd w 10 A n (xs.map aF)) (hb : ∀ b ∈ xs, Okb b) (hn : n ≤ 1048576) (bf : Nat) (hO : Own [(some bf, bc [.bool false] 4)] w) (hdA : 0 < n → ∀ q off, A = some ⟨q, off, none⟩ → q ∉ bJ [(some bf, bc [.bool false] 4)]) :
  Calls Tryz.prog 109 #[.slice A n c, .func (.func 110) #[] #[.pointer (some ⟨bf, 0, none⟩)]] w (fun ex w' => ∃ v, ex = .returned v ∧ (fun v w' => ∃ r : Row, v = .slice r.A r.n r.c ∧ aU 39 10 r.A r.n r.c ((rI xs).map aF) r.e ∧ Mem w (bJ [(some bf, bc [.bool false] 4)]) [(some bf, bc [.bool (xs.any pH)] 4), r.e] w') v w') := by
 have hlen : xs.length = n := by simpa using R.len
 have hbd := R.bound
 refine aH #[.tmp 4] 24 Tryz.func109 rfl Tryz.results109 Tryz.ntmps109 rfl ?_
 have M0 := hO.mem
 refine aD (aA (fJ rfl rfl (aB (aC (aD (aA (fJ rfl rfl ?_)))))))
 have M1 := M0.dummy default
 refine aB (aC (aD (aD (aA (dV rfl rfl (wq (cN Tryz.underlying29 rfl) rfl (aY rfl rfl (aB (aC (aT (dL (σ := Nat × Row) [1, 4, 8, 9] (fun (k, q) => [(5, .slice q.A q.n q.c), (10, .int .i64 (k : Int))]) (fun (k, q) w' => (k ≤ n ∧ aU 39 10 q.A q.n q.c (((xs.take k).map pZ).map aF) q.e) ∧ Mem w (bJ [(some bf, bc [.bool false] 4)]) [(some bf, bc [.bool ((xs.take k).any pH)] 4), q.e] w') (fun (k, q) => n - k) (0, fR) (bM rfl (bM rfl eX)) (⟨⟨by omega, aU.nil _ _ _⟩, M1⟩) ?_)))))))))))
 rintro ⟨k, q⟩ ρ2 w2 ⟨⟨hk, hq⟩, hM2⟩
 have htl := List.length_take_le k xs
 have hqn : (xs.take k).length = q.n := by simpa using hq.1
 refine aD (aA (cY rfl rfl rfl rfl (aB (aC (aD ?_)))))
 refine bB rfl (fun h11 => ?_) (fun h11 => ?_)
 ·obtain ⟨xb, hxb⟩ := cI (xs := xs) (k := k) hlen (by omega)
  refine aK (aC (aD (aT (aD (aA (aY rfl rfl (wq (bR (k) fG rfl rfl rfl ((R.memY hM2 hdA).below_len (aJ aF hxb)) ((R.memY hM2 hdA).someK (aJ aF hxb))) rfl (wq (dZ _ bS (R.memY hM2 hdA) (aJ aF hxb) rfl) rfl (aQ gW hM2 rfl rfl (fun b3 w3 M3 => ?_))))))))))
  refine bO rfl rfl (bC 2 _ bS M3 rfl rfl rfl rfl rfl (aR rfl) rfl (fun w4 M4 => (aB (aC (aA (dV rfl rfl (wq (aG (.func _ _ _) rfl) rfl (aY rfl rfl ?_))))))))
  refine wq (bA 2 bS M4 rfl rfl rfl) rfl (cA bCo rfl rfl (aRh _ _ xb (hb xb (List.mem_of_getElem? hxb)) bf _ (M4.ownSeg 0 1)) ?_)
  rintro v5 w5 ⟨rfl, hM5⟩
  have M5 : Mem _ _ [_, _, _] _ := M4.seg 0 1 hM5
  refine cT [.agg (List.toArray _)] [aF (pZ xb)] rfl fG M5 rfl rfl rfl rfl (dA rfl) (by decide) (fun b6 w6 M6 => (dR 1 [aF (pZ xb)] fG M6 rfl rfl rfl rfl rfl hq rfl (by simp [aF, Go.Bil.one]) (cZ.ofMem 3 M6 rfl) (by omega) (fun A7 c7 e7 w7 M7 hR7 => (fJ rfl rfl ?_))))
  refine aB (dE (aC (aA (wq (bQ rfl rfl (by omega) (by omega)) rfl (aY rfl rfl (aB ?_))))))
  refine cR (k + 1, ⟨A7, q.n + 1, c7, e7⟩) (bM rfl (bM rfl eX)) (cV rfl (cV rfl (cV rfl (cV rfl kA)))) ?_ ?_
  ·exact ⟨⟨by omega, by rw [cP hxb, List.map_append, List.map_append]; exact hR7⟩, by rw [cP hxb, List.any_append, List.any_cons, List.any_nil, Bool.or_false]; exact M7.keep [true, true, false, false]⟩
  ·(show n - (k + 1) < n - k; omega)
 ·have hkn : k = n := by omega
  rw [List.take_of_length_le (by omega)] at hq
  rw [List.take_of_length_le (by omega)] at hM2
  refine cQ (dC (cX (eT (aC (aD (aA (dV rfl rfl ?_)))))))
  refine fJ rfl rfl (aB (aC (aO (cD (.slice _ _ _) rfl ?_))))
  exact ⟨q, rfl, hq, hM2⟩
set_option maxHeartbeats 4000000 in
theorem aFt (w : World) (A : Option Addr) (n c : Nat) (xs : List Body) (R : Rd w 10 A n (xs.map aF)) (hb : ∀ b ∈ xs, Okb b) (hn : n ≤ 1048576) :
  Calls Tryz.prog 66 #[.slice A n c] w (fun ex w' => ∃ v, ex = .returned v ∧ (fun v w' => ∃ r : Row, v = .tuple #[.slice r.A r.n r.c, .bool (xs.any pH)] ∧ aU 39 10 r.A r.n r.c ((rI xs).map aF) r.e ∧ Mem w [] [r.e] w') v w') := by
 refine aH #[.tmp 2, .tmp 3] 11 Tryz.func66 rfl Tryz.results66 Tryz.ntmps66 rfl ?_
 have M0 := Mem.refl w
 refine aD (aA (fJ rfl rfl (wq (aI (.bool false) rfl) rfl (aB (aC (aD (aA (aQ aNr M0 rfl rfl (fun b1 w1 M1 => (eD 0 (.bool false) mD M1 rfl rfl rfl rfl rfl rfl (fun w2 M2 => ?_)))))))))))
 refine aB (aC (aD (aA (dV rfl rfl (wq (cL [] [.pointer _] rfl rfl) rfl (cA aUr rfl rfl (aLj _ A n c xs (R.mem M2) hb hn b1 (M2.ownSeg 0 1) (M2.away 0 1 R (by simp))) ?_))))))
 rintro v3 w3 ⟨r, rfl, hr, hM3⟩
 have M3 : Mem _ _ [_, _] _ := M2.seg 0 1 hM3
 refine fJ rfl rfl (aB (aC (aD (bP [(0, 0), (1, 1), (2, 0), (3, 0)] mixed rfl (by kernel_rfl) (fun w4 hb4 hh4 => ?_)))))
 have M4 := M3.drew hb4 hh4
 refine xG rfl rfl rfl (bW rfl rfl rfl (aL 0 (.bool _) mD M4 rfl rfl rfl) (aX rfl rfl rfl (fun _ => aI (.slice _ _ _) rfl) (aX rfl rfl rfl (fun _ => aI (.bool _) rfl) (cE (aC (aO ?_))))))
 refine iM (.slice _ _ _) (.bool _) rfl rfl ?_
 exact ⟨r, rfl, hr, M4.keep [false, true]⟩
set_option maxHeartbeats 4000000 in
theorem aQr (w : World) (i : Nat) (b : Body) (hb : Okb b) (bf bl : Nat) (fl : Bool) (C : Option Addr) (m cm : Nat) (l : List (Int × Int)) (RS : Rd w 2 C m (l.map cJ)) (s : Int × Int) (hs : l[i]? = some s) (hsb : (-1152921504606846976 ≤ s.1 ∧ s.1 ≤ 1152921504606846976) ∧ -1152921504606846976 ≤ s.2 ∧ s.2 ≤ 1152921504606846976) (hO : Own [(some bf, bc [.bool fl] 4), (some bl, bc [.slice C m cm] 127)] w) (hdS : 0 < m → ∀ q off, C = some ⟨q, off, none⟩ → q ∉ bJ [(some bf, bc [.bool fl] 4), (some bl, bc [.slice C m cm] 127)]) :
  Calls Tryz.prog 113 #[.int .i64 (i : Int), (.agg (aF b).toArray), .pointer (some ⟨bl, 0, none⟩), .pointer (some ⟨bf, 0, none⟩)] w (fun ex w' => ∃ v, ex = .returned v ∧ (fun v w' => v = (.agg (aF (aEv b s.1 s.2)).toArray) ∧ Mem w (bJ [(some bf, bc [.bool fl] 4), (some bl, bc [.slice C m cm] 127)]) [(some bf, bc [.bool (fl || aQd b s.1 s.2)] 4), (some bl, bc [.slice C m cm] 127)] w') v w') := by
 have hv := hb.v
 have hpp := hb.p
 have hlm : l.length = m := by simpa using RS.len
 have hil := (List.getElem?_eq_some_iff.1 hs).1
 refine aH #[.cell 6 39] 50 Tryz.func113 rfl Tryz.results113 Tryz.ntmps113 rfl ?_
 have M0 := hO.mem
 refine aD (aA (bE (.agg (List.toArray _)) M0 rfl rfl rfl (fun b1 w1 M1 => (aQ gW M1 rfl rfl (fun b2 w2 M2 => (aB (aC (aD (bP [(0, 0), (1, 0), (2, 1), (3, 0), (4, 1), (5, 0), (6, 1), (7, 1), (8, 1), (9, 0), (10, 0), (11, 0), (12, 1), (13, 0), (14, 0), (15, 0), (16, 0)] mixed rfl (by kernel_rfl) (fun w3 hb3 hh3 => ?_))))))))))
 have M3 := M2.drew hb3 hh3
 refine aX rfl rfl rfl (fun _ => aE 6 gU rfl) (aX rfl rfl rfl (fun _ => aE 0 dW rfl) (bW rfl rfl rfl (aL 2 (.int _ _) aW M3 rfl rfl rfl) (aX rfl rfl rfl (fun _ => bU fV Tryz.underlying2 rfl (kO _ (by omega) (by omega))) (bW rfl rfl rfl (aL 1 (.slice _ _ _) uH M3 rfl rfl rfl) ?_))))
 refine gR rfl rfl rfl (bW rfl rfl rfl (bR (i) xJ rfl rfl rfl ((RS.memY M3 hdS).below_len (aJ cJ hs)) ((RS.memY M3 hdS).someK (aJ cJ hs))) (bW rfl rfl rfl (bH 0 aAf (RS.memY M3 hdS) (Nat.lt_of_le_of_lt (Nat.zero_le _) ((RS.memY M3 hdS).below_len (aJ cJ hs))) rfl) ?_))
 refine bW rfl rfl rfl (dS (o := 0) (.int _ _) lJ (RS.memY M3 hdS) (aJ cJ hs) rfl rfl) (aX rfl rfl rfl (fun _ => bQ rfl rfl (by omega) (by omega)) (aX rfl rfl rfl (fun _ => aE 8 fO rfl) (aX rfl rfl rfl (fun _ => aE 0 dW rfl) (bW rfl rfl rfl (aL 2 (.int _ _) aW M3 rfl rfl rfl) ?_))))
 refine aX rfl rfl rfl (fun _ => gO rfl rfl (by decide)) (fY 22 (.int .i32 (b.vx / 64)) (iE (aIb _)) (aX rfl rfl rfl (fun _ => bU fV Tryz.underlying2 rfl (kO _ (by omega) (by omega))) (aX rfl rfl rfl (fun _ => bQ rfl rfl (by omega) (by omega)) (fY 24 (.int .i64 (aIx b s.1)) rfl (qO rfl rfl rfl ?_)))))
 refine cE (aC (aD (bP [(0, 0), (1, 0), (2, 1), (3, 0), (4, 1), (5, 0), (6, 1), (7, 1), (8, 1), (9, 0), (10, 0), (11, 0), (12, 1), (13, 0), (14, 0), (15, 0), (16, 0)] mixed rfl (by kernel_rfl) (fun w4 hb4 hh4 => ?_))))
 have M4 := M3.drew hb4 hh4
 refine aX rfl rfl rfl (fun _ => aE 6 gU rfl) (aX rfl rfl rfl (fun _ => aE 1 dO rfl) (bW rfl rfl rfl (aL 2 (.int _ _) aW M4 rfl rfl rfl) (aX rfl rfl rfl (fun _ => bU fV Tryz.underlying2 rfl (kO _ (by omega) (by omega))) (bW rfl rfl rfl (aL 1 (.slice _ _ _) uH M4 rfl rfl rfl) ?_))))
 refine gR rfl rfl rfl (bW rfl rfl rfl (bR (i) xJ rfl rfl rfl ((RS.memY M4 hdS).below_len (aJ cJ hs)) ((RS.memY M4 hdS).someK (aJ cJ hs))) (bW rfl rfl rfl (bH 1 xM (RS.memY M4 hdS) (Nat.lt_of_le_of_lt (Nat.zero_le _) ((RS.memY M4 hdS).below_len (aJ cJ hs))) rfl) ?_))
 refine bW rfl rfl rfl (dS (o := 1) (.int _ _) lJ (RS.memY M4 hdS) (aJ cJ hs) rfl rfl) (aX rfl rfl rfl (fun _ => bQ rfl rfl (by omega) (by omega)) (aX rfl rfl rfl (fun _ => aE 8 fO rfl) (aX rfl rfl rfl (fun _ => aE 1 dO rfl) (bW rfl rfl rfl (aL 2 (.int _ _) aW M4 rfl rfl rfl) ?_))))
 refine aX rfl rfl rfl (fun _ => gO rfl rfl (by decide)) (fY 38 (.int .i32 (b.vy / 64)) (iE (aIb _)) (aX rfl rfl rfl (fun _ => bU fV Tryz.underlying2 rfl (kO _ (by omega) (by omega))) (aX rfl rfl rfl (fun _ => bQ rfl rfl (by omega) (by omega)) (fY 40 (.int .i64 (aLb b s.2)) rfl (qO rfl rfl rfl ?_)))))
 refine cE (aC (aD (aA (aY rfl rfl (cT [.pointer _] [[.pointer (some ⟨bf, 0, none⟩)]] rfl aCy M4 rfl rfl rfl rfl (dA rfl) (by decide) (fun b5 w5 M5 => ?_))))))
 have hlit42 := jY (T := 174) (sz := 1) (b := b5) (nn := 1) [[.pointer (some ⟨bf, 0, none⟩)]] (by simp) rfl (by decide)
 refine cA zG rfl rfl (kK _ (aIx b s.1) 1073741824 ⟨by decide, by decide⟩ bf _ _ 1 (hlit42.rd M5 (aP (i := 4) rfl)) (hlit42.awayB M5 4 0 rfl rfl rfl) (M5.ownSeg 0 1)) ?_
 rintro v6 w6 ⟨rfl, hM6⟩
 have M6 : Mem _ _ [_, _, _, _, _] _ := M5.seg 0 1 hM6
 refine aY rfl rfl (cT [.pointer _] [[.pointer (some ⟨bf, 0, none⟩)]] rfl aCy M6 rfl rfl rfl rfl (dA rfl) (by decide) (fun b7 w7 M7 => ?_))
 have hlit45 := jY (T := 174) (sz := 1) (b := b7) (nn := 1) [[.pointer (some ⟨bf, 0, none⟩)]] (by simp) rfl (by decide)
 refine cA zG rfl rfl (kK _ (aLb b s.2) 1073741824 ⟨by decide, by decide⟩ bf _ _ 1 (hlit45.rd M7 (aP (i := 5) rfl)) (hlit45.awayB M7 5 0 rfl rfl rfl) (M7.ownSeg 0 1)) ?_
 rintro v8 w8 ⟨rfl, hM8⟩
 have M8 : Mem _ _ [_, _, _, _, _, _] _ := M7.seg 0 1 hM8
 refine wq (cF [(0, .int _ _), (1, .int _ _)] _ gD rfl rfl) rfl (wq (aE 6 gU rfl) rfl (aFg 2 _ bL M8 rfl rfl rfl rfl rfl (aR rfl) (Nat.le_of_ble_eq_true rfl) (fun w9 M9 => (aB (aC (aD (aA (wq (bA 2 bS M9 rfl rfl rfl) rfl (bC 3 _ bS M9 rfl rfl rfl rfl rfl (aR rfl) rfl (fun w10 M10 => ?_))))))))))
 refine aB (aC (aO (eQ 3 bS M10 rfl rfl rfl ?_)))
 exact ⟨rfl, by rw [show (fl || aQd b s.1 s.2) = ((fl || decide (iX (aIx b s.1) 1073741824 ≠ aIx b s.1)) || decide (iX (aLb b s.2) 1073741824 ≠ aLb b s.2)) from (Bool.or_assoc _ _ _).symm]; exact M10.keep [true, true, false, false, false, false]⟩
set_option maxHeartbeats 4000000 in
theorem aJr (w : World) (A : Option Addr) (n c : Nat) (xs : List Body) (R : Rd w 10 A n (xs.map aF)) (hb : ∀ b ∈ xs, Okb b) (hn : n ≤ 1048576) (bf bl : Nat) (G : Body → Int × Int) (hG : ∀ b ∈ xs, (-1152921504606846976 ≤ (G b).1 ∧ (G b).1 ≤ 1152921504606846976) ∧ -1152921504606846976 ≤ (G b).2 ∧ (G b).2 ≤ 1152921504606846976) (C : Option Addr) (cm : Nat) (RS : Rd w 2 C n ((xs.map G).map cJ)) (hO : Own [(some bf, bc [.bool false] 4), (some bl, bc [.slice C n cm] 127)] w) (hdA : 0 < n → ∀ q off, A = some ⟨q, off, none⟩ → q ∉ bJ [(some bf, bc [.bool false] 4), (some bl, bc [.slice C n cm] 127)]) (hdS : 0 < n → ∀ q off, C = some ⟨q, off, none⟩ → q ∉ bJ [(some bf, bc [.bool false] 4), (some bl, bc [.slice C n cm] 127)]) :
  Calls Tryz.prog 109 #[.slice A n c, .func (.func 113) #[] #[.pointer (some ⟨bl, 0, none⟩), .pointer (some ⟨bf, 0, none⟩)]] w (fun ex w' => ∃ v, ex = .returned v ∧ (fun v w' => ∃ r : Row, v = .slice r.A r.n r.c ∧ aU 39 10 r.A r.n r.c ((xs.map (fun b => aEv b (G b).1 (G b).2)).map aF) r.e ∧ Mem w (bJ [(some bf, bc [.bool false] 4), (some bl, bc [.slice C n cm] 127)]) [(some bf, bc [.bool (xs.any (fun b => aQd b (G b).1 (G b).2))] 4), (some bl, bc [.slice C n cm] 127), r.e] w') v w') := by
 have hlen : xs.length = n := by simpa using R.len
 have hbd := R.bound
 refine aH #[.tmp 4] 24 Tryz.func109 rfl Tryz.results109 Tryz.ntmps109 rfl ?_
 have M0 := hO.mem
 refine aD (aA (fJ rfl rfl (aB (aC (aD (aA (fJ rfl rfl ?_)))))))
 have M1 := M0.dummy default
 refine aB (aC (aD (aD (aA (dV rfl rfl (wq (cN Tryz.underlying29 rfl) rfl (aY rfl rfl (aB (aC (aT (dL (σ := Nat × Row) [1, 4, 8, 9] (fun (k, q) => [(5, .slice q.A q.n q.c), (10, .int .i64 (k : Int))]) (fun (k, q) w' => (k ≤ n ∧ aU 39 10 q.A q.n q.c (((xs.take k).map (fun b => aEv b (G b).1 (G b).2)).map aF) q.e) ∧ Mem w (bJ [(some bf, bc [.bool false] 4), (some bl, bc [.slice C n cm] 127)]) [(some bf, bc [.bool ((xs.take k).any (fun b => aQd b (G b).1 (G b).2))] 4), (some bl, bc [.slice C n cm] 127), q.e] w') (fun (k, q) => n - k) (0, fR) (bM rfl (bM rfl eX)) (⟨⟨by omega, aU.nil _ _ _⟩, M1⟩) ?_)))))))))))
 rintro ⟨k, q⟩ ρ2 w2 ⟨⟨hk, hq⟩, hM2⟩
 have htl := List.length_take_le k xs
 have hqn : (xs.take k).length = q.n := by simpa using hq.1
 refine aD (aA (cY rfl rfl rfl rfl (aB (aC (aD ?_)))))
 refine bB rfl (fun h11 => ?_) (fun h11 => ?_)
 ·obtain ⟨xb, hxb⟩ := cI (xs := xs) (k := k) hlen (by omega)
  refine aK (aC (aD (aT (aD (aA (aY rfl rfl (wq (bR (k) fG rfl rfl rfl ((R.memY hM2 hdA).below_len (aJ aF hxb)) ((R.memY hM2 hdA).someK (aJ aF hxb))) rfl (wq (dZ _ bS (R.memY hM2 hdA) (aJ aF hxb) rfl) rfl (aQ gW hM2 rfl rfl (fun b3 w3 M3 => ?_))))))))))
  refine bO rfl rfl (bC 3 _ bS M3 rfl rfl rfl rfl rfl (aR rfl) rfl (fun w4 M4 => (aB (aC (aA (dV rfl rfl (wq (aG (.func _ _ _) rfl) rfl (aY rfl rfl ?_))))))))
  refine wq (bA 3 bS M4 rfl rfl rfl) rfl (cA bDc rfl rfl (aQr _ k xb (hb xb (List.mem_of_getElem? hxb)) bf bl _ C n cm (xs.map G) (RS.memY M4 hdS) (G xb) (aJ G hxb) (hG xb (List.mem_of_getElem? hxb)) (M4.ownSeg 0 2) (M4.away 0 2 RS hdS)) ?_)
  rintro v5 w5 ⟨rfl, hM5⟩
  have M5 : Mem _ _ [_, _, _, _] _ := M4.seg 0 2 hM5
  refine cT [.agg (List.toArray _)] [aF (aEv xb (G xb).1 (G xb).2)] rfl fG M5 rfl rfl rfl rfl (dA rfl) (by decide) (fun b6 w6 M6 => (dR 2 [aF (aEv xb (G xb).1 (G xb).2)] fG M6 rfl rfl rfl rfl rfl hq rfl (by simp [aF, Go.Bil.one]) (cZ.ofMem 4 M6 rfl) (by omega) (fun A7 c7 e7 w7 M7 hR7 => ?_)))
  refine fJ rfl rfl (aB (dE (aC (aA (wq (bQ rfl rfl (by omega) (by omega)) rfl (aY rfl rfl ?_))))))
  refine aB ?_
  refine cR (k + 1, ⟨A7, q.n + 1, c7, e7⟩) (bM rfl (bM rfl eX)) (cV rfl (cV rfl (cV rfl (cV rfl kA)))) ?_ ?_
  ·exact ⟨⟨by omega, by rw [cP hxb, List.map_append, List.map_append]; exact hR7⟩, by rw [cP hxb, List.any_append, List.any_cons, List.any_nil, Bool.or_false]; exact M7.keep [true, true, true, false, false]⟩
  ·(show n - (k + 1) < n - k; omega)
 ·have hkn : k = n := by omega
  rw [List.take_of_length_le (by omega)] at hq
  rw [List.take_of_length_le (by omega)] at hM2
  refine cQ (dC (cX (eT (aC (aD (aA (dV rfl rfl ?_)))))))
  refine fJ rfl rfl (aB (aC (aO (cD (.slice _ _ _) rfl ?_))))
  exact ⟨q, rfl, hq, hM2⟩
set_option maxHeartbeats 4000000 in
theorem aUt (w : World) (A : Option Addr) (n c : Nat) (xs : List Body) (R : Rd w 10 A n (xs.map aF)) (hb : ∀ b ∈ xs, Okb b) (hn : n ≤ 1048576) (G : Body → Int × Int) (hG : ∀ b ∈ xs, (-1152921504606846976 ≤ (G b).1 ∧ (G b).1 ≤ 1152921504606846976) ∧ -1152921504606846976 ≤ (G b).2 ∧ (G b).2 ≤ 1152921504606846976) (C : Option Addr) (cm : Nat) (RS : Rd w 2 C n ((xs.map G).map cJ)) :
  Calls Tryz.prog 67 #[.slice A n c, .slice C n cm] w (fun ex w' => ∃ v, ex = .returned v ∧ (fun v w' => ∃ r : Row, v = .tuple #[.slice r.A r.n r.c, .bool (xs.any (fun b => aQd b (G b).1 (G b).2))] ∧ aU 39 10 r.A r.n r.c ((xs.map (fun b => aEv b (G b).1 (G b).2)).map aF) r.e ∧ Mem w [] [r.e] w') v w') := by
 refine aH #[.tmp 4, .tmp 5] 13 Tryz.func67 rfl Tryz.results67 Tryz.ntmps67 rfl ?_
 have M0 := Mem.refl w
 refine aD (aA (bE (.slice _ _ _) M0 rfl rfl rfl (fun b1 w1 M1 => (fJ rfl rfl (wq (aI (.bool false) rfl) rfl (aB (aC (aD (aA (aQ aNr M1 rfl rfl (fun b2 w2 M2 => ?_)))))))))))
 refine eD 1 (.bool false) mD M2 rfl rfl rfl rfl rfl rfl (fun w3 M3 => (aB (aC (aD (aA ?_)))))
 have M4 : Mem _ _ [_, _] _ := Mem.swap2 M3
 refine dV rfl rfl (wq (cL [] [.pointer _, .pointer _] rfl rfl) rfl (cA aUr rfl rfl (aJr _ A n c xs (R.mem M4) hb hn b2 b1 G hG C cm (RS.mem M4) (M4.ownSeg 0 2) (M4.away 0 2 R (by simp)) (M4.away 0 2 RS (by simp))) ?_))
 rintro v5 w5 ⟨r, rfl, hr, hM5⟩
 have M5 : Mem _ _ [_, _, _] _ := M4.seg 0 2 hM5
 refine fJ rfl rfl (aB (aC (aD (bP [(0, 0), (1, 1), (2, 0), (3, 0)] mixed rfl (by kernel_rfl) (fun w6 hb6 hh6 => ?_)))))
 have M6 := M5.drew hb6 hh6
 refine xG rfl rfl rfl (bW rfl rfl rfl (aL 0 (.bool _) mD M6 rfl rfl rfl) (aX rfl rfl rfl (fun _ => aI (.slice _ _ _) rfl) (aX rfl rfl rfl (fun _ => aI (.bool _) rfl) (cE (aC (aO ?_))))))
 refine iM (.slice _ _ _) (.bool _) rfl rfl ?_
 exact ⟨r, rfl, hr, M6.keep [false, false, true]⟩
set_option maxHeartbeats 4000000 in
theorem aLc (w : World) (bs : Nat) (vr lr : Row) (tt mm : Int) (cl : Bool) (A : Option Addr) (n c : Nat) (q : Row) (c2 : Bool) (hO : Own [(some bs, bc [.slice A n c, .slice vr.A vr.n vr.c, .slice lr.A lr.n lr.c, .int .i64 tt, .int .i64 mm, .bool cl] 168)] w) :
  Calls Tryz.prog 145 #[.pointer (some ⟨bs, 0, none⟩), .slice q.A q.n q.c, .bool c2] w (fun ex w' => ∃ v, ex = .returned v ∧ (fun v w' => v = .tuple #[] ∧ Mem w (bJ [(some bs, bc [.slice A n c, .slice vr.A vr.n vr.c, .slice lr.A lr.n lr.c, .int .i64 tt, .int .i64 mm, .bool cl] 168)]) [(some bs, bc [.slice A n c, .slice q.A q.n q.c, .slice lr.A lr.n lr.c, .int .i64 tt, .int .i64 mm, .bool (cl || c2)] 168)] w') v w') := by
 refine aH #[] 22 Tryz.func145 rfl Tryz.results145 Tryz.ntmps145 rfl ?_
 have M0 := hO.mem
 refine aD (aA (wq (aG (.pointer _) rfl) rfl (dV rfl rfl (wq (aM rfl) rfl (wq (aE 1 tD rfl) rfl (eD 0 (.slice _ _ _) fD M0 rfl rfl rfl rfl rfl rfl (fun w1 M1 => ?_)))))))
 refine aB (aC (aA (wq (aG (.pointer _) rfl) rfl (wq (aG (.pointer _) rfl) rfl (wq (aM rfl) rfl (wq (aE 3 nJ rfl) rfl (wq (aE 2 xB rfl) rfl ?_)))))))
 refine wq (aL 0 (.bool _) mD M1 rfl rfl rfl) rfl (wq (aG (.bool _) rfl) rfl ?_)
 refine nM 16 _ rfl (fun g16 => ?_) (fun g16 => ?_)
 ·refine aS rfl rfl (wq (bX true (.bool true) rfl rfl) rfl (wq (aM rfl) rfl (wq (aE 3 nJ rfl) rfl (wq (aE 2 xB rfl) rfl (eD 0 (.bool true) mD M1 rfl rfl rfl rfl rfl rfl (fun w2 M2 => ?_))))))
  refine aB (iZ ?_)
  first | exact ⟨rfl, by rw [(by simp only [g16, Bool.true_or] : (cl || c2) = true)]; exact M2⟩ | exact ⟨rfl, by rw [(by simp only [g16, Bool.false_or] : (cl || c2) = c2)]; exact M2⟩
 ·refine wq (aG (.bool _) rfl) rfl (wq (bX false (.bool _) rfl rfl) rfl (wq (aM rfl) rfl (wq (aE 3 nJ rfl) rfl (wq (aE 2 xB rfl) rfl (eD 0 (.bool _) mD M1 rfl rfl rfl rfl rfl rfl (fun w3 M3 => ?_))))))
  refine aB (iZ ?_)
  first | exact ⟨rfl, by rw [(by simp only [g16, Bool.true_or] : (cl || c2) = true)]; exact M3⟩ | exact ⟨rfl, by rw [(by simp only [g16, Bool.false_or] : (cl || c2) = c2)]; exact M3⟩
set_option maxHeartbeats 4000000 in
theorem bAs (w : World) (F : Rd w 2 (some ⟨0, 0, none⟩) 1 [[.int .u32 73856093, .int .u32 19349663]]) (N : Rd w 4 (some ⟨3, 0, none⟩) 1 [cW gT]) (bs : Nat) (vr lr : Row) (tt mm : Int) (cl : Bool) (A : Option Addr) (n c : Nat) (xs : List Body) (R : Rd w 10 A n (xs.map aF)) (hb : ∀ b ∈ xs, Okb b) (hs : bV xs) (hn : n ≤ 4096) (hO : Own [(some bs, bc [.slice A n c, .slice vr.A vr.n vr.c, .slice lr.A lr.n lr.c, .int .i64 tt, .int .i64 mm, .bool cl] 168)] w) (hdA : 0 < n → ∀ q off, A = some ⟨q, off, none⟩ → q ∉ bJ [(some bs, bc [.slice A n c, .slice vr.A vr.n vr.c, .slice lr.A lr.n lr.c, .int .i64 tt, .int .i64 mm, .bool cl] 168)]) (hdF : 0 < 1 → ∀ q off, (some ⟨0, 0, none⟩ : Option Addr) = some ⟨q, off, none⟩ → q ∉ bJ [(some bs, bc [.slice A n c, .slice vr.A vr.n vr.c, .slice lr.A lr.n lr.c, .int .i64 tt, .int .i64 mm, .bool cl] 168)]) (hdN : 0 < 1 → ∀ q off, (some ⟨3, 0, none⟩ : Option Addr) = some ⟨q, off, none⟩ → q ∉ bJ [(some bs, bc [.slice A n c, .slice vr.A vr.n vr.c, .slice lr.A lr.n lr.c, .int .i64 tt, .int .i64 mm, .bool cl] 168)]) :
  Calls Tryz.prog 105 #[.pointer (some ⟨bs, 0, none⟩)] w (fun ex w' => ∃ v, ex = .returned v ∧ (fun v w' => v = .tuple #[] ∧ ∃ (r : Row) (m : Nat), (lG xs).length ≤ m ∧ 2 * m ≤ xs.length * (xs.length - 1) ∧ aU 211 5 r.A r.n r.c ((mF xs).map cK) r.e ∧ Mem w (bJ [(some bs, bc [.slice A n c, .slice vr.A vr.n vr.c, .slice lr.A lr.n lr.c, .int .i64 tt, .int .i64 mm, .bool cl] 168)]) [(some bs, bc [.slice A n c, .slice vr.A vr.n vr.c, .slice r.A r.n r.c, .int .i64 (m : Int), .int .i64 (r.n : Int), .bool cl] 168), r.e] w') v w') := by
 refine aH #[] 26 Tryz.func105 rfl Tryz.results105 Tryz.ntmps105 rfl ?_
 have M0 := hO.mem
 refine aD (aA (wq (aG (.pointer _) rfl) rfl (wq (aG (.pointer _) rfl) rfl (wq (aG (.pointer _) rfl) rfl (wq (aM rfl) rfl (wq (aE 0 yR rfl) rfl ?_))))))
 refine wq (aL 0 (.slice _ _ _) fD M0 rfl rfl rfl) rfl (cA bGc rfl rfl (aFb _ (F.memY M0 hdF) (N.memY M0 hdN) A n c xs (R.memY M0 hdA) hb hs hn) ?_)
 rintro v1 w1 ⟨r, m, rfl, hm1, hm2, hr, hM1⟩
 have M1 : Mem _ _ [_, _] _ := M0.call0 hM1
 refine wq (aG (.tuple (List.toArray _)) rfl) rfl (wq (bG (.slice _ _ _) rfl rfl) rfl (wq (bG (.int _ _) rfl rfl) rfl (wq (aM rfl) rfl (wq (aE 2 tK rfl) rfl (eD 0 (.slice _ _ _) lH M1 rfl rfl rfl rfl rfl rfl (fun w2 M2 => ?_))))))
 refine wq (aM rfl) rfl (wq (aE 3 nJ rfl) rfl (wq (aE 0 aXo rfl) rfl (eD 0 (.int _ _) gY M2 rfl rfl rfl rfl rfl rfl (fun w3 M3 => (aB (aC (aA (wq (aG (.pointer _) rfl) rfl ?_))))))))
 refine wq (aG (.pointer _) rfl) rfl (wq (aM rfl) rfl (wq (aE 2 tK rfl) rfl (wq (aL 0 (.slice _ _ _) lH M3 rfl rfl rfl) rfl (wq (cN Tryz.underlying166 rfl) rfl (wq (aM rfl) rfl ?_)))))
 refine wq (aE 3 nJ rfl) rfl (wq (aE 1 aNc rfl) rfl (eD 0 (.int _ _) gY M3 rfl rfl rfl rfl rfl rfl (fun w4 M4 => (aB (iZ ?_)))))
 exact ⟨rfl, r, m, hm1, hm2, hr, M4⟩
set_option maxHeartbeats 4000000 in
theorem aXa (w : World) (bs : Nat) (vr lr : Row) (tt mm : Int) (cl : Bool) (A : Option Addr) (n c : Nat) (xs : List Body) (R : Rd w 10 A n (xs.map aF)) (hb : ∀ b ∈ xs, Okb b) (hn : n ≤ 1048576) (hO : Own [(some bs, bc [.slice A n c, .slice vr.A vr.n vr.c, .slice lr.A lr.n lr.c, .int .i64 tt, .int .i64 mm, .bool cl] 168)] w) (hdA : 0 < n → ∀ q off, A = some ⟨q, off, none⟩ → q ∉ bJ [(some bs, bc [.slice A n c, .slice vr.A vr.n vr.c, .slice lr.A lr.n lr.c, .int .i64 tt, .int .i64 mm, .bool cl] 168)]) :
  Calls Tryz.prog 106 #[.pointer (some ⟨bs, 0, none⟩)] w (fun ex w' => ∃ v, ex = .returned v ∧ (fun v w' => v = .tuple #[] ∧ ∃ r : Row, aU 39 10 r.A r.n r.c ((rI xs).map aF) r.e ∧ Mem w (bJ [(some bs, bc [.slice A n c, .slice vr.A vr.n vr.c, .slice lr.A lr.n lr.c, .int .i64 tt, .int .i64 mm, .bool cl] 168)]) [(some bs, bc [.slice A n c, .slice r.A r.n r.c, .slice lr.A lr.n lr.c, .int .i64 tt, .int .i64 mm, .bool (cl || xs.any pH)] 168), r.e] w') v w') := by
 refine aH #[] 11 Tryz.func106 rfl Tryz.results106 Tryz.ntmps106 rfl ?_
 have M0 := hO.mem
 refine aA (wq (aG (.pointer _) rfl) rfl (wq (aG (.pointer _) rfl) rfl (wq (aM rfl) rfl (wq (aE 0 yR rfl) rfl (wq (aL 0 (.slice _ _ _) fD M0 rfl rfl rfl) rfl ?_)))))
 refine cA bIg rfl rfl (aFt _ A n c xs (R.memY M0 hdA) hb hn) ?_
 rintro v1 w1 ⟨r, rfl, hr, hM1⟩
 have M1 : Mem _ _ [_, _] _ := M0.call0 hM1
 refine wq (bG (.slice _ _ _) rfl rfl) rfl (wq (bG (.bool _) rfl rfl) rfl (cA aLt rfl rfl (aLc _ bs vr lr tt mm cl A n c r _ (M1.ownSeg 0 1)) ?_))
 rintro v2 w2 ⟨rfl, hM2⟩
 have M2 : Mem _ _ [_, _] _ := M1.seg 0 1 hM2
 refine aB (iZ ?_)
 exact ⟨rfl, r, hr, M2⟩
set_option maxHeartbeats 4000000 in
theorem aWe (w : World) (bs : Nat) (vr lr : Row) (tt mm : Int) (cl : Bool) (A : Option Addr) (n c : Nat) (ys : List Body) (cs : List Con) (RV : Rd w 10 vr.A vr.n (ys.map aF)) (RL : Rd w 5 lr.A lr.n (cs.map cK)) (hs : bV ys) (hb : ∀ b ∈ ys, Okb b) (hn : vr.n ≤ 1048576) (hcs : ∀ c ∈ cs, OkC ys c) (hmc : lr.n ≤ 8589934592) (hO : Own [(some bs, bc [.slice A n c, .slice vr.A vr.n vr.c, .slice lr.A lr.n lr.c, .int .i64 tt, .int .i64 mm, .bool cl] 168)] w) (hdV : 0 < vr.n → ∀ q off, vr.A = some ⟨q, off, none⟩ → q ∉ bJ [(some bs, bc [.slice A n c, .slice vr.A vr.n vr.c, .slice lr.A lr.n lr.c, .int .i64 tt, .int .i64 mm, .bool cl] 168)]) (hdL : 0 < lr.n → ∀ q off, lr.A = some ⟨q, off, none⟩ → q ∉ bJ [(some bs, bc [.slice A n c, .slice vr.A vr.n vr.c, .slice lr.A lr.n lr.c, .int .i64 tt, .int .i64 mm, .bool cl] 168)]) :
  Calls Tryz.prog 107 #[.pointer (some ⟨bs, 0, none⟩)] w (fun ex w' => ∃ v, ex = .returned v ∧ (fun v w' => v = .tuple #[] ∧ ∃ r : Row, aU 39 10 r.A r.n r.c (((iF ys cs 4).1).map aF) r.e ∧ Mem w (bJ [(some bs, bc [.slice A n c, .slice vr.A vr.n vr.c, .slice lr.A lr.n lr.c, .int .i64 tt, .int .i64 mm, .bool cl] 168)]) [(some bs, bc [.slice A n c, .slice r.A r.n r.c, .slice lr.A lr.n lr.c, .int .i64 tt, .int .i64 mm, .bool (cl || (iF ys cs 4).2)] 168), r.e] w') v w') := by
 refine aH #[] 15 Tryz.func107 rfl Tryz.results107 Tryz.ntmps107 rfl ?_
 have M0 := hO.mem
 refine bP [(0, 0), (1, 0), (2, 0), (3, 0), (4, 1), (5, 0), (6, 0), (7, 0), (8, 1), (9, 2), (10, 0), (11, 0), (12, 2)] mixed rfl (by kernel_rfl) (fun w1 hb1 hh1 => ?_)
 have M1 := M0.drew hb1 hh1
 refine aX rfl rfl rfl (fun _ => aG (.pointer _) rfl) (aX rfl rfl rfl (fun _ => aG (.pointer _) rfl) (aX rfl rfl rfl (fun _ => aM rfl) (aX rfl rfl rfl (fun _ => aE 1 tD rfl) (bW rfl rfl rfl (aL 0 (.slice _ _ _) fD M1 rfl rfl rfl) (aX rfl rfl rfl (fun _ => aG (.pointer _) rfl) ?_)))))
 refine aX rfl rfl rfl (fun _ => aM rfl) (aX rfl rfl rfl (fun _ => aE 2 tK rfl) (bW rfl rfl rfl (aL 0 (.slice _ _ _) lH M1 rfl rfl rfl) (dM [true, true] rfl (by kernel_rfl) (cA bCe rfl rfl (aPq _ vr.A vr.n vr.c ys (RV.memY M1 hdV) hs hb hn lr.A lr.n lr.c cs (RL.memY M1 hdL) hcs hmc) ?_))))
 rintro v2 w2 ⟨r, rfl, hr, hM2⟩
 have M2 : Mem _ _ [_, _] _ := M1.call0 hM2
 refine aB (aC ⟨dN, ?_⟩)
 refine aX rfl rfl rfl (fun _ => bG (.slice _ _ _) rfl rfl) (aX rfl rfl rfl (fun _ => bG (.bool _) rfl rfl) (dM [] rfl (by kernel_rfl) (cA aLt rfl rfl (aLc _ bs vr lr tt mm cl A n c r _ (M2.ownSeg 0 1)) ?_)))
 rintro v3 w3 ⟨rfl, hM3⟩
 have M3 : Mem _ _ [_, _] _ := M2.seg 0 1 hM3
 refine aB (aC ⟨dN, ?_⟩)
 refine cE (iZ ?_)
 exact ⟨rfl, r, hr, M3⟩
set_option maxHeartbeats 4000000 in
theorem aYv (w : World) (bs : Nat) (vr lr : Row) (tt mm : Int) (cl : Bool) (A : Option Addr) (n c : Nat) (xs : List Body) (R : Rd w 10 A n (xs.map aF)) (ys : List Body) (cs : List Con) (RV : Rd w 10 vr.A vr.n (ys.map aF)) (RL : Rd w 5 lr.A lr.n (cs.map cK)) (hs : bV xs) (hb : ∀ b ∈ xs, Okb b) (hb2 : ∀ b ∈ ys, Okb b) (hn : n ≤ 1048576) (hvn : vr.n = n) (hcs : ∀ c ∈ cs, OkC xs c) (hmc : lr.n ≤ 1073741824) (hsh : xs.map (iY xs cs) = ys.map (iY xs cs)) (hG : ∀ b ∈ ys, (-1152921504606846976 ≤ (iY xs cs b).1 ∧ (iY xs cs b).1 ≤ 1152921504606846976) ∧ -1152921504606846976 ≤ (iY xs cs b).2 ∧ (iY xs cs b).2 ≤ 1152921504606846976) (hO : Own [(some bs, bc [.slice A n c, .slice vr.A vr.n vr.c, .slice lr.A lr.n lr.c, .int .i64 tt, .int .i64 mm, .bool cl] 168)] w) (hdA : 0 < n → ∀ q off, A = some ⟨q, off, none⟩ → q ∉ bJ [(some bs, bc [.slice A n c, .slice vr.A vr.n vr.c, .slice lr.A lr.n lr.c, .int .i64 tt, .int .i64 mm, .bool cl] 168)]) (hdV : 0 < vr.n → ∀ q off, vr.A = some ⟨q, off, none⟩ → q ∉ bJ [(some bs, bc [.slice A n c, .slice vr.A vr.n vr.c, .slice lr.A lr.n lr.c, .int .i64 tt, .int .i64 mm, .bool cl] 168)]) (hdL : 0 < lr.n → ∀ q off, lr.A = some ⟨q, off, none⟩ → q ∉ bJ [(some bs, bc [.slice A n c, .slice vr.A vr.n vr.c, .slice lr.A lr.n lr.c, .int .i64 tt, .int .i64 mm, .bool cl] 168)]) :
  Calls Tryz.prog 108 #[.pointer (some ⟨bs, 0, none⟩)] w (fun ex w' => ∃ v, ex = .returned v ∧ (fun v w' => v = .tuple #[] ∧ ∃ r : Row, aU 39 10 r.A r.n r.c ((aMm xs cs ys).map aF) r.e ∧ Mem w (bJ [(some bs, bc [.slice A n c, .slice vr.A vr.n vr.c, .slice lr.A lr.n lr.c, .int .i64 tt, .int .i64 mm, .bool cl] 168)]) [(some bs, bc [.slice A n c, .slice r.A r.n r.c, .slice lr.A lr.n lr.c, .int .i64 tt, .int .i64 mm, .bool (cl || aSn xs cs ys)] 168), r.e] w') v w') := by
 have hlen : xs.length = n := by simpa using R.len
 refine aH #[] 20 Tryz.func108 rfl Tryz.results108 Tryz.ntmps108 rfl ?_
 have M0 := hO.mem
 refine bP [(0, 0), (1, 0), (2, 0), (3, 0), (4, 1), (5, 0), (6, 0), (7, 0), (8, 1), (9, 0), (10, 0), (11, 0), (12, 1), (13, 2), (14, 2), (15, 0), (16, 0), (17, 2)] mixed rfl (by kernel_rfl) (fun w1 hb1 hh1 => ?_)
 have M1 := M0.drew hb1 hh1
 refine aX rfl rfl rfl (fun _ => aG (.pointer _) rfl) (aX rfl rfl rfl (fun _ => aG (.pointer _) rfl) (aX rfl rfl rfl (fun _ => aM rfl) (aX rfl rfl rfl (fun _ => aE 1 tD rfl) (bW rfl rfl rfl (aL 0 (.slice _ _ _) fD M1 rfl rfl rfl) (aX rfl rfl rfl (fun _ => aG (.pointer _) rfl) ?_)))))
 refine aX rfl rfl rfl (fun _ => aM rfl) (aX rfl rfl rfl (fun _ => aE 0 yR rfl) (bW rfl rfl rfl (aL 0 (.slice _ _ _) fD M1 rfl rfl rfl) (aX rfl rfl rfl (fun _ => aG (.pointer _) rfl) (aX rfl rfl rfl (fun _ => aM rfl) (aX rfl rfl rfl (fun _ => aE 2 tK rfl) ?_)))))
 refine bW rfl rfl rfl (aL 0 (.slice _ _ _) lH M1 rfl rfl rfl) (dM [true, true, false] rfl (by kernel_rfl) (cA bEk rfl rfl (aIw _ A n c xs (R.memY M1 hdA) hs hb hn lr.A lr.n lr.c cs (RL.memY M1 hdL) hcs hmc) ?_))
 rintro v2 w2 ⟨⟨qA, qn, qc, qe⟩, rfl, hq, hM2⟩
 have hqn : xs.length = qn := by simpa using hq.1
 obtain rfl : qn = vr.n := by omega
 rw [hsh] at hq
 have M2 : Mem _ _ [_, _] _ := M1.call0 hM2
 refine aB (aC ⟨(eL (bN rfl (aL 0 (.slice _ _ _) fD M2 rfl rfl rfl)) dN), ?_⟩)
 refine dM [true] rfl (by kernel_rfl) (cA bHn rfl rfl (aUt _ vr.A vr.n vr.c ys (RV.memY M2 hdV) hb2 (by omega) (iY xs cs) hG qA qc (hq.rd M2 (aP (i := 1) rfl))) ?_)
 rintro v3 w3 ⟨r, rfl, hr, hM3⟩
 have M3 : Mem _ _ [_, _, _] _ := M2.call0 hM3
 refine aB (aC ⟨dN, ?_⟩)
 refine aX rfl rfl rfl (fun _ => bG (.slice _ _ _) rfl rfl) (aX rfl rfl rfl (fun _ => bG (.bool _) rfl rfl) (dM [] rfl (by kernel_rfl) (cA aLt rfl rfl (aLc _ bs vr lr tt mm cl A n c r _ (M3.ownSeg 0 1)) ?_)))
 rintro v4 w4 ⟨rfl, hM4⟩
 have M4 : Mem _ _ [_, _, _] _ := M3.seg 0 1 hM4
 refine aB (aC ⟨dN, ?_⟩)
 refine cE (iZ ?_)
 exact ⟨rfl, r, hr, M4.keep [true, false, true]⟩
theorem aOc {xs : List Body} {cs : List Con} {b b' : Body} (h : SameB b b') : iY xs cs b = iY xs cs b' := by
 unfold iY sS zD
 rw [h.key, h.mass]
theorem aHk {xs ys zs : List Body} {cs : List Con} (h : Like ys zs) : ys.map (iY xs cs) = zs.map (iY xs cs) := by
 apply List.ext_getElem?
 intro i
 rw [List.getElem?_map, List.getElem?_map]
 by_cases hi : i < ys.length
 ·have h1 : ys[i]? = some ys[i] := List.getElem?_eq_getElem hi
  have h2 : zs[i]? = some (zs[i]'(by rw [h.len]; exact hi)) := List.getElem?_eq_getElem _
  rw [h1, h2]
  exact congrArg some (aOc (h.at_ i _ _ h1 h2)).symm
 ·have hl := h.len
  rw [List.getElem?_eq_none (show ys.length ≤ i by omega), List.getElem?_eq_none (show zs.length ≤ i by omega)]
theorem bAu {xs : List Body} {cs : List Con} (hs : bV xs) (hb : ∀ b ∈ xs, Okb b) (hcs : ∀ c ∈ cs, OkC xs c) (hl : cs.length ≤ 1073741824) {zs : List Body} (h : Like xs zs) : ∀ b ∈ zs, (-1152921504606846976 ≤ (iY xs cs b).1 ∧ (iY xs cs b).1 ≤ 1152921504606846976) ∧ -1152921504606846976 ≤ (iY xs cs b).2 ∧ (iY xs cs b).2 ≤ 1152921504606846976 := fun b hbm => by
 have hm : iY xs cs b ∈ zs.map (iY xs cs) := List.mem_map_of_mem hbm
 rw [← aHk h] at hm
 obtain ⟨x, hx, e⟩ := List.mem_map.1 hm
 rw [← e]
 have := aDn hs hb hcs rfl hl cs.length hx
 rwa [List.take_of_length_le (Nat.le_refl _)] at this
set_option maxHeartbeats 16000000 in
theorem aPk (w : World) (F : Rd w 2 (some ⟨0, 0, none⟩) 1 [[.int .u32 73856093, .int .u32 19349663]]) (N : Rd w 4 (some ⟨3, 0, none⟩) 1 [cW gT]) (A : Option Addr) (n c : Nat) (xs : List Body) (R : Rd w 10 A n (xs.map aF)) (hb : ∀ b ∈ xs, Okb b) (hs : bV xs) (hn : n ≤ 4096) :
  Calls Tryz.prog 65 #[.slice A n c] w (fun ex w' => ∃ v, ex = .returned v ∧ (fun v w' => ∃ (r : Row) (t : Nat), v = .tuple #[.slice r.A r.n r.c, .agg [.int .i64 (t : Int), .int .i64 ((mF xs).length : Int), .bool (sJ xs)].toArray] ∧ (mF xs).length ≤ t ∧ 2 * t ≤ xs.length * (xs.length - 1) ∧ aU 39 10 r.A r.n r.c ((pX xs).map aF) r.e ∧ Mem w [] [r.e] w') v w') := by
 have hlen : xs.length = n := by simpa using R.len
 have hnn : xs.length * xs.length ≤ 4096 * 4096 := Nat.mul_le_mul (by omega) (by omega)
 have hcl := aGl xs
 have hsq := bAi (xs := xs)
 refine aH #[.tmp 2, .cell 3 58] 26 Tryz.func65 rfl Tryz.results65 Tryz.ntmps65 rfl ?_
 have M0 := Mem.refl w
 refine aD (aA (fJ rfl rfl (aQ aDm M0 rfl rfl (fun b1 w1 M1 => (aB (aC (aD (aA (dV rfl rfl (wq (cF [(0, .slice _ _ _)] _ aPh rfl rfl) rfl ?_))))))))))
 refine bE (.agg (List.toArray _)) M1 rfl rfl rfl (fun b2 w2 M2 => (wq (aI (.pointer _) rfl) rfl (aB (aC (aD (aD (aA (wq (pF [.func _ _ _, .func _ _ _, .func _ _ _, .func _ _ _] zP aXf rfl rfl (dA rfl)) rfl (aY rfl rfl (aB (aC (aT ?_))))))))))))
 refine lN 5 (iI (aD (aA (cY rfl rfl rfl rfl (nU 12 rfl (by first | decide | omega) (aB (aC (aD (cS rfl ?_)))))))))
 refine aK (aC (aD (aT (aD (aA (wq (uY 0 (.func _ _ _) zP aEn rfl rfl (by decide) (by decide) rfl rfl) rfl (wq (aI (.func _ _ _) rfl) rfl (aB (aC (aA (wq (aG (.func _ _ _) rfl) rfl (wq (aG (.pointer _) rfl) rfl ?_))))))))))))
 refine cA bDo rfl rfl (bAs _ (F.mem M2) (N.mem M2) b2 fR fR 0 0 false A n c xs (R.mem M2) hb hs hn (M2.ownSeg 1 1) (M2.away 1 1 R (by simp)) (M2.away 1 1 F (by simp)) (M2.away 1 1 N (by simp))) ?_
 rintro v3 w3 ⟨rfl, r, tm, ht1, ht2, hr, hM3⟩
 have M3 : Mem _ _ [_, _, _] _ := M2.seg 1 1 hM3
 have hrn : (mF xs).length = r.n := by simpa using hr.1
 refine aB (dE (aC (aA (wq (bQ rfl rfl (by first | decide | omega) (by first | decide | omega)) rfl (aV 17 (.int .i64 1) (iE (by first | decide | omega)) (aY rfl rfl ?_))))))
 refine aB (aC (iI (aD (aA (cY rfl rfl rfl rfl (nU 12 rfl (by first | decide | omega) (aB (aC (aD ?_)))))))))
 refine cS rfl (aK (aC (aD (aT (aD (aA (wq (uY 1 (.func _ _ _) zP aEn rfl rfl (by decide) (by decide) rfl rfl) rfl (wq (aI (.func _ _ _) rfl) rfl (aB (aC (aA (wq (aG (.func _ _ _) rfl) rfl ?_))))))))))))
 refine wq (aG (.pointer _) rfl) rfl (cA bFn rfl rfl (aXa _ b2 fR r (tm : Int) (r.n : Int) false A n c xs (R.mem M3) hb (by omega) (M3.ownSeg 1 1) (M3.away 1 1 R (by simp))) ?_)
 rintro v4 w4 ⟨rfl, g, hg, hM4⟩
 have M4 : Mem _ _ [_, _, _, _] _ := M3.seg 1 1 hM4
 have hgn : (rI xs).length = g.n := by simpa using hg.1
 have hgl := (mZ xs).len
 refine aB (dE (aC (aA (wq (bQ rfl rfl (by first | decide | omega) (by first | decide | omega)) rfl (aV 17 (.int .i64 2) (iE (by first | decide | omega)) (aY rfl rfl ?_))))))
 refine aB (aC (iI (aD (aA (cY rfl rfl rfl rfl (nU 12 rfl (by first | decide | omega) (aB (aC (aD ?_)))))))))
 refine cS rfl (aK (aC (aD (aT (aD (aA (wq (uY 2 (.func _ _ _) zP aEn rfl rfl (by decide) (by decide) rfl rfl) rfl (wq (aI (.func _ _ _) rfl) rfl (aB (aC (aA (wq (aG (.func _ _ _) rfl) rfl ?_))))))))))))
 refine wq (aG (.pointer _) rfl) rfl (cA bFb rfl rfl (aWe _ b2 g r (tm : Int) (r.n : Int) _ A n c (rI xs) (mF xs) (hg.rd M4 (aP (i := 3) rfl)) (hr.rd M4 (aP (i := 2) rfl)) ((mZ xs).sorted hs) (aDw hb) (by omega) (fun c h => (mZ xs).okc (zN hs hb c h)) (by omega) (M4.ownSeg 1 1) (hg.awayB M4 3 1 rfl rfl rfl) (hr.awayB M4 2 1 rfl rfl rfl)) ?_)
 rintro v5 w5 ⟨rfl, s, hsv, hM5⟩
 have M5 : Mem _ _ [_, _, _, _, _] _ := M4.seg 1 1 hM5
 have hsn : (mN xs).length = s.n := by have h := hsv.1; rwa [List.length_map] at h
 have hlk : Like xs (mN xs) := (mZ xs).trans (kD _ _ 4)
 have hsl := hlk.len
 refine aB (dE (aC (aA (wq (bQ rfl rfl (by first | decide | omega) (by first | decide | omega)) rfl (aV 17 (.int .i64 3) (iE (by first | decide | omega)) (aY rfl rfl ?_))))))
 refine aB (aC (iI (aD (aA (cY rfl rfl rfl rfl (nU 12 rfl (by first | decide | omega) (aB (aC (aD ?_)))))))))
 refine cS rfl (aK (aC (aD (aT (aD (aA (wq (uY 3 (.func _ _ _) zP aEn rfl rfl (by decide) (by decide) rfl rfl) rfl (wq (aI (.func _ _ _) rfl) rfl (aB (aC (aA (wq (aG (.func _ _ _) rfl) rfl ?_))))))))))))
 refine wq (aG (.pointer _) rfl) rfl (cA bEx rfl rfl (aYv _ b2 s r (tm : Int) (r.n : Int) _ A n c xs (R.mem M5) (mN xs) (mF xs) (hsv.rd M5 (aP (i := 4) rfl)) (hr.rd M5 (aP (i := 2) rfl)) hs hb (tO (aDw hb) 4) (by omega) (by omega) (zN hs hb) (by omega) (aHk hlk) (bAu hs hb (zN hs hb) (by omega) hlk) (M5.ownSeg 1 1) (M5.away 1 1 R (by simp)) (hsv.awayB M5 4 1 rfl rfl rfl) (hr.awayB M5 2 1 rfl rfl rfl)) ?_)
 rintro v6 w6 ⟨rfl, m, hm, hM6⟩
 have M6 : Mem _ _ [_, _, _, _, _, _] _ := M5.seg 1 1 hM6
 refine aB (dE (aC (aA (wq (bQ rfl rfl (by first | decide | omega) (by first | decide | omega)) rfl (aV 17 (.int .i64 4) (iE (by first | decide | omega)) (aY rfl rfl ?_))))))
 refine aB (aC (iI (aD (aA (cY rfl rfl rfl rfl (tS 12 rfl (by first | decide | omega) (aB (aC (aD ?_)))))))))
 refine bY rfl (cQ (dC (dC (eT (aC (aD (bP [(0, 0), (1, 0), (2, 0), (3, 1), (4, 0), (5, 0), (6, 0), (7, 1), (8, 0), (9, 2)] mixed rfl (by kernel_rfl) (fun w7 hb7 hh7 => ?_))))))))
 have M7 := M6.drew hb7 hh7
 refine aX rfl rfl rfl (fun _ => aG (.pointer _) rfl) (aX rfl rfl rfl (fun _ => aM rfl) (aX rfl rfl rfl (fun _ => aE 1 tD rfl) (bW rfl rfl rfl (aL 1 (.slice _ _ _) fD M7 rfl rfl rfl) (aX rfl rfl rfl (fun _ => aG (.pointer _) rfl) (aX rfl rfl rfl (fun _ => aM rfl) ?_)))))
 refine aX rfl rfl rfl (fun _ => aE 3 nJ rfl) (bW rfl rfl rfl (qB 1 _ vR M7 rfl rfl rfl rfl) (aX rfl rfl rfl (fun _ => aI (.slice _ _ _) rfl) (dM [true, true] rfl (by kernel_rfl) (bC 0 _ vR M7 rfl rfl rfl rfl rfl (aR rfl) rfl (fun w8 M8 => ?_)))))
 refine aB (aC ⟨dN, ?_⟩)
 refine cE (aC (aO (bHf (.slice _ _ _) 0 vR M8 rfl rfl rfl rfl ?_)))
 exact ⟨m, tm, aAx rfl (by rw [hrn]; show Value.agg _ = _; rw [show sJ xs = (((false || xs.any pH) || (iF (rI xs) (mF xs) 4).2) || aSn xs (mF xs) (mN xs)) by unfold sJ; rw [Bool.false_or]]; rfl), by omega, ht2, hm, M8.keep [false, false, false, false, false, true]⟩
end Go.Proofs.YtaoaknafiegfoaaGreatDoor
