/- Part of the proof of the laws of this seat: S20i, S20j, S20k, S20l, S20m, S20n, R20a, R20b, R20c, R20d, R20e, R20f. No conditions. -/
import Derived.Test.YtaoaknafiegfoaaGreatDoorK2
import Derived.Test.YtaoaknafiegfoaaGreatDoorK5
import Derived.Test.YtaoaknafiegfoaaGreatDoorK27
import Derived.Test.YtaoaknafiegfoaaGreatDoorK30
import Derived.Test.YtaoaknafiegfoaaGreatDoorK29
import Derived.Test.YtaoaknafiegfoaaGreatDoorK28
set_option linter.unusedVariables false
set_option linter.unusedSimpArgs false
set_option linter.unnecessarySimpa false
namespace Go.Proofs.YtaoaknafiegfoaaGreatDoor
open Go.Bil
open Go.RowKit (Below)
open Go.Proofs
set_option maxHeartbeats 4000000 in
theorem kX (w : World) (a l : Int) (hl : 0 ≤ l ∧ l ≤ 2147483647) (bf : Nat) (fl : Bool) (F : Option Addr) (cf : Nat) (RF : Rd w 1 F 1 [[.pointer (some ⟨bf, 0, none⟩)]]) (hdF : 0 < 1 → ∀ q off, F = some ⟨q, off, none⟩ → q ∉ bH [(some bf, bc [.bool fl] 4)]) (hO : Own [(some bf, bc [.bool fl] 4)] w) :
  Calls Tryz.prog 112 #[.int .i64 a, .int .i64 l, .slice F 1 cf] w (fun ex w' => ∃ v, ex = .returned v ∧ (fun v w' => v = .int .i32 (iJ a l) ∧ Mem w (bH [(some bf, bc [.bool fl] 4)]) [(some bf, bc [.bool (fl || decide (iJ a l ≠ a))] 4)] w') v w') := by
 have hr := eI a hl.1
 refine aH #[.tmp 6] 34 Tryz.func112 rfl Tryz.results112 Tryz.ntmps112 rfl ?_
 have M0 := hO.mem
 refine aD (aA (bI rfl rfl (aB (aC (aD (aA (aZ rfl rfl (aZ rfl rfl (bZ aKk rfl rfl (aAb _ a l (by omega)) ?_)))))))))
 rintro v1 w1 ⟨rfl, hb1⟩
 have M1 := M0.callB hb1
 refine wq (aG (.tuple (List.toArray _)) rfl) rfl (wq (bB (.int _ _) rfl rfl) rfl (wq (bB (.bool (decide _)) rfl rfl) rfl (bI rfl rfl (wq (aI (.bool (decide _)) rfl) rfl (aB (aC (aD (aD (aA ?_)))))))))
 refine dN rfl rfl (wq (cT Tryz.underlying201 rfl) rfl (aV 18 (.int .i64 1) (iE rfl) (aZ rfl rfl (aB (aC (aT (mH 2 (iB ?_))))))))
 refine aD (aA (dB rfl rfl rfl rfl (sV 20 rfl (by first | decide | omega) (aB (aC (aD (cQ rfl (aK (aC (aD (aT (aD (aA ?_)))))))))))))
 refine wq (bR (0) aCk rfl rfl rfl ((RF.memY M1 hdF).below_len ((show ([[.pointer (some ⟨bf, 0, none⟩)]] : List (List Value))[0]? = some [.pointer (some ⟨bf, 0, none⟩)] from rfl))) ((RF.memY M1 hdF).someK ((show ([[.pointer (some ⟨bf, 0, none⟩)]] : List (List Value))[0]? = some [.pointer (some ⟨bf, 0, none⟩)] from rfl)))) rfl ?_
 refine wq (jI (.pointer _) bHi (RF.memY M1 hdF) ((show ([[.pointer (some ⟨bf, 0, none⟩)]] : List (List Value))[0]? = some [.pointer (some ⟨bf, 0, none⟩)] from rfl)) rfl) rfl (wq (aI (.pointer _) rfl) rfl (aB (aC (aA (wq (aG (.pointer _) rfl) rfl (wq (aG (.pointer _) rfl) rfl ?_))))))
 refine wq (aN rfl) rfl (wq (aM 0 (.bool _) mV M1 rfl rfl rfl) rfl (wq (aG (.bool _) rfl) rfl ?_))
 refine mG 27 _ rfl (fun g27 => ?_) (fun g27 => ?_)
 ·refine aR rfl rfl (wq (bS true (.bool true) rfl rfl) rfl (wq (aN rfl) rfl (dX 0 (.bool true) mV M1 rfl rfl rfl rfl rfl rfl (fun w2 M2 => (aB (dD ?_))))))
  refine aC (aA (wq (bP rfl rfl (by first | decide | omega) (by first | decide | omega)) rfl (aV 31 (.int .i64 1) (iE (by first | decide | omega)) (aZ rfl rfl (aB (aC (iB ?_)))))))
  refine aD (aA (dB rfl rfl rfl rfl (uN 20 rfl (by first | decide | omega) (aB (aC (aD (cC rfl (cR ?_))))))))
  refine dC (dC (eZ (aC (aD (aA (aZ rfl rfl (wq (bY us2 Tryz.underlying21 rfl (mP _ (by omega) (by omega))) rfl (bI rfl rfl ?_))))))))
  refine aB (aC (aL (cA (.int _ _) rfl ?_)))
  first | exact ⟨rfl, by rw [(by simp only [g27, Bool.true_or] : (fl || decide (iJ a l ≠ a)) = true)]; exact M2⟩ | exact ⟨rfl, by rw [(by simp only [g27, Bool.false_or] : (fl || decide (iJ a l ≠ a)) = decide (iJ a l ≠ a))]; exact M2⟩
 ·refine wq (aG (.bool (decide _)) rfl) rfl (wq (bS false (.bool (decide _)) rfl rfl) rfl (wq (aN rfl) rfl (dX 0 (.bool (decide _)) mV M1 rfl rfl rfl rfl rfl rfl (fun w3 M3 => (aB (dD ?_))))))
  refine aC (aA (wq (bP rfl rfl (by first | decide | omega) (by first | decide | omega)) rfl (aV 31 (.int .i64 1) (iE (by first | decide | omega)) (aZ rfl rfl (aB (aC (iB ?_)))))))
  refine aD (aA (dB rfl rfl rfl rfl (uN 20 rfl (by first | decide | omega) (aB (aC (aD (cC rfl (cR ?_))))))))
  refine dC (dC (eZ (aC (aD (aA (aZ rfl rfl (wq (bY us2 Tryz.underlying21 rfl (mP _ (by omega) (by omega))) rfl (bI rfl rfl ?_))))))))
  refine aB (aC (aL (cA (.int _ _) rfl ?_)))
  first | exact ⟨rfl, by rw [(by simp only [g27, Bool.true_or] : (fl || decide (iJ a l ≠ a)) = true)]; exact M3⟩ | exact ⟨rfl, by rw [(by simp only [g27, Bool.false_or] : (fl || decide (iJ a l ≠ a)) = decide (iJ a l ≠ a))]; exact M3⟩
set_option maxHeartbeats 4000000 in
theorem aSg (w : World) (i : Int) (b : Body) (hb : Okb b) (bf : Nat) (fl : Bool) (hO : Own [(some bf, bc [.bool fl] 4)] w) :
  Calls Tryz.prog 110 #[.int .i64 i, (.agg (aF b).toArray), .pointer (some ⟨bf, 0, none⟩)] w (fun ex w' => ∃ v, ex = .returned v ∧ (fun v w' => v = (.agg (aF (jC b)).toArray) ∧ Mem w (bH [(some bf, bc [.bool fl] 4)]) [(some bf, bc [.bool (fl || pU b)] 4)] w') v w') := by
 have hv := hb.v
 refine aH #[.cell 5 39] 19 Tryz.func110 rfl Tryz.results110 Tryz.ntmps110 rfl ?_
 have M0 := hO.mem
 refine aD (aA (bG (.agg (List.toArray _)) M0 rfl rfl rfl (fun b1 w1 M1 => (aP gH M1 rfl rfl (fun b2 w2 M2 => (aB (aC (aD (aD (aA (wq (bC 1 bJ M2 rfl rfl rfl) rfl (bZ bEx rfl rfl (aBv _ b) ?_))))))))))))
 rintro v3 w3 ⟨rfl, hb3⟩
 have M3 := M2.callB hb3
 refine wq (lL rfl) rfl (aB (aC ?_))
 refine aX rfl (fun h8 => ?_) (fun h8 => ?_)
 ·refine aA (wq (aE 8 eK rfl) rfl (wq (aE 1 dG rfl) rfl (wq (aM 1 (.int _ _) aW M3 rfl rfl rfl) rfl (wq (bY gB Tryz.underlying2 rfl (kT _ (by omega) (by omega))) rfl (wq (oE rfl rfl (by omega) (by omega)) rfl ?_)))))
  refine cS [.pointer _] [[.pointer (some ⟨bf, 0, none⟩)]] rfl aCk M3 rfl rfl rfl rfl (cY rfl) (by decide) (fun b4 w4 M4 => ?_)
  have hlit14 := jK (T := 174) (sz := 1) (b := b4) (nn := 1) [[.pointer (some ⟨bf, 0, none⟩)]] (by simp) rfl (by decide)
  refine bZ aAs rfl rfl (kX _ (b.vy - 1024) 16777216 ⟨by decide, by decide⟩ bf _ _ 1 (hlit14.rd M4 (aS (i := 3) rfl)) (hlit14.awayB M4 3 0 rfl rfl rfl) (M4.ownSeg 0 1)) ?_
  rintro v5 w5 ⟨rfl, hM5⟩
  have M5 : Mem _ _ [_, _, _, _] _ := M4.seg 0 1 hM5
  refine wq (aE 8 eK rfl) rfl (wq (aE 1 dG rfl) rfl (dX 1 (.int _ _) aW M5 rfl rfl rfl rfl rfl rfl (fun w6 M6 => (aB (aC (aD (aA (wq (bC 1 bJ M6 rfl rfl rfl) rfl (bA 2 _ bJ M6 rfl rfl rfl rfl rfl (aQ rfl) rfl (fun w7 M7 => ?_))))))))))
  refine aB (aC (aL (eO 2 bJ M7 rfl rfl rfl ?_)))
  exact ⟨by unfold jC; rw [if_neg h8]; rfl, by rw [show pU b = decide (iJ (b.vy - 1024) 16777216 ≠ b.vy - 1024) by unfold pU; rw [decide_eq_true h8, Bool.true_and]]; exact M7.keep [true, false, false, false]⟩
 ·refine aK (aC (aD (aA (wq (bC 1 bJ M3 rfl rfl rfl) rfl (bA 2 _ bJ M3 rfl rfl rfl rfl rfl (aQ rfl) rfl (fun w8 M8 => (aB (aC (aL (eO 2 bJ M8 rfl rfl rfl ?_))))))))))
  exact ⟨by unfold jC; rw [if_pos (Decidable.not_not.1 h8)]; rfl, by rw [show pU b = false by unfold pU; rw [decide_eq_false h8, Bool.false_and], Bool.or_false]; exact M8.keep [true, false, false]⟩
set_option maxHeartbeats 4000000 in
theorem aKq (w : World) (A : Option Addr) (n c : Nat) (xs : List Body) (R : Rd w 10 A n (xs.map aF)) (hb : ∀ b ∈ xs, Okb b) (hn : n ≤ 1048576) (bf : Nat) (hO : Own [(some bf, bc [.bool false] 4)] w) (hdA : 0 < n → ∀ q off, A = some ⟨q, off, none⟩ → q ∉ bH [(some bf, bc [.bool false] 4)]) :
  Calls Tryz.prog 109 #[.slice A n c, .func (.func 110) #[] #[.pointer (some ⟨bf, 0, none⟩)]] w (fun ex w' => ∃ v, ex = .returned v ∧ (fun v w' => ∃ r : Row, v = .slice r.A r.n r.c ∧ aU 39 10 r.A r.n r.c ((pK xs).map aF) r.e ∧ Mem w (bH [(some bf, bc [.bool false] 4)]) [(some bf, bc [.bool (xs.any pU)] 4), r.e] w') v w') := by
 have hlen : xs.length = n := by simpa using R.len
 have hbd := R.bound
 refine aH #[.tmp 4] 24 Tryz.func109 rfl Tryz.results109 Tryz.ntmps109 rfl ?_
 have M0 := hO.mem
 refine aD (aA (eG rfl rfl (aB (aC (aD (aA (eG rfl rfl ?_)))))))
 have M1 := M0.dummy default
 refine aB (aC (aD (aD (aA (dN rfl rfl (wq (cT Tryz.underlying29 rfl) rfl (aZ rfl rfl (aB (aC (aT (dI (σ := Nat × Row) [1, 4, 8, 9] (fun (k, q) => [(5, .slice q.A q.n q.c), (10, .int .i64 (k : Int))]) (fun (k, q) w' => (k ≤ n ∧ aU 39 10 q.A q.n q.c (((xs.take k).map jC).map aF) q.e) ∧ Mem w (bH [(some bf, bc [.bool false] 4)]) [(some bf, bc [.bool ((xs.take k).any pU)] 4), q.e] w') (fun (k, q) => n - k) (0, gZ) (bM rfl (bM rfl eP)) (⟨⟨by omega, aU.nil _ _ _⟩, M1⟩) ?_)))))))))))
 rintro ⟨k, q⟩ ρ2 w2 ⟨⟨hk, hq⟩, hM2⟩
 have htl := List.length_take_le k xs
 have hqn : (xs.take k).length = q.n := by simpa using hq.1
 refine aD (aA (dB rfl rfl rfl rfl (aB (aC (aD ?_)))))
 refine aX rfl (fun h11 => ?_) (fun h11 => ?_)
 ·obtain ⟨xb, hxb⟩ := cM (xs := xs) (k := k) hlen (by omega)
  refine aK (aC (aD (aT (aD (aA (aZ rfl rfl (wq (bR (k) dF rfl rfl rfl ((R.memY hM2 hdA).below_len (aJ aF hxb)) ((R.memY hM2 hdA).someK (aJ aF hxb))) rfl (wq (dJ _ bJ (R.memY hM2 hdA) (aJ aF hxb) rfl) rfl (aP gH hM2 rfl rfl (fun b3 w3 M3 => ?_))))))))))
  refine bI rfl rfl (bA 2 _ bJ M3 rfl rfl rfl rfl rfl (aQ rfl) rfl (fun w4 M4 => (aB (aC (aA (dN rfl rfl (wq (aG (.func _ _ _) rfl) rfl (aZ rfl rfl ?_))))))))
  refine wq (bC 2 bJ M4 rfl rfl rfl) rfl (bZ bGv rfl rfl (aSg _ _ xb (hb xb (List.mem_of_getElem? hxb)) bf _ (M4.ownSeg 0 1)) ?_)
  rintro v5 w5 ⟨rfl, hM5⟩
  have M5 : Mem _ _ [_, _, _] _ := M4.seg 0 1 hM5
  refine cS [.agg (List.toArray _)] [aF (jC xb)] rfl dF M5 rfl rfl rfl rfl (cY rfl) (by decide) (fun b6 w6 M6 => (dL 1 [aF (jC xb)] dF M6 rfl rfl rfl rfl rfl hq rfl (by simp [aF, Go.Bil.one]) (cZ.ofMem 3 M6 rfl) (by omega) (fun A7 c7 e7 w7 M7 hR7 => (eG rfl rfl ?_))))
  refine aB (dD (aC (aA (wq (bP rfl rfl (by omega) (by omega)) rfl (aZ rfl rfl (aB ?_))))))
  refine cO (k + 1, ⟨A7, q.n + 1, c7, e7⟩) (bM rfl (bM rfl eP)) (cU rfl (cU rfl (cU rfl (cU rfl jT)))) ?_ ?_
  ·exact ⟨⟨by omega, by rw [cV hxb, List.map_append, List.map_append]; exact hR7⟩, by rw [cV hxb, List.any_append, List.any_cons, List.any_nil, Bool.or_false]; exact M7.keep [true, true, false, false]⟩
  ·(show n - (k + 1) < n - k; omega)
 ·have hkn : k = n := by omega
  rw [List.take_of_length_le (by omega)] at hq
  rw [List.take_of_length_le (by omega)] at hM2
  refine cR (dC (dA (eZ (aC (aD (aA (dN rfl rfl ?_)))))))
  refine eG rfl rfl (aB (aC (aL (cA (.slice _ _ _) rfl ?_))))
  exact ⟨q, rfl, hq, hM2⟩
set_option maxHeartbeats 4000000 in
theorem wR (w : World) (A : Option Addr) (n c : Nat) (xs : List Body) (R : Rd w 10 A n (xs.map aF)) (hb : ∀ b ∈ xs, Okb b) (hn : n ≤ 1048576) :
  Calls Tryz.prog 66 #[.slice A n c] w (fun ex w' => ∃ v, ex = .returned v ∧ (fun v w' => ∃ r : Row, v = .tuple #[.slice r.A r.n r.c, .bool (xs.any pU)] ∧ aU 39 10 r.A r.n r.c ((pK xs).map aF) r.e ∧ Mem w [] [r.e] w') v w') := by
 refine aH #[.tmp 2, .tmp 3] 11 Tryz.func66 rfl Tryz.results66 Tryz.ntmps66 rfl ?_
 have M0 := Mem.refl w
 refine aD (aA (eG rfl rfl (wq (aI (.bool false) rfl) rfl (aB (aC (aD (aA (aP aOu M0 rfl rfl (fun b1 w1 M1 => (dX 0 (.bool false) mV M1 rfl rfl rfl rfl rfl rfl (fun w2 M2 => ?_)))))))))))
 refine aB (aC (aD (aA (dN rfl rfl (wq (cN [] [.pointer _] rfl rfl) rfl (bZ aWu rfl rfl (aKq _ A n c xs (R.mem M2) hb hn b1 (M2.ownSeg 0 1) (M2.away 0 1 R (by simp))) ?_))))))
 rintro v3 w3 ⟨r, rfl, hr, hM3⟩
 have M3 : Mem _ _ [_, _] _ := M2.seg 0 1 hM3
 refine eG rfl rfl (aB (aC (aD (bO [(0, 0), (1, 1), (2, 0), (3, 0)] mixed rfl (by kernel_rfl) (fun w4 hb4 hh4 => ?_)))))
 have M4 := M3.drew hb4 hh4
 refine sQ rfl rfl rfl (bW rfl rfl rfl (aM 0 (.bool _) mV M4 rfl rfl rfl) (aY rfl rfl rfl (fun _ => aI (.slice _ _ _) rfl) (aY rfl rfl rfl (fun _ => aI (.bool _) rfl) (cB (aC (aL ?_))))))
 refine fX (.slice _ _ _) (.bool _) rfl rfl ?_
 exact ⟨r, rfl, hr, M4.keep [false, true]⟩
set_option maxHeartbeats 4000000 in
theorem aQl (w : World) (i : Nat) (b : Body) (hb : Okb b) (bf bl : Nat) (fl : Bool) (C : Option Addr) (m cm : Nat) (l : List (Int × Int)) (RS : Rd w 2 C m (l.map cJ)) (s : Int × Int) (hs : l[i]? = some s) (hsb : (-1152921504606846976 ≤ s.1 ∧ s.1 ≤ 1152921504606846976) ∧ -1152921504606846976 ≤ s.2 ∧ s.2 ≤ 1152921504606846976) (hO : Own [(some bf, bc [.bool fl] 4), (some bl, bc [.slice C m cm] 127)] w) (hdS : 0 < m → ∀ q off, C = some ⟨q, off, none⟩ → q ∉ bH [(some bf, bc [.bool fl] 4), (some bl, bc [.slice C m cm] 127)]) :
  Calls Tryz.prog 113 #[.int .i64 (i : Int), (.agg (aF b).toArray), .pointer (some ⟨bl, 0, none⟩), .pointer (some ⟨bf, 0, none⟩)] w (fun ex w' => ∃ v, ex = .returned v ∧ (fun v w' => v = (.agg (aF (sO b s.1 s.2)).toArray) ∧ Mem w (bH [(some bf, bc [.bool fl] 4), (some bl, bc [.slice C m cm] 127)]) [(some bf, bc [.bool (fl || aPv b s.1 s.2)] 4), (some bl, bc [.slice C m cm] 127)] w') v w') := by
 have hv := hb.v
 have hpp := hb.p
 have hlm : l.length = m := by simpa using RS.len
 have hil := (List.getElem?_eq_some_iff.1 hs).1
 refine aH #[.cell 6 39] 50 Tryz.func113 rfl Tryz.results113 Tryz.ntmps113 rfl ?_
 have M0 := hO.mem
 refine aD (aA (bG (.agg (List.toArray _)) M0 rfl rfl rfl (fun b1 w1 M1 => (aP gH M1 rfl rfl (fun b2 w2 M2 => (aB (aC (aD (bO [(0, 0), (1, 0), (2, 1), (3, 0), (4, 1), (5, 0), (6, 1), (7, 1), (8, 1), (9, 0), (10, 0), (11, 0), (12, 1), (13, 0), (14, 0), (15, 0), (16, 0)] mixed rfl (by kernel_rfl) (fun w3 hb3 hh3 => ?_))))))))))
 have M3 := M2.drew hb3 hh3
 refine aY rfl rfl rfl (fun _ => aE 6 fR rfl) (aY rfl rfl rfl (fun _ => aE 0 dS rfl) (bW rfl rfl rfl (aM 2 (.int _ _) aW M3 rfl rfl rfl) (aY rfl rfl rfl (fun _ => bY gB Tryz.underlying2 rfl (kT _ (by omega) (by omega))) (bW rfl rfl rfl (aM 1 (.slice _ _ _) vF M3 rfl rfl rfl) ?_))))
 refine gV rfl rfl rfl (bW rfl rfl rfl (bR (i) wS rfl rfl rfl ((RS.memY M3 hdS).below_len (aJ cJ hs)) ((RS.memY M3 hdS).someK (aJ cJ hs))) (bW rfl rfl rfl (bN 0 aAz (RS.memY M3 hdS) (Nat.lt_of_le_of_lt (Nat.zero_le _) ((RS.memY M3 hdS).below_len (aJ cJ hs))) rfl) ?_))
 refine bW rfl rfl rfl (eM (o := 0) (.int _ _) mJ (RS.memY M3 hdS) (aJ cJ hs) rfl rfl) (aY rfl rfl rfl (fun _ => bP rfl rfl (by omega) (by omega)) (aY rfl rfl rfl (fun _ => aE 8 eK rfl) (aY rfl rfl rfl (fun _ => aE 0 dS rfl) (bW rfl rfl rfl (aM 2 (.int _ _) aW M3 rfl rfl rfl) ?_))))
 refine aY rfl rfl rfl (fun _ => gT rfl rfl (by decide)) (fN 22 (.int .i32 (b.vx / 64)) (iE (aHq _)) (aY rfl rfl rfl (fun _ => bY gB Tryz.underlying2 rfl (kT _ (by omega) (by omega))) (aY rfl rfl rfl (fun _ => bP rfl rfl (by omega) (by omega)) (fN 24 (.int .i64 (aMc b s.1)) rfl (qO rfl rfl rfl ?_)))))
 refine cB (aC (aD (bO [(0, 0), (1, 0), (2, 1), (3, 0), (4, 1), (5, 0), (6, 1), (7, 1), (8, 1), (9, 0), (10, 0), (11, 0), (12, 1), (13, 0), (14, 0), (15, 0), (16, 0)] mixed rfl (by kernel_rfl) (fun w4 hb4 hh4 => ?_))))
 have M4 := M3.drew hb4 hh4
 refine aY rfl rfl rfl (fun _ => aE 6 fR rfl) (aY rfl rfl rfl (fun _ => aE 1 dG rfl) (bW rfl rfl rfl (aM 2 (.int _ _) aW M4 rfl rfl rfl) (aY rfl rfl rfl (fun _ => bY gB Tryz.underlying2 rfl (kT _ (by omega) (by omega))) (bW rfl rfl rfl (aM 1 (.slice _ _ _) vF M4 rfl rfl rfl) ?_))))
 refine gV rfl rfl rfl (bW rfl rfl rfl (bR (i) wS rfl rfl rfl ((RS.memY M4 hdS).below_len (aJ cJ hs)) ((RS.memY M4 hdS).someK (aJ cJ hs))) (bW rfl rfl rfl (bN 1 yA (RS.memY M4 hdS) (Nat.lt_of_le_of_lt (Nat.zero_le _) ((RS.memY M4 hdS).below_len (aJ cJ hs))) rfl) ?_))
 refine bW rfl rfl rfl (eM (o := 1) (.int _ _) mJ (RS.memY M4 hdS) (aJ cJ hs) rfl rfl) (aY rfl rfl rfl (fun _ => bP rfl rfl (by omega) (by omega)) (aY rfl rfl rfl (fun _ => aE 8 eK rfl) (aY rfl rfl rfl (fun _ => aE 1 dG rfl) (bW rfl rfl rfl (aM 2 (.int _ _) aW M4 rfl rfl rfl) ?_))))
 refine aY rfl rfl rfl (fun _ => gT rfl rfl (by decide)) (fN 38 (.int .i32 (b.vy / 64)) (iE (aHq _)) (aY rfl rfl rfl (fun _ => bY gB Tryz.underlying2 rfl (kT _ (by omega) (by omega))) (aY rfl rfl rfl (fun _ => bP rfl rfl (by omega) (by omega)) (fN 40 (.int .i64 (aMa b s.2)) rfl (qO rfl rfl rfl ?_)))))
 refine cB (aC (aD (aA (aZ rfl rfl (cS [.pointer _] [[.pointer (some ⟨bf, 0, none⟩)]] rfl aCk M4 rfl rfl rfl rfl (cY rfl) (by decide) (fun b5 w5 M5 => ?_))))))
 have hlit42 := jK (T := 174) (sz := 1) (b := b5) (nn := 1) [[.pointer (some ⟨bf, 0, none⟩)]] (by simp) rfl (by decide)
 refine bZ aAs rfl rfl (kX _ (aMc b s.1) 1073741824 ⟨by decide, by decide⟩ bf _ _ 1 (hlit42.rd M5 (aS (i := 4) rfl)) (hlit42.awayB M5 4 0 rfl rfl rfl) (M5.ownSeg 0 1)) ?_
 rintro v6 w6 ⟨rfl, hM6⟩
 have M6 : Mem _ _ [_, _, _, _, _] _ := M5.seg 0 1 hM6
 refine aZ rfl rfl (cS [.pointer _] [[.pointer (some ⟨bf, 0, none⟩)]] rfl aCk M6 rfl rfl rfl rfl (cY rfl) (by decide) (fun b7 w7 M7 => ?_))
 have hlit45 := jK (T := 174) (sz := 1) (b := b7) (nn := 1) [[.pointer (some ⟨bf, 0, none⟩)]] (by simp) rfl (by decide)
 refine bZ aAs rfl rfl (kX _ (aMa b s.2) 1073741824 ⟨by decide, by decide⟩ bf _ _ 1 (hlit45.rd M7 (aS (i := 5) rfl)) (hlit45.awayB M7 5 0 rfl rfl rfl) (M7.ownSeg 0 1)) ?_
 rintro v8 w8 ⟨rfl, hM8⟩
 have M8 : Mem _ _ [_, _, _, _, _, _] _ := M7.seg 0 1 hM8
 refine wq (cH [(0, .int _ _), (1, .int _ _)] _ fD rfl rfl) rfl (wq (aE 6 fR rfl) rfl (aEa 2 _ bK M8 rfl rfl rfl rfl rfl (aQ rfl) (Nat.le_of_ble_eq_true rfl) (fun w9 M9 => (aB (aC (aD (aA (wq (bC 2 bJ M9 rfl rfl rfl) rfl (bA 3 _ bJ M9 rfl rfl rfl rfl rfl (aQ rfl) rfl (fun w10 M10 => ?_))))))))))
 refine aB (aC (aL (eO 3 bJ M10 rfl rfl rfl ?_)))
 exact ⟨rfl, by rw [show (fl || aPv b s.1 s.2) = ((fl || decide (iJ (aMc b s.1) 1073741824 ≠ aMc b s.1)) || decide (iJ (aMa b s.2) 1073741824 ≠ aMa b s.2)) from (Bool.or_assoc _ _ _).symm]; exact M10.keep [true, true, false, false, false, false]⟩
set_option maxHeartbeats 4000000 in
theorem aLz (w : World) (A : Option Addr) (n c : Nat) (xs : List Body) (R : Rd w 10 A n (xs.map aF)) (hb : ∀ b ∈ xs, Okb b) (hn : n ≤ 1048576) (bf bl : Nat) (G : Body → Int × Int) (hG : ∀ b ∈ xs, (-1152921504606846976 ≤ (G b).1 ∧ (G b).1 ≤ 1152921504606846976) ∧ -1152921504606846976 ≤ (G b).2 ∧ (G b).2 ≤ 1152921504606846976) (C : Option Addr) (cm : Nat) (RS : Rd w 2 C n ((xs.map G).map cJ)) (hO : Own [(some bf, bc [.bool false] 4), (some bl, bc [.slice C n cm] 127)] w) (hdA : 0 < n → ∀ q off, A = some ⟨q, off, none⟩ → q ∉ bH [(some bf, bc [.bool false] 4), (some bl, bc [.slice C n cm] 127)]) (hdS : 0 < n → ∀ q off, C = some ⟨q, off, none⟩ → q ∉ bH [(some bf, bc [.bool false] 4), (some bl, bc [.slice C n cm] 127)]) :
  Calls Tryz.prog 109 #[.slice A n c, .func (.func 113) #[] #[.pointer (some ⟨bl, 0, none⟩), .pointer (some ⟨bf, 0, none⟩)]] w (fun ex w' => ∃ v, ex = .returned v ∧ (fun v w' => ∃ r : Row, v = .slice r.A r.n r.c ∧ aU 39 10 r.A r.n r.c ((xs.map (fun b => sO b (G b).1 (G b).2)).map aF) r.e ∧ Mem w (bH [(some bf, bc [.bool false] 4), (some bl, bc [.slice C n cm] 127)]) [(some bf, bc [.bool (xs.any (fun b => aPv b (G b).1 (G b).2))] 4), (some bl, bc [.slice C n cm] 127), r.e] w') v w') := by
 have hlen : xs.length = n := by simpa using R.len
 have hbd := R.bound
 refine aH #[.tmp 4] 24 Tryz.func109 rfl Tryz.results109 Tryz.ntmps109 rfl ?_
 have M0 := hO.mem
 refine aD (aA (eG rfl rfl (aB (aC (aD (aA (eG rfl rfl ?_)))))))
 have M1 := M0.dummy default
 refine aB (aC (aD (aD (aA (dN rfl rfl (wq (cT Tryz.underlying29 rfl) rfl (aZ rfl rfl (aB (aC (aT (dI (σ := Nat × Row) [1, 4, 8, 9] (fun (k, q) => [(5, .slice q.A q.n q.c), (10, .int .i64 (k : Int))]) (fun (k, q) w' => (k ≤ n ∧ aU 39 10 q.A q.n q.c (((xs.take k).map (fun b => sO b (G b).1 (G b).2)).map aF) q.e) ∧ Mem w (bH [(some bf, bc [.bool false] 4), (some bl, bc [.slice C n cm] 127)]) [(some bf, bc [.bool ((xs.take k).any (fun b => aPv b (G b).1 (G b).2))] 4), (some bl, bc [.slice C n cm] 127), q.e] w') (fun (k, q) => n - k) (0, gZ) (bM rfl (bM rfl eP)) (⟨⟨by omega, aU.nil _ _ _⟩, M1⟩) ?_)))))))))))
 rintro ⟨k, q⟩ ρ2 w2 ⟨⟨hk, hq⟩, hM2⟩
 have htl := List.length_take_le k xs
 have hqn : (xs.take k).length = q.n := by simpa using hq.1
 refine aD (aA (dB rfl rfl rfl rfl (aB (aC (aD ?_)))))
 refine aX rfl (fun h11 => ?_) (fun h11 => ?_)
 ·obtain ⟨xb, hxb⟩ := cM (xs := xs) (k := k) hlen (by omega)
  refine aK (aC (aD (aT (aD (aA (aZ rfl rfl (wq (bR (k) dF rfl rfl rfl ((R.memY hM2 hdA).below_len (aJ aF hxb)) ((R.memY hM2 hdA).someK (aJ aF hxb))) rfl (wq (dJ _ bJ (R.memY hM2 hdA) (aJ aF hxb) rfl) rfl (aP gH hM2 rfl rfl (fun b3 w3 M3 => ?_))))))))))
  refine bI rfl rfl (bA 3 _ bJ M3 rfl rfl rfl rfl rfl (aQ rfl) rfl (fun w4 M4 => (aB (aC (aA (dN rfl rfl (wq (aG (.func _ _ _) rfl) rfl (aZ rfl rfl ?_))))))))
  refine wq (bC 3 bJ M4 rfl rfl rfl) rfl (bZ bDm rfl rfl (aQl _ k xb (hb xb (List.mem_of_getElem? hxb)) bf bl _ C n cm (xs.map G) (RS.memY M4 hdS) (G xb) (aJ G hxb) (hG xb (List.mem_of_getElem? hxb)) (M4.ownSeg 0 2) (M4.away 0 2 RS hdS)) ?_)
  rintro v5 w5 ⟨rfl, hM5⟩
  have M5 : Mem _ _ [_, _, _, _] _ := M4.seg 0 2 hM5
  refine cS [.agg (List.toArray _)] [aF (sO xb (G xb).1 (G xb).2)] rfl dF M5 rfl rfl rfl rfl (cY rfl) (by decide) (fun b6 w6 M6 => (dL 2 [aF (sO xb (G xb).1 (G xb).2)] dF M6 rfl rfl rfl rfl rfl hq rfl (by simp [aF, Go.Bil.one]) (cZ.ofMem 4 M6 rfl) (by omega) (fun A7 c7 e7 w7 M7 hR7 => ?_)))
  refine eG rfl rfl (aB (dD (aC (aA (wq (bP rfl rfl (by omega) (by omega)) rfl (aZ rfl rfl ?_))))))
  refine aB ?_
  refine cO (k + 1, ⟨A7, q.n + 1, c7, e7⟩) (bM rfl (bM rfl eP)) (cU rfl (cU rfl (cU rfl (cU rfl jT)))) ?_ ?_
  ·exact ⟨⟨by omega, by rw [cV hxb, List.map_append, List.map_append]; exact hR7⟩, by rw [cV hxb, List.any_append, List.any_cons, List.any_nil, Bool.or_false]; exact M7.keep [true, true, true, false, false]⟩
  ·(show n - (k + 1) < n - k; omega)
 ·have hkn : k = n := by omega
  rw [List.take_of_length_le (by omega)] at hq
  rw [List.take_of_length_le (by omega)] at hM2
  refine cR (dC (dA (eZ (aC (aD (aA (dN rfl rfl ?_)))))))
  refine eG rfl rfl (aB (aC (aL (cA (.slice _ _ _) rfl ?_))))
  exact ⟨q, rfl, hq, hM2⟩
set_option maxHeartbeats 4000000 in
theorem aHs (w : World) (A : Option Addr) (n c : Nat) (xs : List Body) (R : Rd w 10 A n (xs.map aF)) (hb : ∀ b ∈ xs, Okb b) (hn : n ≤ 1048576) (G : Body → Int × Int) (hG : ∀ b ∈ xs, (-1152921504606846976 ≤ (G b).1 ∧ (G b).1 ≤ 1152921504606846976) ∧ -1152921504606846976 ≤ (G b).2 ∧ (G b).2 ≤ 1152921504606846976) (C : Option Addr) (cm : Nat) (RS : Rd w 2 C n ((xs.map G).map cJ)) :
  Calls Tryz.prog 67 #[.slice A n c, .slice C n cm] w (fun ex w' => ∃ v, ex = .returned v ∧ (fun v w' => ∃ r : Row, v = .tuple #[.slice r.A r.n r.c, .bool (xs.any (fun b => aPv b (G b).1 (G b).2))] ∧ aU 39 10 r.A r.n r.c ((xs.map (fun b => sO b (G b).1 (G b).2)).map aF) r.e ∧ Mem w [] [r.e] w') v w') := by
 refine aH #[.tmp 4, .tmp 5] 13 Tryz.func67 rfl Tryz.results67 Tryz.ntmps67 rfl ?_
 have M0 := Mem.refl w
 refine aD (aA (bG (.slice _ _ _) M0 rfl rfl rfl (fun b1 w1 M1 => (eG rfl rfl (wq (aI (.bool false) rfl) rfl (aB (aC (aD (aA (aP aOu M1 rfl rfl (fun b2 w2 M2 => ?_)))))))))))
 refine dX 1 (.bool false) mV M2 rfl rfl rfl rfl rfl rfl (fun w3 M3 => (aB (aC (aD (aA ?_)))))
 have M4 : Mem _ _ [_, _] _ := Mem.swap2 M3
 refine dN rfl rfl (wq (cN [] [.pointer _, .pointer _] rfl rfl) rfl (bZ aWu rfl rfl (aLz _ A n c xs (R.mem M4) hb hn b2 b1 G hG C cm (RS.mem M4) (M4.ownSeg 0 2) (M4.away 0 2 R (by simp)) (M4.away 0 2 RS (by simp))) ?_))
 rintro v5 w5 ⟨r, rfl, hr, hM5⟩
 have M5 : Mem _ _ [_, _, _] _ := M4.seg 0 2 hM5
 refine eG rfl rfl (aB (aC (aD (bO [(0, 0), (1, 1), (2, 0), (3, 0)] mixed rfl (by kernel_rfl) (fun w6 hb6 hh6 => ?_)))))
 have M6 := M5.drew hb6 hh6
 refine sQ rfl rfl rfl (bW rfl rfl rfl (aM 0 (.bool _) mV M6 rfl rfl rfl) (aY rfl rfl rfl (fun _ => aI (.slice _ _ _) rfl) (aY rfl rfl rfl (fun _ => aI (.bool _) rfl) (cB (aC (aL ?_))))))
 refine fX (.slice _ _ _) (.bool _) rfl rfl ?_
 exact ⟨r, rfl, hr, M6.keep [false, false, true]⟩
set_option maxHeartbeats 4000000 in
theorem aQv (w : World) (b : Body) (hb : Okb b) :
  Calls Tryz.prog 31 #[(.agg (aF b).toArray)] w (fun ex w' => ∃ v, ex = .returned v ∧ (fun v w' => v = (.agg (aF (nA b)).toArray) ∧ Below w.heap.size w w') v w') := by
 refine aH #[.cell 2 39] 20 Tryz.func31 rfl Tryz.results31 Tryz.ntmps31 rfl ?_
 have M0 := Mem.refl w
 refine aD (aA (bG (.agg (List.toArray _)) M0 rfl rfl rfl (fun b1 w1 M1 => (aP gH M1 rfl rfl (fun b2 w2 M2 => (aB (aC (aD (aA (wq (bC 0 bJ M2 rfl rfl rfl) rfl (cS [.agg (List.toArray _)] [aF (b)] rfl dF M2 rfl rfl rfl rfl (cY rfl) (by decide) (fun b3 w3 M3 => ?_))))))))))))
 have hlit7 := jK (T := 39) (b := b3) (nn := 1) (([b] : List Body).map aF) (aMm _) rfl (by decide)
 refine bZ bCr rfl rfl (wR _ _ _ _ [b] (hlit7.rd M3 (aS (i := 2) rfl)) (by intro y hy; rw [List.mem_singleton] at hy; subst hy; exact hb) (by decide)) ?_
 rintro v4 w4 ⟨⟨rA, rn, rc, re⟩, rfl, hr, hM4⟩
 obtain rfl : rn = 1 := hr.1.symm
 have M4 : Mem _ _ [_, _, _, _] _ := M3.call0 hM4
 refine wq (aG (.tuple (List.toArray _)) rfl) rfl (wq (bB (.slice _ _ _) rfl rfl) rfl (wq (bB (.bool _) rfl rfl) rfl (eG rfl rfl (wq (aI (.bool _) rfl) rfl (aB (aC (aD (aA ?_))))))))
 refine dN rfl rfl (iN (1) [.int .i64 0, .int .i64 0] wS aOi rfl M4 rfl rfl rfl rfl rfl rfl (by omega) (by omega) (fun b5 w5 M5 => ?_))
 have hL13 := jK (T := 177) (sz := 2) (b := b5) (nn := 1) (([jC b].map (fun _ => ((0, 0) : Int × Int))).map cJ) (aXe _) rfl (by omega)
 refine bZ bCk rfl rfl (aHs _ rA 1 rc [jC b] (hr.rd M5 (aS (i := 3) rfl)) (by intro y hy; rw [List.mem_singleton] at hy; subst hy; exact aAv hb) (by decide) (fun _ => (0, 0)) (fun _ _ => ⟨⟨by decide, by decide⟩, by decide, by decide⟩) _ _ (hL13.rd M5 (aS (i := 4) rfl))) ?_
 rintro v6 w6 ⟨r2, rfl, hr2, hM6⟩
 have M6 : Mem _ _ [_, _, _, _, _, _] _ := M5.call0 hM6
 refine wq (aG (.tuple (List.toArray _)) rfl) rfl (wq (bB (.slice _ _ _) rfl rfl) rfl (wq (bB (.bool _) rfl rfl) rfl (eG rfl rfl (aB (aC (aD (aA (dN rfl rfl ?_))))))))
 refine wq (bR (0) dF rfl rfl rfl ((hr2.rd M6 (aS (i := 5) rfl)).below_len ((show (([jC b].map (fun b => sO b 0 0)).map aF)[0]? = some (aF (nA b)) from rfl))) ((hr2.rd M6 (aS (i := 5) rfl)).someK ((show (([jC b].map (fun b => sO b 0 0)).map aF)[0]? = some (aF (nA b)) from rfl)))) rfl ?_
 refine wq (dJ _ bJ (hr2.rd M6 (aS (i := 5) rfl)) ((show (([jC b].map (fun b => sO b 0 0)).map aF)[0]? = some (aF (nA b)) from rfl)) rfl) rfl (bA 1 _ bJ M6 rfl rfl rfl rfl rfl (aQ rfl) rfl (fun w7 M7 => (aB (aC (aL (eO 1 bJ M7 rfl rfl rfl ?_))))))
 exact ⟨rfl, M7.below⟩
set_option maxHeartbeats 4000000 in
theorem aMw (w : World) (bs : Nat) (vr lr : Row) (tt mm : Int) (cl : Bool) (A : Option Addr) (n c : Nat) (q : Row) (c2 : Bool) (hO : Own [(some bs, bc [.slice A n c, .slice vr.A vr.n vr.c, .slice lr.A lr.n lr.c, .int .i64 tt, .int .i64 mm, .bool cl] 168)] w) :
  Calls Tryz.prog 145 #[.pointer (some ⟨bs, 0, none⟩), .slice q.A q.n q.c, .bool c2] w (fun ex w' => ∃ v, ex = .returned v ∧ (fun v w' => v = .tuple #[] ∧ Mem w (bH [(some bs, bc [.slice A n c, .slice vr.A vr.n vr.c, .slice lr.A lr.n lr.c, .int .i64 tt, .int .i64 mm, .bool cl] 168)]) [(some bs, bc [.slice A n c, .slice q.A q.n q.c, .slice lr.A lr.n lr.c, .int .i64 tt, .int .i64 mm, .bool (cl || c2)] 168)] w') v w') := by
 refine aH #[] 22 Tryz.func145 rfl Tryz.results145 Tryz.ntmps145 rfl ?_
 have M0 := hO.mem
 refine aD (aA (wq (aG (.pointer _) rfl) rfl (dN rfl rfl (wq (aN rfl) rfl (wq (aE 1 tK rfl) rfl (dX 0 (.slice _ _ _) fJ M0 rfl rfl rfl rfl rfl rfl (fun w1 M1 => ?_)))))))
 refine aB (aC (aA (wq (aG (.pointer _) rfl) rfl (wq (aG (.pointer _) rfl) rfl (wq (aN rfl) rfl (wq (aE 3 oL rfl) rfl (wq (aE 2 lQ rfl) rfl ?_)))))))
 refine wq (aM 0 (.bool _) mV M1 rfl rfl rfl) rfl (wq (aG (.bool _) rfl) rfl ?_)
 refine mG 16 _ rfl (fun g16 => ?_) (fun g16 => ?_)
 ·refine aR rfl rfl (wq (bS true (.bool true) rfl rfl) rfl (wq (aN rfl) rfl (wq (aE 3 oL rfl) rfl (wq (aE 2 lQ rfl) rfl (dX 0 (.bool true) mV M1 rfl rfl rfl rfl rfl rfl (fun w2 M2 => ?_))))))
  refine aB (jD ?_)
  first | exact ⟨rfl, by rw [(by simp only [g16, Bool.true_or] : (cl || c2) = true)]; exact M2⟩ | exact ⟨rfl, by rw [(by simp only [g16, Bool.false_or] : (cl || c2) = c2)]; exact M2⟩
 ·refine wq (aG (.bool _) rfl) rfl (wq (bS false (.bool _) rfl rfl) rfl (wq (aN rfl) rfl (wq (aE 3 oL rfl) rfl (wq (aE 2 lQ rfl) rfl (dX 0 (.bool _) mV M1 rfl rfl rfl rfl rfl rfl (fun w3 M3 => ?_))))))
  refine aB (jD ?_)
  first | exact ⟨rfl, by rw [(by simp only [g16, Bool.true_or] : (cl || c2) = true)]; exact M3⟩ | exact ⟨rfl, by rw [(by simp only [g16, Bool.false_or] : (cl || c2) = c2)]; exact M3⟩
set_option maxHeartbeats 4000000 in
theorem aYp (w : World) (F : Rd w 2 (some ⟨0, 0, none⟩) 1 [[.int .u32 73856093, .int .u32 19349663]]) (N : Rd w 4 (some ⟨3, 0, none⟩) 1 [cX gL]) (bs : Nat) (vr lr : Row) (tt mm : Int) (cl : Bool) (A : Option Addr) (n c : Nat) (xs : List Body) (R : Rd w 10 A n (xs.map aF)) (hb : ∀ b ∈ xs, Okb b) (hs : bV xs) (hn : n ≤ 4096) (hO : Own [(some bs, bc [.slice A n c, .slice vr.A vr.n vr.c, .slice lr.A lr.n lr.c, .int .i64 tt, .int .i64 mm, .bool cl] 168)] w) (hdA : 0 < n → ∀ q off, A = some ⟨q, off, none⟩ → q ∉ bH [(some bs, bc [.slice A n c, .slice vr.A vr.n vr.c, .slice lr.A lr.n lr.c, .int .i64 tt, .int .i64 mm, .bool cl] 168)]) (hdF : 0 < 1 → ∀ q off, (some ⟨0, 0, none⟩ : Option Addr) = some ⟨q, off, none⟩ → q ∉ bH [(some bs, bc [.slice A n c, .slice vr.A vr.n vr.c, .slice lr.A lr.n lr.c, .int .i64 tt, .int .i64 mm, .bool cl] 168)]) (hdN : 0 < 1 → ∀ q off, (some ⟨3, 0, none⟩ : Option Addr) = some ⟨q, off, none⟩ → q ∉ bH [(some bs, bc [.slice A n c, .slice vr.A vr.n vr.c, .slice lr.A lr.n lr.c, .int .i64 tt, .int .i64 mm, .bool cl] 168)]) :
  Calls Tryz.prog 105 #[.pointer (some ⟨bs, 0, none⟩)] w (fun ex w' => ∃ v, ex = .returned v ∧ (fun v w' => v = .tuple #[] ∧ ∃ (r : Row) (m : Nat), (lJ xs).length ≤ m ∧ 2 * m ≤ xs.length * (xs.length - 1) ∧ aU 211 5 r.A r.n r.c ((kJ xs).map cL) r.e ∧ Mem w (bH [(some bs, bc [.slice A n c, .slice vr.A vr.n vr.c, .slice lr.A lr.n lr.c, .int .i64 tt, .int .i64 mm, .bool cl] 168)]) [(some bs, bc [.slice A n c, .slice vr.A vr.n vr.c, .slice r.A r.n r.c, .int .i64 (m : Int), .int .i64 (r.n : Int), .bool cl] 168), r.e] w') v w') := by
 refine aH #[] 26 Tryz.func105 rfl Tryz.results105 Tryz.ntmps105 rfl ?_
 have M0 := hO.mem
 refine aD (aA (wq (aG (.pointer _) rfl) rfl (wq (aG (.pointer _) rfl) rfl (wq (aG (.pointer _) rfl) rfl (wq (aN rfl) rfl (wq (aE 0 aAx rfl) rfl ?_))))))
 refine wq (aM 0 (.slice _ _ _) fJ M0 rfl rfl rfl) rfl (bZ bFe rfl rfl (aEo _ (F.memY M0 hdF) (N.memY M0 hdN) A n c xs (R.memY M0 hdA) hb hs hn) ?_)
 rintro v1 w1 ⟨r, m, rfl, hm1, hm2, hr, hM1⟩
 have M1 : Mem _ _ [_, _] _ := M0.call0 hM1
 refine wq (aG (.tuple (List.toArray _)) rfl) rfl (wq (bB (.slice _ _ _) rfl rfl) rfl (wq (bB (.int _ _) rfl rfl) rfl (wq (aN rfl) rfl (wq (aE 2 tF rfl) rfl (dX 0 (.slice _ _ _) mC M1 rfl rfl rfl rfl rfl rfl (fun w2 M2 => ?_))))))
 refine wq (aN rfl) rfl (wq (aE 3 oL rfl) rfl (wq (aE 0 sU rfl) rfl (dX 0 (.int _ _) iY M2 rfl rfl rfl rfl rfl rfl (fun w3 M3 => (aB (aC (aA (wq (aG (.pointer _) rfl) rfl ?_))))))))
 refine wq (aG (.pointer _) rfl) rfl (wq (aN rfl) rfl (wq (aE 2 tF rfl) rfl (wq (aM 0 (.slice _ _ _) mC M3 rfl rfl rfl) rfl (wq (cT Tryz.underlying166 rfl) rfl (wq (aN rfl) rfl ?_)))))
 refine wq (aE 3 oL rfl) rfl (wq (aE 1 rD rfl) rfl (dX 0 (.int _ _) iY M3 rfl rfl rfl rfl rfl rfl (fun w4 M4 => (aB (jD ?_)))))
 exact ⟨rfl, r, m, hm1, hm2, hr, M4⟩
set_option maxHeartbeats 4000000 in
theorem aZe (w : World) (bs : Nat) (vr lr : Row) (tt mm : Int) (cl : Bool) (A : Option Addr) (n c : Nat) (xs : List Body) (R : Rd w 10 A n (xs.map aF)) (hb : ∀ b ∈ xs, Okb b) (hn : n ≤ 1048576) (hO : Own [(some bs, bc [.slice A n c, .slice vr.A vr.n vr.c, .slice lr.A lr.n lr.c, .int .i64 tt, .int .i64 mm, .bool cl] 168)] w) (hdA : 0 < n → ∀ q off, A = some ⟨q, off, none⟩ → q ∉ bH [(some bs, bc [.slice A n c, .slice vr.A vr.n vr.c, .slice lr.A lr.n lr.c, .int .i64 tt, .int .i64 mm, .bool cl] 168)]) :
  Calls Tryz.prog 106 #[.pointer (some ⟨bs, 0, none⟩)] w (fun ex w' => ∃ v, ex = .returned v ∧ (fun v w' => v = .tuple #[] ∧ ∃ r : Row, aU 39 10 r.A r.n r.c ((pK xs).map aF) r.e ∧ Mem w (bH [(some bs, bc [.slice A n c, .slice vr.A vr.n vr.c, .slice lr.A lr.n lr.c, .int .i64 tt, .int .i64 mm, .bool cl] 168)]) [(some bs, bc [.slice A n c, .slice r.A r.n r.c, .slice lr.A lr.n lr.c, .int .i64 tt, .int .i64 mm, .bool (cl || xs.any pU)] 168), r.e] w') v w') := by
 refine aH #[] 11 Tryz.func106 rfl Tryz.results106 Tryz.ntmps106 rfl ?_
 have M0 := hO.mem
 refine aA (wq (aG (.pointer _) rfl) rfl (wq (aG (.pointer _) rfl) rfl (wq (aN rfl) rfl (wq (aE 0 aAx rfl) rfl (wq (aM 0 (.slice _ _ _) fJ M0 rfl rfl rfl) rfl ?_)))))
 refine bZ bCr rfl rfl (wR _ A n c xs (R.memY M0 hdA) hb hn) ?_
 rintro v1 w1 ⟨r, rfl, hr, hM1⟩
 have M1 : Mem _ _ [_, _] _ := M0.call0 hM1
 refine wq (bB (.slice _ _ _) rfl rfl) rfl (wq (bB (.bool _) rfl rfl) rfl (bZ aMe rfl rfl (aMw _ bs vr lr tt mm cl A n c r _ (M1.ownSeg 0 1)) ?_))
 rintro v2 w2 ⟨rfl, hM2⟩
 have M2 : Mem _ _ [_, _] _ := M1.seg 0 1 hM2
 refine aB (jD ?_)
 exact ⟨rfl, r, hr, M2⟩
set_option maxHeartbeats 4000000 in
theorem aTj (w : World) (bs : Nat) (vr lr : Row) (tt mm : Int) (cl : Bool) (A : Option Addr) (n c : Nat) (ys : List Body) (cs : List Con) (RV : Rd w 10 vr.A vr.n (ys.map aF)) (RL : Rd w 5 lr.A lr.n (cs.map cL)) (hs : bV ys) (hb : ∀ b ∈ ys, Okb b) (hn : vr.n ≤ 1048576) (hcs : ∀ c ∈ cs, OkC ys c) (hmc : lr.n ≤ 8589934592) (hO : Own [(some bs, bc [.slice A n c, .slice vr.A vr.n vr.c, .slice lr.A lr.n lr.c, .int .i64 tt, .int .i64 mm, .bool cl] 168)] w) (hdV : 0 < vr.n → ∀ q off, vr.A = some ⟨q, off, none⟩ → q ∉ bH [(some bs, bc [.slice A n c, .slice vr.A vr.n vr.c, .slice lr.A lr.n lr.c, .int .i64 tt, .int .i64 mm, .bool cl] 168)]) (hdL : 0 < lr.n → ∀ q off, lr.A = some ⟨q, off, none⟩ → q ∉ bH [(some bs, bc [.slice A n c, .slice vr.A vr.n vr.c, .slice lr.A lr.n lr.c, .int .i64 tt, .int .i64 mm, .bool cl] 168)]) :
  Calls Tryz.prog 107 #[.pointer (some ⟨bs, 0, none⟩)] w (fun ex w' => ∃ v, ex = .returned v ∧ (fun v w' => v = .tuple #[] ∧ ∃ r : Row, aU 39 10 r.A r.n r.c (((gM ys cs 4).1).map aF) r.e ∧ Mem w (bH [(some bs, bc [.slice A n c, .slice vr.A vr.n vr.c, .slice lr.A lr.n lr.c, .int .i64 tt, .int .i64 mm, .bool cl] 168)]) [(some bs, bc [.slice A n c, .slice r.A r.n r.c, .slice lr.A lr.n lr.c, .int .i64 tt, .int .i64 mm, .bool (cl || (gM ys cs 4).2)] 168), r.e] w') v w') := by
 refine aH #[] 15 Tryz.func107 rfl Tryz.results107 Tryz.ntmps107 rfl ?_
 have M0 := hO.mem
 refine bO [(0, 0), (1, 0), (2, 0), (3, 0), (4, 1), (5, 0), (6, 0), (7, 0), (8, 1), (9, 2), (10, 0), (11, 0), (12, 2)] mixed rfl (by kernel_rfl) (fun w1 hb1 hh1 => ?_)
 have M1 := M0.drew hb1 hh1
 refine aY rfl rfl rfl (fun _ => aG (.pointer _) rfl) (aY rfl rfl rfl (fun _ => aG (.pointer _) rfl) (aY rfl rfl rfl (fun _ => aN rfl) (aY rfl rfl rfl (fun _ => aE 1 tK rfl) (bW rfl rfl rfl (aM 0 (.slice _ _ _) fJ M1 rfl rfl rfl) (aY rfl rfl rfl (fun _ => aG (.pointer _) rfl) ?_)))))
 refine aY rfl rfl rfl (fun _ => aN rfl) (aY rfl rfl rfl (fun _ => aE 2 tF rfl) (bW rfl rfl rfl (aM 0 (.slice _ _ _) mC M1 rfl rfl rfl) (dU [true, true] rfl (by kernel_rfl) (bZ bEy rfl rfl (aRt _ vr.A vr.n vr.c ys (RV.memY M1 hdV) hs hb hn lr.A lr.n lr.c cs (RL.memY M1 hdL) hcs hmc) ?_))))
 rintro v2 w2 ⟨r, rfl, hr, hM2⟩
 have M2 : Mem _ _ [_, _] _ := M1.call0 hM2
 refine aB (aC ⟨dT, ?_⟩)
 refine aY rfl rfl rfl (fun _ => bB (.slice _ _ _) rfl rfl) (aY rfl rfl rfl (fun _ => bB (.bool _) rfl rfl) (dU [] rfl (by kernel_rfl) (bZ aMe rfl rfl (aMw _ bs vr lr tt mm cl A n c r _ (M2.ownSeg 0 1)) ?_)))
 rintro v3 w3 ⟨rfl, hM3⟩
 have M3 : Mem _ _ [_, _] _ := M2.seg 0 1 hM3
 refine aB (aC ⟨dT, ?_⟩)
 refine cB (jD ?_)
 exact ⟨rfl, r, hr, M3⟩
set_option maxHeartbeats 4000000 in
theorem bBe (w : World) (bs : Nat) (vr lr : Row) (tt mm : Int) (cl : Bool) (A : Option Addr) (n c : Nat) (xs : List Body) (R : Rd w 10 A n (xs.map aF)) (ys : List Body) (cs : List Con) (RV : Rd w 10 vr.A vr.n (ys.map aF)) (RL : Rd w 5 lr.A lr.n (cs.map cL)) (hs : bV xs) (hb : ∀ b ∈ xs, Okb b) (hb2 : ∀ b ∈ ys, Okb b) (hn : n ≤ 1048576) (hvn : vr.n = n) (hcs : ∀ c ∈ cs, OkC xs c) (hmc : lr.n ≤ 1073741824) (hsh : xs.map (jE xs cs) = ys.map (jE xs cs)) (hG : ∀ b ∈ ys, (-1152921504606846976 ≤ (jE xs cs b).1 ∧ (jE xs cs b).1 ≤ 1152921504606846976) ∧ -1152921504606846976 ≤ (jE xs cs b).2 ∧ (jE xs cs b).2 ≤ 1152921504606846976) (hO : Own [(some bs, bc [.slice A n c, .slice vr.A vr.n vr.c, .slice lr.A lr.n lr.c, .int .i64 tt, .int .i64 mm, .bool cl] 168)] w) (hdA : 0 < n → ∀ q off, A = some ⟨q, off, none⟩ → q ∉ bH [(some bs, bc [.slice A n c, .slice vr.A vr.n vr.c, .slice lr.A lr.n lr.c, .int .i64 tt, .int .i64 mm, .bool cl] 168)]) (hdV : 0 < vr.n → ∀ q off, vr.A = some ⟨q, off, none⟩ → q ∉ bH [(some bs, bc [.slice A n c, .slice vr.A vr.n vr.c, .slice lr.A lr.n lr.c, .int .i64 tt, .int .i64 mm, .bool cl] 168)]) (hdL : 0 < lr.n → ∀ q off, lr.A = some ⟨q, off, none⟩ → q ∉ bH [(some bs, bc [.slice A n c, .slice vr.A vr.n vr.c, .slice lr.A lr.n lr.c, .int .i64 tt, .int .i64 mm, .bool cl] 168)]) :
  Calls Tryz.prog 108 #[.pointer (some ⟨bs, 0, none⟩)] w (fun ex w' => ∃ v, ex = .returned v ∧ (fun v w' => v = .tuple #[] ∧ ∃ r : Row, aU 39 10 r.A r.n r.c ((aHc xs cs ys).map aF) r.e ∧ Mem w (bH [(some bs, bc [.slice A n c, .slice vr.A vr.n vr.c, .slice lr.A lr.n lr.c, .int .i64 tt, .int .i64 mm, .bool cl] 168)]) [(some bs, bc [.slice A n c, .slice r.A r.n r.c, .slice lr.A lr.n lr.c, .int .i64 tt, .int .i64 mm, .bool (cl || aUr xs cs ys)] 168), r.e] w') v w') := by
 have hlen : xs.length = n := by simpa using R.len
 refine aH #[] 20 Tryz.func108 rfl Tryz.results108 Tryz.ntmps108 rfl ?_
 have M0 := hO.mem
 refine bO [(0, 0), (1, 0), (2, 0), (3, 0), (4, 1), (5, 0), (6, 0), (7, 0), (8, 1), (9, 0), (10, 0), (11, 0), (12, 1), (13, 2), (14, 2), (15, 0), (16, 0), (17, 2)] mixed rfl (by kernel_rfl) (fun w1 hb1 hh1 => ?_)
 have M1 := M0.drew hb1 hh1
 refine aY rfl rfl rfl (fun _ => aG (.pointer _) rfl) (aY rfl rfl rfl (fun _ => aG (.pointer _) rfl) (aY rfl rfl rfl (fun _ => aN rfl) (aY rfl rfl rfl (fun _ => aE 1 tK rfl) (bW rfl rfl rfl (aM 0 (.slice _ _ _) fJ M1 rfl rfl rfl) (aY rfl rfl rfl (fun _ => aG (.pointer _) rfl) ?_)))))
 refine aY rfl rfl rfl (fun _ => aN rfl) (aY rfl rfl rfl (fun _ => aE 0 aAx rfl) (bW rfl rfl rfl (aM 0 (.slice _ _ _) fJ M1 rfl rfl rfl) (aY rfl rfl rfl (fun _ => aG (.pointer _) rfl) (aY rfl rfl rfl (fun _ => aN rfl) (aY rfl rfl rfl (fun _ => aE 2 tF rfl) ?_)))))
 refine bW rfl rfl rfl (aM 0 (.slice _ _ _) mC M1 rfl rfl rfl) (dU [true, true, false] rfl (by kernel_rfl) (bZ bHm rfl rfl (aKy _ A n c xs (R.memY M1 hdA) hs hb hn lr.A lr.n lr.c cs (RL.memY M1 hdL) hcs hmc) ?_))
 rintro v2 w2 ⟨⟨qA, qn, qc, qe⟩, rfl, hq, hM2⟩
 have hqn : xs.length = qn := by simpa using hq.1
 obtain rfl : qn = vr.n := by omega
 rw [hsh] at hq
 have M2 : Mem _ _ [_, _] _ := M1.call0 hM2
 refine aB (aC ⟨(eL (bQ rfl (aM 0 (.slice _ _ _) fJ M2 rfl rfl rfl)) dT), ?_⟩)
 refine dU [true] rfl (by kernel_rfl) (bZ bCk rfl rfl (aHs _ vr.A vr.n vr.c ys (RV.memY M2 hdV) hb2 (by omega) (jE xs cs) hG qA qc (hq.rd M2 (aS (i := 1) rfl))) ?_)
 rintro v3 w3 ⟨r, rfl, hr, hM3⟩
 have M3 : Mem _ _ [_, _, _] _ := M2.call0 hM3
 refine aB (aC ⟨dT, ?_⟩)
 refine aY rfl rfl rfl (fun _ => bB (.slice _ _ _) rfl rfl) (aY rfl rfl rfl (fun _ => bB (.bool _) rfl rfl) (dU [] rfl (by kernel_rfl) (bZ aMe rfl rfl (aMw _ bs vr lr tt mm cl A n c r _ (M3.ownSeg 0 1)) ?_)))
 rintro v4 w4 ⟨rfl, hM4⟩
 have M4 : Mem _ _ [_, _, _] _ := M3.seg 0 1 hM4
 refine aB (aC ⟨dT, ?_⟩)
 refine cB (jD ?_)
 exact ⟨rfl, r, hr, M4.keep [true, false, true]⟩
theorem aSb {xs : List Body} {cs : List Con} {b b' : Body} (h : SameB b b') : jE xs cs b = jE xs cs b' := by
 unfold jE rI uV
 rw [h.key, h.mass]
theorem aIo {xs ys zs : List Body} {cs : List Con} (h : Like ys zs) : ys.map (jE xs cs) = zs.map (jE xs cs) := by
 apply List.ext_getElem?
 intro i
 rw [List.getElem?_map, List.getElem?_map]
 by_cases hi : i < ys.length
 ·have h1 : ys[i]? = some ys[i] := List.getElem?_eq_getElem hi
  have h2 : zs[i]? = some (zs[i]'(by rw [h.len]; exact hi)) := List.getElem?_eq_getElem _
  rw [h1, h2]
  exact congrArg some (aSb (h.at_ i _ _ h1 h2)).symm
 ·have hl := h.len
  rw [List.getElem?_eq_none (show ys.length ≤ i by omega), List.getElem?_eq_none (show zs.length ≤ i by omega)]
theorem aYq {xs : List Body} {cs : List Con} (hs : bV xs) (hb : ∀ b ∈ xs, Okb b) (hcs : ∀ c ∈ cs, OkC xs c) (hl : cs.length ≤ 1073741824) {zs : List Body} (h : Like xs zs) : ∀ b ∈ zs, (-1152921504606846976 ≤ (jE xs cs b).1 ∧ (jE xs cs b).1 ≤ 1152921504606846976) ∧ -1152921504606846976 ≤ (jE xs cs b).2 ∧ (jE xs cs b).2 ≤ 1152921504606846976 := fun b hbm => by
 have hm : jE xs cs b ∈ zs.map (jE xs cs) := List.mem_map_of_mem hbm
 rw [← aIo h] at hm
 obtain ⟨x, hx, e⟩ := List.mem_map.1 hm
 rw [← e]
 have := aEf hs hb hcs rfl hl cs.length hx
 rwa [List.take_of_length_le (Nat.le_refl _)] at this
set_option maxHeartbeats 16000000 in
theorem vG (w : World) (F : Rd w 2 (some ⟨0, 0, none⟩) 1 [[.int .u32 73856093, .int .u32 19349663]]) (N : Rd w 4 (some ⟨3, 0, none⟩) 1 [cX gL]) (A : Option Addr) (n c : Nat) (xs : List Body) (R : Rd w 10 A n (xs.map aF)) (hb : ∀ b ∈ xs, Okb b) (hs : bV xs) (hn : n ≤ 4096) :
  Calls Tryz.prog 65 #[.slice A n c] w (fun ex w' => ∃ v, ex = .returned v ∧ (fun v w' => ∃ (r : Row) (t : Nat), v = .tuple #[.slice r.A r.n r.c, .agg [.int .i64 (t : Int), .int .i64 ((kJ xs).length : Int), .bool (pG xs)].toArray] ∧ (kJ xs).length ≤ t ∧ 2 * t ≤ xs.length * (xs.length - 1) ∧ aU 39 10 r.A r.n r.c ((lM xs).map aF) r.e ∧ Mem w [] [r.e] w') v w') := by
 have hlen : xs.length = n := by simpa using R.len
 have hnn : xs.length * xs.length ≤ 4096 * 4096 := Nat.mul_le_mul (by omega) (by omega)
 have hcl := aHi xs
 have hsq := bAx (xs := xs)
 refine aH #[.tmp 2, .cell 3 58] 26 Tryz.func65 rfl Tryz.results65 Tryz.ntmps65 rfl ?_
 have M0 := Mem.refl w
 refine aD (aA (eG rfl rfl (aP mE M0 rfl rfl (fun b1 w1 M1 => (aB (aC (aD (aA (dN rfl rfl (wq (cH [(0, .slice _ _ _)] _ aPh rfl rfl) rfl ?_))))))))))
 refine bG (.agg (List.toArray _)) M1 rfl rfl rfl (fun b2 w2 M2 => (wq (aI (.pointer _) rfl) rfl (aB (aC (aD (aD (aA (wq (qK [.func _ _ _, .func _ _ _, .func _ _ _, .func _ _ _] yN bCb rfl rfl (cY rfl)) rfl (aZ rfl rfl (aB (aC (aT ?_))))))))))))
 refine mH 5 (iB (aD (aA (dB rfl rfl rfl rfl (sV 12 rfl (by first | decide | omega) (aB (aC (aD (cQ rfl ?_)))))))))
 refine aK (aC (aD (aT (aD (aA (wq (uS 0 (.func _ _ _) yN aFn rfl rfl (by decide) (by decide) rfl rfl) rfl (wq (aI (.func _ _ _) rfl) rfl (aB (aC (aA (wq (aG (.func _ _ _) rfl) rfl (wq (aG (.pointer _) rfl) rfl ?_))))))))))))
 refine bZ bHv rfl rfl (aYp _ (F.mem M2) (N.mem M2) b2 gZ gZ 0 0 false A n c xs (R.mem M2) hb hs hn (M2.ownSeg 1 1) (M2.away 1 1 R (by simp)) (M2.away 1 1 F (by simp)) (M2.away 1 1 N (by simp))) ?_
 rintro v3 w3 ⟨rfl, r, tm, ht1, ht2, hr, hM3⟩
 have M3 : Mem _ _ [_, _, _] _ := M2.seg 1 1 hM3
 have hrn : (kJ xs).length = r.n := by simpa using hr.1
 refine aB (dD (aC (aA (wq (bP rfl rfl (by first | decide | omega) (by first | decide | omega)) rfl (aV 17 (.int .i64 1) (iE (by first | decide | omega)) (aZ rfl rfl ?_))))))
 refine aB (aC (iB (aD (aA (dB rfl rfl rfl rfl (sV 12 rfl (by first | decide | omega) (aB (aC (aD ?_)))))))))
 refine cQ rfl (aK (aC (aD (aT (aD (aA (wq (uS 1 (.func _ _ _) yN aFn rfl rfl (by decide) (by decide) rfl rfl) rfl (wq (aI (.func _ _ _) rfl) rfl (aB (aC (aA (wq (aG (.func _ _ _) rfl) rfl ?_))))))))))))
 refine wq (aG (.pointer _) rfl) rfl (bZ bGg rfl rfl (aZe _ b2 gZ r (tm : Int) (r.n : Int) false A n c xs (R.mem M3) hb (by omega) (M3.ownSeg 1 1) (M3.away 1 1 R (by simp))) ?_)
 rintro v4 w4 ⟨rfl, g, hg, hM4⟩
 have M4 : Mem _ _ [_, _, _, _] _ := M3.seg 1 1 hM4
 have hgn : (pK xs).length = g.n := by simpa using hg.1
 have hgl := (oJ xs).len
 refine aB (dD (aC (aA (wq (bP rfl rfl (by first | decide | omega) (by first | decide | omega)) rfl (aV 17 (.int .i64 2) (iE (by first | decide | omega)) (aZ rfl rfl ?_))))))
 refine aB (aC (iB (aD (aA (dB rfl rfl rfl rfl (sV 12 rfl (by first | decide | omega) (aB (aC (aD ?_)))))))))
 refine cQ rfl (aK (aC (aD (aT (aD (aA (wq (uS 2 (.func _ _ _) yN aFn rfl rfl (by decide) (by decide) rfl rfl) rfl (wq (aI (.func _ _ _) rfl) rfl (aB (aC (aA (wq (aG (.func _ _ _) rfl) rfl ?_))))))))))))
 refine wq (aG (.pointer _) rfl) rfl (bZ bFs rfl rfl (aTj _ b2 g r (tm : Int) (r.n : Int) _ A n c (pK xs) (kJ xs) (hg.rd M4 (aS (i := 3) rfl)) (hr.rd M4 (aS (i := 2) rfl)) ((oJ xs).sorted hs) (aFr hb) (by omega) (fun c h => (oJ xs).okc (aAy hs hb c h)) (by omega) (M4.ownSeg 1 1) (hg.awayB M4 3 1 rfl rfl rfl) (hr.awayB M4 2 1 rfl rfl rfl)) ?_)
 rintro v5 w5 ⟨rfl, s, hsv, hM5⟩
 have M5 : Mem _ _ [_, _, _, _, _] _ := M4.seg 1 1 hM5
 have hsn : (lO xs).length = s.n := by have h := hsv.1; rwa [List.length_map] at h
 have hlk : Like xs (lO xs) := (oJ xs).trans (kF _ _ 4)
 have hsl := hlk.len
 refine aB (dD (aC (aA (wq (bP rfl rfl (by first | decide | omega) (by first | decide | omega)) rfl (aV 17 (.int .i64 3) (iE (by first | decide | omega)) (aZ rfl rfl ?_))))))
 refine aB (aC (iB (aD (aA (dB rfl rfl rfl rfl (sV 12 rfl (by first | decide | omega) (aB (aC (aD ?_)))))))))
 refine cQ rfl (aK (aC (aD (aT (aD (aA (wq (uS 3 (.func _ _ _) yN aFn rfl rfl (by decide) (by decide) rfl rfl) rfl (wq (aI (.func _ _ _) rfl) rfl (aB (aC (aA (wq (aG (.func _ _ _) rfl) rfl ?_))))))))))))
 refine wq (aG (.pointer _) rfl) rfl (bZ bFu rfl rfl (bBe _ b2 s r (tm : Int) (r.n : Int) _ A n c xs (R.mem M5) (lO xs) (kJ xs) (hsv.rd M5 (aS (i := 4) rfl)) (hr.rd M5 (aS (i := 2) rfl)) hs hb (tB (aFr hb) 4) (by omega) (by omega) (aAy hs hb) (by omega) (aIo hlk) (aYq hs hb (aAy hs hb) (by omega) hlk) (M5.ownSeg 1 1) (M5.away 1 1 R (by simp)) (hsv.awayB M5 4 1 rfl rfl rfl) (hr.awayB M5 2 1 rfl rfl rfl)) ?_)
 rintro v6 w6 ⟨rfl, m, hm, hM6⟩
 have M6 : Mem _ _ [_, _, _, _, _, _] _ := M5.seg 1 1 hM6
 refine aB (dD (aC (aA (wq (bP rfl rfl (by first | decide | omega) (by first | decide | omega)) rfl (aV 17 (.int .i64 4) (iE (by first | decide | omega)) (aZ rfl rfl ?_))))))
 refine aB (aC (iB (aD (aA (dB rfl rfl rfl rfl (uN 12 rfl (by first | decide | omega) (aB (aC (aD ?_)))))))))
 refine cC rfl (cR (dC (dC (eZ (aC (aD (bO [(0, 0), (1, 0), (2, 0), (3, 1), (4, 0), (5, 0), (6, 0), (7, 1), (8, 0), (9, 2)] mixed rfl (by kernel_rfl) (fun w7 hb7 hh7 => ?_))))))))
 have M7 := M6.drew hb7 hh7
 refine aY rfl rfl rfl (fun _ => aG (.pointer _) rfl) (aY rfl rfl rfl (fun _ => aN rfl) (aY rfl rfl rfl (fun _ => aE 1 tK rfl) (bW rfl rfl rfl (aM 1 (.slice _ _ _) fJ M7 rfl rfl rfl) (aY rfl rfl rfl (fun _ => aG (.pointer _) rfl) (aY rfl rfl rfl (fun _ => aN rfl) ?_)))))
 refine aY rfl rfl rfl (fun _ => aE 3 oL rfl) (bW rfl rfl rfl (uL 1 _ kC M7 rfl rfl rfl rfl) (aY rfl rfl rfl (fun _ => aI (.slice _ _ _) rfl) (dU [true, true] rfl (by kernel_rfl) (bA 0 _ kC M7 rfl rfl rfl rfl rfl (aQ rfl) rfl (fun w8 M8 => ?_)))))
 refine aB (aC ⟨dT, ?_⟩)
 refine cB (aC (aL (bCl (.slice _ _ _) 0 kC M8 rfl rfl rfl rfl ?_)))
 exact ⟨m, tm, xE rfl (by rw [hrn]; show Value.agg _ = _; rw [show pG xs = (((false || xs.any pU) || (gM (pK xs) (kJ xs) 4).2) || aUr xs (kJ xs) (lO xs)) by unfold pG; rw [Bool.false_or]]; rfl), by omega, ht2, hm, M8.keep [false, false, false, false, false, true]⟩
set_option maxHeartbeats 16000000 in
theorem aLi (w : World) (F : Rd w 2 (some ⟨0, 0, none⟩) 1 [[.int .u32 73856093, .int .u32 19349663]]) (N_ : Rd w 4 (some ⟨3, 0, none⟩) 1 [cX gL]) (A : Option Addr) (n c : Nat) (xs : List Body) (R : Rd w 10 A n (xs.map aF)) (hb : ∀ b ∈ xs, Okb b) (hs : bV xs) (hn : n ≤ 4096) (z : Int) (N : Nat) (hz : max z 0 = (N : Int)) (hN : N ≤ 1048576) :
  Calls Tryz.prog 30 #[.slice A n c, .int .i64 z] w (fun ex w' => ∃ v, ex = .returned v ∧ (fun v w' => ∃ (r : Row) (t : Nat), v = .tuple #[.slice r.A r.n r.c, .agg [.int .i64 (t : Int), .int .i64 (rT xs N : Int), .bool (zR xs N)].toArray] ∧ rT xs N ≤ t ∧ t ≤ N * 16777216 ∧ aU 39 10 r.A r.n r.c ((jM xs N).map aF) r.e ∧ Mem w [] [r.e] w') v w') := by
 have hlen : xs.length = n := by simpa using R.len
 have hnn : xs.length * (xs.length - 1) ≤ 4096 * 4096 := Nat.mul_le_mul (by omega) (by omega)
 refine aH #[.tmp 4, .cell 5 58] 43 Tryz.func30 rfl Tryz.results30 Tryz.ntmps30 rfl ?_
 have M0 := Mem.refl w
 refine aD (aA (eG rfl rfl (aP mE M0 rfl rfl (fun b1 w1 M1 => (aB (aC (aD (aA (aP mE M1 rfl rfl (fun b2 w2 M2 => (aB (aC (aD (aA ?_))))))))))))))
 refine dN rfl rfl (bZ bDb rfl rfl (rR _ _ _ _ _ (R.mem M2) (zB xs) (by omega)) ?_)
 rintro v3 w3 ⟨qA, qn, qc, qe, rfl, hq0, hM3, _⟩
 have M3 : Mem _ _ [_, _, _] _ := M2.call0 hM3
 refine eG rfl rfl (aB (aC (aD (aD (aA (aZ rfl rfl (wq (nJ rfl rfl ) rfl (aV 12 (.int .i64 (N : Int)) (iE (by omega)) (aZ rfl rfl ?_)))))))))
 refine aB (aC (aT (dI (σ := Nat × Row × Nat) [4, 5, 6, 12] (fun (k, q, t) => [(0, .slice q.A q.n q.c), (13, .int .i64 (k : Int))]) (fun (k, q, t) w' => (k ≤ N ∧ rT xs k ≤ t ∧ t ≤ k * 16777216 ∧ aU 39 10 q.A q.n q.c ((jM xs k).map aF) q.e) ∧ Mem w [] [(some b1, bc [.int .i64 0, .int .i64 0, .bool false] 58), (some b2, bc [.int .i64 (t : Int), .int .i64 (rT xs k : Int), .bool (zR xs k)] 58), q.e] w') (fun (k, q, t) => N - k) (0, ⟨qA, qn, qc, qe⟩, 0) (bM rfl (bM rfl eP)) (⟨⟨by omega, (show 0 ≤ 0 by omega), by omega, hq0⟩, M3⟩) ?_)))
 rintro ⟨k, q, t⟩ ρ4 w4 ⟨⟨hk, htn, htk, hq⟩, hM4⟩
 have hkl := (pE xs k).len
 have hqn : (jM xs k).length = q.n := by simpa using hq.1
 refine aD (aA (dB rfl rfl rfl rfl (aB (aC (aD ?_)))))
 refine aX rfl (fun h14 => ?_) (fun h14 => ?_)
 ·refine aK (aC (aD (aT (aD (aA (dN rfl rfl (bZ aVl rfl rfl (vG _ (F.mem hM4) (N_.mem hM4) q.A q.n q.c (jM xs k) (hq.rd hM4 (aS (i := 2) rfl)) (aIj hb k) (aEn hs k) (by omega)) ?_)))))))
  rintro v5 w5 ⟨r, t2, rfl, h1, h2, hr, hM5⟩
  have M5 : Mem _ _ [_, _, _, _] _ := hM4.call0 hM5
  rw [show (jM xs k).length = xs.length from hkl] at h2
  have hsuc : rT xs (k + 1) = rT xs k + (kJ (jM xs k)).length := rfl
  refine wq (aG (.tuple (List.toArray _)) rfl) rfl (wq (bB (.slice _ _ _) rfl rfl) rfl (wq (bB (.agg (List.toArray _)) rfl rfl) rfl (aP mE M5 rfl rfl (fun b6 w6 M6 => (eG rfl rfl (bA 4 _ kC M6 rfl rfl rfl rfl rfl (aQ rfl) rfl (fun w7 M7 => ?_)))))))
  refine aB (aC (aD (aA (wq (aE 0 sU rfl) rfl (wq (aM 1 (.int _ _) iY M7 rfl rfl rfl) rfl (wq (aE 0 sU rfl) rfl (wq (aM 4 (.int _ _) iY M7 rfl rfl rfl) rfl (wq (bP rfl rfl (by omega) (by omega)) rfl ?_))))))))
  refine wq (aE 0 sU rfl) rfl (dX 1 (.int _ _) iY M7 rfl rfl rfl rfl rfl rfl (fun w8 M8 => (aB (aC (aD (aA (wq (aE 1 rD rfl) rfl (wq (aM 1 (.int _ _) iY M8 rfl rfl rfl) rfl (wq (aE 1 rD rfl) rfl ?_)))))))))
  refine wq (aM 4 (.int _ _) iY M8 rfl rfl rfl) rfl (wq (bP rfl rfl (by omega) (by omega)) rfl (wq (aE 1 rD rfl) rfl (dX 1 (.int _ _) iY M8 rfl rfl rfl rfl rfl rfl (fun w9 M9 => (aB (aC (aD (aA (wq (aE 2 lQ rfl) rfl ?_)))))))))
  refine wq (aM 1 (.bool _) mV M9 rfl rfl rfl) rfl (wq (aG (.bool _) rfl) rfl ?_)
  refine mG 34 _ rfl (fun g34 => ?_) (fun g34 => ?_)
  ·refine aR rfl rfl (aR rfl rfl (wq (bS true (.bool true) rfl rfl) rfl (wq (aE 2 lQ rfl) rfl (dX 1 (.bool true) mV M9 rfl rfl rfl rfl rfl rfl (fun w10 M10 => (aB (aC (aA ?_))))))))
   refine dN rfl rfl (eG rfl rfl (aB (dD (aC (aA (wq (bP rfl rfl (by omega) (by omega)) rfl ?_))))))
   refine aZ rfl rfl (aB ?_)
   refine cO (k + 1, r, t + t2) (bM rfl (bM rfl eP)) (cU rfl (cU rfl (cU rfl (cU rfl jT)))) ?_ ?_
   ·exact ⟨⟨by omega, by rw [hsuc]; omega, by omega, hr⟩, by rw [hsuc, Int.natCast_add, Int.natCast_add, show zR xs (k + 1) = _ from by show (_ || _) = true; rw [g34, Bool.true_or]]; exact M10.keep [true, true, false, true, false]⟩
   ·(show N - (k + 1) < N - k; omega)
  ·refine wq (aE 2 lQ rfl) rfl (wq (aM 4 (.bool _) mV M9 rfl rfl rfl) rfl (wq (bS false (.bool _) rfl rfl) rfl (wq (aE 2 lQ rfl) rfl (dX 1 (.bool _) mV M9 rfl rfl rfl rfl rfl rfl (fun w11 M11 => (aB (aC (aA ?_))))))))
   refine dN rfl rfl (eG rfl rfl (aB (dD (aC (aA (wq (bP rfl rfl (by omega) (by omega)) rfl ?_))))))
   refine aZ rfl rfl (aB ?_)
   refine cO (k + 1, r, t + t2) (bM rfl (bM rfl eP)) (cU rfl (cU rfl (cU rfl (cU rfl jT)))) ?_ ?_
   ·exact ⟨⟨by omega, by rw [hsuc]; omega, by omega, hr⟩, by rw [hsuc, Int.natCast_add, Int.natCast_add, show zR xs (k + 1) = _ from by show (_ || _) = pG (jM xs k); rw [g34, Bool.false_or]]; exact M11.keep [true, true, false, true, false]⟩
   ·(show N - (k + 1) < N - k; omega)
 ·have hkn : k = N := by omega
  rw [hkn] at hq htn hM4
  refine cR (dC (dA (eZ (aC (aD (bO [(0, 0), (1, 1), (2, 0), (3, 2)] mixed rfl (by kernel_rfl) (fun w12 hb12 hh12 => ?_)))))))
  have M12 := hM4.drew hb12 hh12
  refine sQ rfl rfl rfl (bW rfl rfl rfl (bC 1 kC M12 rfl rfl rfl) (aY rfl rfl rfl (fun _ => aI (.slice _ _ _) rfl) (dU [true] rfl (by kernel_rfl) (bA 0 _ kC M12 rfl rfl rfl rfl rfl (aQ rfl) rfl (fun w13 M13 => ?_)))))
  refine aB (aC ⟨dT, ?_⟩)
  refine cB (aC (aL (bCl (.slice _ _ _) 0 kC M13 rfl rfl rfl rfl ?_)))
  exact ⟨q, t, by rw [← hkn], htn, by rw [← hkn]; exact htk, hq, M13.keep [false, false, true]⟩
end Go.Proofs.YtaoaknafiegfoaaGreatDoor
