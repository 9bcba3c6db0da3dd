/- Part of the proof of the laws of this seat: S20i, S20j, S20k, S20l, S20m, S20n, R20a, R20b, R20c, R20d, R20e, R20f, Aw20. No conditions. -/
import Derived.Test.YtlmcphcgiclanaaGreatDoorK2
import Derived.Test.YtlmcphcgiclanaaGreatDoorK5
import Derived.Test.YtlmcphcgiclanaaGreatDoorK27
import Derived.Test.YtlmcphcgiclanaaGreatDoorK30
import Derived.Test.YtlmcphcgiclanaaGreatDoorK29
import Derived.Test.YtlmcphcgiclanaaGreatDoorK28
set_option linter.unusedVariables false
set_option linter.unusedSimpArgs false
set_option linter.unnecessarySimpa false
namespace Go.Proofs.YtlmcphcgiclanaaGreatDoor
open Go.Bil
open Go.RowKit (Below)
open Go.Proofs
set_option maxHeartbeats 4000000 in
theorem jT (w : World) (a l : Int) (hl : 0 ≤ l ∧ l ≤ 2147483647) (bf : Nat) (fl : Bool) (F : Option Addr) (cf : Nat) (RF : Rd w 1 F 1 [[.pointer (some ⟨bf, 0, none⟩)]]) (hdF : 0 < 1 → ∀ q off, F = some ⟨q, off, none⟩ → q ∉ bQ [(some bf, bc [.bool fl] 4)]) (hO : Own [(some bf, bc [.bool fl] 4)] w) :
  Calls Tryz.prog 85 #[.int .i64 a, .int .i64 l, .slice F 1 cf] w (fun ex w' => ∃ v, ex = .returned v ∧ (fun v w' => v = .int .i32 (iC a l) ∧ Mem w (bQ [(some bf, bc [.bool fl] 4)]) [(some bf, bc [.bool (fl || decide (iC a l ≠ a))] 4)] w') v w') := by
 have hr := dX a hl.1
 refine aH #[.tmp 6] 34 Tryz.func85 rfl Tryz.results85 Tryz.ntmps85 rfl ?_
 have M0 := hO.mem
 refine aD (aA (bI rfl rfl (aB (aC (aD (aA (aV rfl rfl (aV rfl rfl (bY aJm rfl rfl (xD _ a l (by omega)) ?_)))))))))
 rintro v1 w1 ⟨rfl, hb1⟩
 have M1 := M0.callB hb1
 refine wq (aG (.tuple (List.toArray _)) rfl) rfl (wq (bE (.int _ _) rfl rfl) rfl (wq (bE (.bool (decide _)) rfl rfl) rfl (bI rfl rfl (wq (aI (.bool (decide _)) rfl) rfl (aB (aC (aD (aD (aA ?_)))))))))
 refine eK rfl rfl (wq (cR Tryz.underlying175 rfl) rfl (aS 18 (.int .i64 1) (iE rfl) (aV rfl rfl (aB (aC (aT (kX 2 (gL ?_))))))))
 refine aD (aA (cS rfl rfl rfl rfl (lQ 20 rfl (by first | decide | omega) (aB (aC (aD (cO rfl (aL (aC (aD (aT (aD (aA ?_)))))))))))))
 refine wq (bX (0) aAw rfl rfl rfl ((RF.memY M1 hdF).below_len ((show ([[.pointer (some ⟨bf, 0, none⟩)]] : List (List Value))[0]? = some [.pointer (some ⟨bf, 0, none⟩)] from rfl))) ((RF.memY M1 hdF).someK ((show ([[.pointer (some ⟨bf, 0, none⟩)]] : List (List Value))[0]? = some [.pointer (some ⟨bf, 0, none⟩)] from rfl)))) rfl ?_
 refine wq (iN (.pointer _) bBk (RF.memY M1 hdF) ((show ([[.pointer (some ⟨bf, 0, none⟩)]] : List (List Value))[0]? = some [.pointer (some ⟨bf, 0, none⟩)] from rfl)) rfl) rfl (wq (aI (.pointer _) rfl) rfl (aB (aC (aA (wq (aG (.pointer _) rfl) rfl (wq (aG (.pointer _) rfl) rfl ?_))))))
 refine wq (aK rfl) rfl (wq (aM 0 (.bool _) nG M1 rfl rfl rfl) rfl (wq (aG (.bool _) rfl) rfl ?_))
 refine mH 27 _ rfl (fun g27 => ?_) (fun g27 => ?_)
 ·refine aR rfl rfl (wq (bN true (.bool true) rfl rfl) rfl (wq (aK rfl) rfl (dF 0 (.bool true) nG M1 rfl rfl rfl rfl rfl rfl (fun w2 M2 => (aB (cV ?_))))))
  refine aC (aA (wq (bM rfl rfl (by first | decide | omega) (by first | decide | omega)) rfl (aS 31 (.int .i64 1) (iE (by first | decide | omega)) (aV rfl rfl (aB (aC (gL ?_)))))))
  refine aD (aA (cS rfl rfl rfl rfl (uH 20 rfl (by first | decide | omega) (aB (aC (aD (cC rfl (cN ?_))))))))
  refine dB (dB (eZ (aC (aD (aA (aV rfl rfl (wq (bR us2 Tryz.underlying21 rfl (lH _ (by omega) (by omega))) rfl (bI rfl rfl ?_))))))))
  refine aB (aC (aN (cA (.int _ _) rfl ?_)))
  first | exact ⟨rfl, by rw [(by simp only [g27, Bool.true_or] : (fl || decide (iC a l ≠ a)) = true)]; exact M2⟩ | exact ⟨rfl, by rw [(by simp only [g27, Bool.false_or] : (fl || decide (iC a l ≠ a)) = decide (iC a l ≠ a))]; exact M2⟩
 ·refine wq (aG (.bool (decide _)) rfl) rfl (wq (bN false (.bool (decide _)) rfl rfl) rfl (wq (aK rfl) rfl (dF 0 (.bool (decide _)) nG M1 rfl rfl rfl rfl rfl rfl (fun w3 M3 => (aB (cV ?_))))))
  refine aC (aA (wq (bM rfl rfl (by first | decide | omega) (by first | decide | omega)) rfl (aS 31 (.int .i64 1) (iE (by first | decide | omega)) (aV rfl rfl (aB (aC (gL ?_)))))))
  refine aD (aA (cS rfl rfl rfl rfl (uH 20 rfl (by first | decide | omega) (aB (aC (aD (cC rfl (cN ?_))))))))
  refine dB (dB (eZ (aC (aD (aA (aV rfl rfl (wq (bR us2 Tryz.underlying21 rfl (lH _ (by omega) (by omega))) rfl (bI rfl rfl ?_))))))))
  refine aB (aC (aN (cA (.int _ _) rfl ?_)))
  first | exact ⟨rfl, by rw [(by simp only [g27, Bool.true_or] : (fl || decide (iC a l ≠ a)) = true)]; exact M3⟩ | exact ⟨rfl, by rw [(by simp only [g27, Bool.false_or] : (fl || decide (iC a l ≠ a)) = decide (iC a l ≠ a))]; exact M3⟩
set_option maxHeartbeats 4000000 in
theorem aMl (w : World) (i : Int) (b : Body) (hb : Okb b) (bf : Nat) (fl : Bool) (hO : Own [(some bf, bc [.bool fl] 4)] w) :
  Calls Tryz.prog 83 #[.int .i64 i, (.agg (aF b).toArray), .pointer (some ⟨bf, 0, none⟩)] w (fun ex w' => ∃ v, ex = .returned v ∧ (fun v w' => v = (.agg (aF (nW b)).toArray) ∧ Mem w (bQ [(some bf, bc [.bool fl] 4)]) [(some bf, bc [.bool (fl || oP b)] 4)] w') v w') := by
 have hv := hb.v
 refine aH #[.cell 5 40] 19 Tryz.func83 rfl Tryz.results83 Tryz.ntmps83 rfl ?_
 have M0 := hO.mem
 refine aD (aA (bJ (.agg (List.toArray _)) M0 rfl rfl rfl (fun b1 w1 M1 => (aQ fQ M1 rfl rfl (fun b2 w2 M2 => (aB (aC (aD (aD (aA (wq (aY 1 bL M2 rfl rfl rfl) rfl (bY bEr rfl rfl (zC _ b) ?_))))))))))))
 rintro v3 w3 ⟨rfl, hb3⟩
 have M3 := M2.callB hb3
 refine wq (qC rfl) rfl (aB (aC ?_))
 refine aX rfl (fun h8 => ?_) (fun h8 => ?_)
 ·refine aA (wq (aE 8 fD rfl) rfl (wq (aE 1 dJ rfl) rfl (wq (aM 1 (.int _ _) aU M3 rfl rfl rfl) rfl (wq (bR fK Tryz.underlying2 rfl (kB _ (by omega) (by omega))) rfl (wq (mF rfl rfl (by omega) (by omega)) rfl ?_)))))
  refine cY [.pointer _] [[.pointer (some ⟨bf, 0, none⟩)]] rfl aAw M3 rfl rfl rfl rfl (dG rfl) (by decide) (fun b4 w4 M4 => ?_)
  have hlit14 := jM (T := 133) (sz := 1) (b := b4) (nn := 1) [[.pointer (some ⟨bf, 0, none⟩)]] (by simp) rfl (by decide)
  refine bY aEd rfl rfl (jT _ (b.vy - 1024) 16777216 ⟨by decide, by decide⟩ bf _ _ 1 (hlit14.rd M4 (bC (i := 3) rfl)) (hlit14.awayB M4 3 0 rfl rfl rfl) (M4.ownSeg 0 1)) ?_
  rintro v5 w5 ⟨rfl, hM5⟩
  have M5 : Mem _ _ [_, _, _, _] _ := M4.seg 0 1 hM5
  refine wq (aE 8 fD rfl) rfl (wq (aE 1 dJ rfl) rfl (dF 1 (.int _ _) aU M5 rfl rfl rfl rfl rfl rfl (fun w6 M6 => (aB (aC (aD (aA (wq (aY 1 bL M6 rfl rfl rfl) rfl (bB 2 _ bL M6 rfl rfl rfl rfl rfl (aP rfl) rfl (fun w7 M7 => ?_))))))))))
  refine aB (aC (aN (fP 2 bL M7 rfl rfl rfl ?_)))
  exact ⟨by unfold nW; rw [if_neg h8]; rfl, by rw [show oP b = decide (iC (b.vy - 1024) 16777216 ≠ b.vy - 1024) by unfold oP; rw [decide_eq_true h8, Bool.true_and]]; exact M7.keep [true, false, false, false]⟩
 ·refine aL (aC (aD (aA (wq (aY 1 bL M3 rfl rfl rfl) rfl (bB 2 _ bL M3 rfl rfl rfl rfl rfl (aP rfl) rfl (fun w8 M8 => (aB (aC (aN (fP 2 bL M8 rfl rfl rfl ?_))))))))))
  exact ⟨by unfold nW; rw [if_pos (Decidable.not_not.1 h8)]; rfl, by rw [show oP b = false by unfold oP; rw [decide_eq_false h8, Bool.false_and], Bool.or_false]; exact M8.keep [true, false, false]⟩
set_option maxHeartbeats 4000000 in
theorem aHa (w : World) (A : Option Addr) (n c : Nat) (xs : List Body) (R : Rd w 10 A n (xs.map aF)) (hb : ∀ b ∈ xs, Okb b) (hn : n ≤ 1048576) (bf : Nat) (hO : Own [(some bf, bc [.bool false] 4)] w) (hdA : 0 < n → ∀ q off, A = some ⟨q, off, none⟩ → q ∉ bQ [(some bf, bc [.bool false] 4)]) :
  Calls Tryz.prog 82 #[.slice A n c, .func (.func 83) #[] #[.pointer (some ⟨bf, 0, none⟩)]] w (fun ex w' => ∃ v, ex = .returned v ∧ (fun v w' => ∃ r : Row, v = .slice r.A r.n r.c ∧ aW 40 10 r.A r.n r.c ((qD xs).map aF) r.e ∧ Mem w (bQ [(some bf, bc [.bool false] 4)]) [(some bf, bc [.bool (xs.any oP)] 4), r.e] w') v w') := by
 have hlen : xs.length = n := by simpa using R.len
 have hbd := R.bound
 refine aH #[.tmp 4] 24 Tryz.func82 rfl Tryz.results82 Tryz.ntmps82 rfl ?_
 have M0 := hO.mem
 refine aD (aA (fZ rfl rfl (aB (aC (aD (aA (fZ rfl rfl ?_)))))))
 have M1 := M0.dummy default
 refine aB (aC (aD (aD (aA (eK rfl rfl (wq (cR Tryz.underlying22 rfl) rfl (aV rfl rfl (aB (aC (aT (dN (σ := Nat × Row) [1, 4, 8, 9] (fun (k, q) => [(5, .slice q.A q.n q.c), (10, .int .i64 (k : Int))]) (fun (k, q) w' => (k ≤ n ∧ aW 40 10 q.A q.n q.c (((xs.take k).map nW).map aF) q.e) ∧ Mem w (bQ [(some bf, bc [.bool false] 4)]) [(some bf, bc [.bool ((xs.take k).any oP)] 4), q.e] w') (fun (k, q) => n - k) (0, iG) (bK rfl (bK rfl fC)) (⟨⟨by omega, aW.nil _ _ _⟩, M1⟩) ?_)))))))))))
 rintro ⟨k, q⟩ ρ2 w2 ⟨⟨hk, hq⟩, hM2⟩
 have htl := List.length_take_le k xs
 have hqn : (xs.take k).length = q.n := by simpa using hq.1
 refine aD (aA (cS rfl rfl rfl rfl (aB (aC (aD ?_)))))
 refine aX rfl (fun h11 => ?_) (fun h11 => ?_)
 ·obtain ⟨xb, hxb⟩ := cL (xs := xs) (k := k) hlen (by omega)
  refine aL (aC (aD (aT (aD (aA (aV rfl rfl (wq (bX (k) eX rfl rfl rfl ((R.memY hM2 hdA).below_len (aJ aF hxb)) ((R.memY hM2 hdA).someK (aJ aF hxb))) rfl (wq (eB _ bL (R.memY hM2 hdA) (aJ aF hxb) rfl) rfl (aQ fQ hM2 rfl rfl (fun b3 w3 M3 => ?_))))))))))
  refine bI rfl rfl (bB 2 _ bL M3 rfl rfl rfl rfl rfl (aP rfl) rfl (fun w4 M4 => (aB (aC (aA (eK rfl rfl (wq (aG (.func _ _ _) rfl) rfl (aV rfl rfl ?_))))))))
  refine wq (aY 2 bL M4 rfl rfl rfl) rfl (bY bCz rfl rfl (aMl _ _ xb (hb xb (List.mem_of_getElem? hxb)) bf _ (M4.ownSeg 0 1)) ?_)
  rintro v5 w5 ⟨rfl, hM5⟩
  have M5 : Mem _ _ [_, _, _] _ := M4.seg 0 1 hM5
  refine cY [.agg (List.toArray _)] [aF (nW xb)] rfl eX M5 rfl rfl rfl rfl (dG rfl) (by decide) (fun b6 w6 M6 => (eG 1 [aF (nW xb)] eX M6 rfl rfl rfl rfl rfl hq rfl (by simp [aF, Go.Bil.one]) (dA.ofMem 3 M6 rfl) (by omega) (fun A7 c7 e7 w7 M7 hR7 => (fZ rfl rfl ?_))))
  refine aB (cV (aC (aA (wq (bM rfl rfl (by omega) (by omega)) rfl (aV rfl rfl (aB ?_))))))
  refine cQ (k + 1, ⟨A7, q.n + 1, c7, e7⟩) (bK rfl (bK rfl fC)) (cU rfl (cU rfl (cU rfl (cU rfl kE)))) ?_ ?_
  ·exact ⟨⟨by omega, by rw [cT hxb, List.map_append, List.map_append]; exact hR7⟩, by rw [cT hxb, List.any_append, List.any_cons, List.any_nil, Bool.or_false]; exact M7.keep [true, true, false, false]⟩
  ·(show n - (k + 1) < n - k; omega)
 ·have hkn : k = n := by omega
  rw [List.take_of_length_le (by omega)] at hq
  rw [List.take_of_length_le (by omega)] at hM2
  refine cN (dB (cZ (eZ (aC (aD (aA (eK rfl rfl ?_)))))))
  refine fZ rfl rfl (aB (aC (aN (cA (.slice _ _ _) rfl ?_))))
  exact ⟨q, rfl, hq, hM2⟩
set_option maxHeartbeats 4000000 in
theorem aEj (w : World) (A : Option Addr) (n c : Nat) (xs : List Body) (R : Rd w 10 A n (xs.map aF)) (hb : ∀ b ∈ xs, Okb b) (hn : n ≤ 1048576) :
  Calls Tryz.prog 53 #[.slice A n c] w (fun ex w' => ∃ v, ex = .returned v ∧ (fun v w' => ∃ r : Row, v = .tuple #[.slice r.A r.n r.c, .bool (xs.any oP)] ∧ aW 40 10 r.A r.n r.c ((qD xs).map aF) r.e ∧ Mem w [] [r.e] w') v w') := by
 refine aH #[.tmp 2, .tmp 3] 11 Tryz.func53 rfl Tryz.results53 Tryz.ntmps53 rfl ?_
 have M0 := Mem.refl w
 refine aD (aA (fZ rfl rfl (wq (aI (.bool false) rfl) rfl (aB (aC (aD (aA (aQ aKq M0 rfl rfl (fun b1 w1 M1 => (dF 0 (.bool false) nG M1 rfl rfl rfl rfl rfl rfl (fun w2 M2 => ?_)))))))))))
 refine aB (aC (aD (aA (eK rfl rfl (wq (cM [] [.pointer _] rfl rfl) rfl (bY aYs rfl rfl (aHa _ A n c xs (R.mem M2) hb hn b1 (M2.ownSeg 0 1) (M2.away 0 1 R (by simp))) ?_))))))
 rintro v3 w3 ⟨r, rfl, hr, hM3⟩
 have M3 : Mem _ _ [_, _] _ := M2.seg 0 1 hM3
 refine fZ rfl rfl (aB (aC (aD (bV [(0, 0), (1, 1), (2, 0), (3, 0)] mixed rfl (by kernel_rfl) (fun w4 hb4 hh4 => ?_)))))
 have M4 := M3.drew hb4 hh4
 refine DmS rfl rfl rfl (cB rfl rfl rfl (aM 0 (.bool _) nG M4 rfl rfl rfl) (aZ rfl rfl rfl (fun _ => aI (.slice _ _ _) rfl) (aZ rfl rfl rfl (fun _ => aI (.bool _) rfl) (cG (aC (aN ?_))))))
 refine gV (.slice _ _ _) (.bool _) rfl rfl ?_
 exact ⟨r, rfl, hr, M4.keep [false, true]⟩
set_option maxHeartbeats 4000000 in
theorem aMv (w : World) (i : Nat) (b : Body) (hb : Okb b) (bf bl : Nat) (fl : Bool) (C : Option Addr) (m cm : Nat) (l : List (Int × Int)) (RS : Rd w 2 C m (l.map cE)) (s : Int × Int) (hs : l[i]? = some s) (hsb : (-1152921504606846976 ≤ s.1 ∧ s.1 ≤ 1152921504606846976) ∧ -1152921504606846976 ≤ s.2 ∧ s.2 ≤ 1152921504606846976) (hO : Own [(some bf, bc [.bool fl] 4), (some bl, bc [.slice C m cm] 97)] w) (hdS : 0 < m → ∀ q off, C = some ⟨q, off, none⟩ → q ∉ bQ [(some bf, bc [.bool fl] 4), (some bl, bc [.slice C m cm] 97)]) :
  Calls Tryz.prog 86 #[.int .i64 (i : Int), (.agg (aF b).toArray), .pointer (some ⟨bl, 0, none⟩), .pointer (some ⟨bf, 0, none⟩)] w (fun ex w' => ∃ v, ex = .returned v ∧ (fun v w' => v = (.agg (aF (aCh b s.1 s.2)).toArray) ∧ Mem w (bQ [(some bf, bc [.bool fl] 4), (some bl, bc [.slice C m cm] 97)]) [(some bf, bc [.bool (fl || aMc b s.1 s.2)] 4), (some bl, bc [.slice C m cm] 97)] w') v w') := by
 have hv := hb.v
 have hpp := hb.p
 have hlm : l.length = m := by simpa using RS.len
 have hil := (List.getElem?_eq_some_iff.1 hs).1
 refine aH #[.cell 6 40] 50 Tryz.func86 rfl Tryz.results86 Tryz.ntmps86 rfl ?_
 have M0 := hO.mem
 refine aD (aA (bJ (.agg (List.toArray _)) M0 rfl rfl rfl (fun b1 w1 M1 => (aQ fQ M1 rfl rfl (fun b2 w2 M2 => (aB (aC (aD (bV [(0, 0), (1, 0), (2, 1), (3, 0), (4, 1), (5, 0), (6, 1), (7, 1), (8, 1), (9, 0), (10, 0), (11, 0), (12, 1), (13, 0), (14, 0), (15, 0), (16, 0)] mixed rfl (by kernel_rfl) (fun w3 hb3 hh3 => ?_))))))))))
 have M3 := M2.drew hb3 hh3
 refine aZ rfl rfl rfl (fun _ => aE 6 fW rfl) (aZ rfl rfl rfl (fun _ => aE 0 dP rfl) (cB rfl rfl rfl (aM 2 (.int _ _) aU M3 rfl rfl rfl) (aZ rfl rfl rfl (fun _ => bR fK Tryz.underlying2 rfl (kB _ (by omega) (by omega))) (cB rfl rfl rfl (aM 1 (.slice _ _ _) aBd M3 rfl rfl rfl) ?_))))
 refine iB rfl rfl rfl (cB rfl rfl rfl (bX (i) aHl rfl rfl rfl ((RS.memY M3 hdS).below_len (aJ cE hs)) ((RS.memY M3 hdS).someK (aJ cE hs))) (cB rfl rfl rfl (bO 0 xT (RS.memY M3 hdS) (Nat.lt_of_le_of_lt (Nat.zero_le _) ((RS.memY M3 hdS).below_len (aJ cE hs))) rfl) ?_))
 refine cB rfl rfl rfl (eH (o := 0) (.int _ _) kR (RS.memY M3 hdS) (aJ cE hs) rfl rfl) (aZ rfl rfl rfl (fun _ => bM rfl rfl (by omega) (by omega)) (aZ rfl rfl rfl (fun _ => aE 8 fD rfl) (aZ rfl rfl rfl (fun _ => aE 0 dP rfl) (cB rfl rfl rfl (aM 2 (.int _ _) aU M3 rfl rfl rfl) ?_))))
 refine aZ rfl rfl rfl (fun _ => gB rfl rfl (by decide)) (iH 22 (.int .i32 (b.vx / 64)) (iE (aFk _)) (aZ rfl rfl rfl (fun _ => bR fK Tryz.underlying2 rfl (kB _ (by omega) (by omega))) (aZ rfl rfl rfl (fun _ => bM rfl rfl (by omega) (by omega)) (iH 24 (.int .i64 (aId b s.1)) rfl (pP rfl rfl rfl ?_)))))
 refine cG (aC (aD (bV [(0, 0), (1, 0), (2, 1), (3, 0), (4, 1), (5, 0), (6, 1), (7, 1), (8, 1), (9, 0), (10, 0), (11, 0), (12, 1), (13, 0), (14, 0), (15, 0), (16, 0)] mixed rfl (by kernel_rfl) (fun w4 hb4 hh4 => ?_))))
 have M4 := M3.drew hb4 hh4
 refine aZ rfl rfl rfl (fun _ => aE 6 fW rfl) (aZ rfl rfl rfl (fun _ => aE 1 dJ rfl) (cB rfl rfl rfl (aM 2 (.int _ _) aU M4 rfl rfl rfl) (aZ rfl rfl rfl (fun _ => bR fK Tryz.underlying2 rfl (kB _ (by omega) (by omega))) (cB rfl rfl rfl (aM 1 (.slice _ _ _) aBd M4 rfl rfl rfl) ?_))))
 refine iB rfl rfl rfl (cB rfl rfl rfl (bX (i) aHl rfl rfl rfl ((RS.memY M4 hdS).below_len (aJ cE hs)) ((RS.memY M4 hdS).someK (aJ cE hs))) (cB rfl rfl rfl (bO 1 wX (RS.memY M4 hdS) (Nat.lt_of_le_of_lt (Nat.zero_le _) ((RS.memY M4 hdS).below_len (aJ cE hs))) rfl) ?_))
 refine cB rfl rfl rfl (eH (o := 1) (.int _ _) kR (RS.memY M4 hdS) (aJ cE hs) rfl rfl) (aZ rfl rfl rfl (fun _ => bM rfl rfl (by omega) (by omega)) (aZ rfl rfl rfl (fun _ => aE 8 fD rfl) (aZ rfl rfl rfl (fun _ => aE 1 dJ rfl) (cB rfl rfl rfl (aM 2 (.int _ _) aU M4 rfl rfl rfl) ?_))))
 refine aZ rfl rfl rfl (fun _ => gB rfl rfl (by decide)) (iH 38 (.int .i32 (b.vy / 64)) (iE (aFk _)) (aZ rfl rfl rfl (fun _ => bR fK Tryz.underlying2 rfl (kB _ (by omega) (by omega))) (aZ rfl rfl rfl (fun _ => bM rfl rfl (by omega) (by omega)) (iH 40 (.int .i64 (aHj b s.2)) rfl (pP rfl rfl rfl ?_)))))
 refine cG (aC (aD (aA (aV rfl rfl (cY [.pointer _] [[.pointer (some ⟨bf, 0, none⟩)]] rfl aAw M4 rfl rfl rfl rfl (dG rfl) (by decide) (fun b5 w5 M5 => ?_))))))
 have hlit42 := jM (T := 133) (sz := 1) (b := b5) (nn := 1) [[.pointer (some ⟨bf, 0, none⟩)]] (by simp) rfl (by decide)
 refine bY aEd rfl rfl (jT _ (aId b s.1) 1073741824 ⟨by decide, by decide⟩ bf _ _ 1 (hlit42.rd M5 (bC (i := 4) rfl)) (hlit42.awayB M5 4 0 rfl rfl rfl) (M5.ownSeg 0 1)) ?_
 rintro v6 w6 ⟨rfl, hM6⟩
 have M6 : Mem _ _ [_, _, _, _, _] _ := M5.seg 0 1 hM6
 refine aV rfl rfl (cY [.pointer _] [[.pointer (some ⟨bf, 0, none⟩)]] rfl aAw M6 rfl rfl rfl rfl (dG rfl) (by decide) (fun b7 w7 M7 => ?_))
 have hlit45 := jM (T := 133) (sz := 1) (b := b7) (nn := 1) [[.pointer (some ⟨bf, 0, none⟩)]] (by simp) rfl (by decide)
 refine bY aEd rfl rfl (jT _ (aHj b s.2) 1073741824 ⟨by decide, by decide⟩ bf _ _ 1 (hlit45.rd M7 (bC (i := 5) rfl)) (hlit45.awayB M7 5 0 rfl rfl rfl) (M7.ownSeg 0 1)) ?_
 rintro v8 w8 ⟨rfl, hM8⟩
 have M8 : Mem _ _ [_, _, _, _, _, _] _ := M7.seg 0 1 hM8
 refine wq (cI [(0, .int _ _), (1, .int _ _)] _ eL rfl rfl) rfl (wq (aE 6 fW rfl) rfl (yN 2 _ bH M8 rfl rfl rfl rfl rfl (aP rfl) (Nat.le_of_ble_eq_true rfl) (fun w9 M9 => (aB (aC (aD (aA (wq (aY 2 bL M9 rfl rfl rfl) rfl (bB 3 _ bL M9 rfl rfl rfl rfl rfl (aP rfl) rfl (fun w10 M10 => ?_))))))))))
 refine aB (aC (aN (fP 3 bL M10 rfl rfl rfl ?_)))
 exact ⟨rfl, by rw [show (fl || aMc b s.1 s.2) = ((fl || decide (iC (aId b s.1) 1073741824 ≠ aId b s.1)) || decide (iC (aHj b s.2) 1073741824 ≠ aHj b s.2)) from (Bool.or_assoc _ _ _).symm]; exact M10.keep [true, true, false, false, false, false]⟩
set_option maxHeartbeats 4000000 in
theorem aJq (w : World) (A : Option Addr) (n c : Nat) (xs : List Body) (R : Rd w 10 A n (xs.map aF)) (hb : ∀ b ∈ xs, Okb b) (hn : n ≤ 1048576) (bf bl : Nat) (G : Body → Int × Int) (hG : ∀ b ∈ xs, (-1152921504606846976 ≤ (G b).1 ∧ (G b).1 ≤ 1152921504606846976) ∧ -1152921504606846976 ≤ (G b).2 ∧ (G b).2 ≤ 1152921504606846976) (C : Option Addr) (cm : Nat) (RS : Rd w 2 C n ((xs.map G).map cE)) (hO : Own [(some bf, bc [.bool false] 4), (some bl, bc [.slice C n cm] 97)] w) (hdA : 0 < n → ∀ q off, A = some ⟨q, off, none⟩ → q ∉ bQ [(some bf, bc [.bool false] 4), (some bl, bc [.slice C n cm] 97)]) (hdS : 0 < n → ∀ q off, C = some ⟨q, off, none⟩ → q ∉ bQ [(some bf, bc [.bool false] 4), (some bl, bc [.slice C n cm] 97)]) :
  Calls Tryz.prog 82 #[.slice A n c, .func (.func 86) #[] #[.pointer (some ⟨bl, 0, none⟩), .pointer (some ⟨bf, 0, none⟩)]] w (fun ex w' => ∃ v, ex = .returned v ∧ (fun v w' => ∃ r : Row, v = .slice r.A r.n r.c ∧ aW 40 10 r.A r.n r.c ((xs.map (fun b => aCh b (G b).1 (G b).2)).map aF) r.e ∧ Mem w (bQ [(some bf, bc [.bool false] 4), (some bl, bc [.slice C n cm] 97)]) [(some bf, bc [.bool (xs.any (fun b => aMc b (G b).1 (G b).2))] 4), (some bl, bc [.slice C n cm] 97), r.e] w') v w') := by
 have hlen : xs.length = n := by simpa using R.len
 have hbd := R.bound
 refine aH #[.tmp 4] 24 Tryz.func82 rfl Tryz.results82 Tryz.ntmps82 rfl ?_
 have M0 := hO.mem
 refine aD (aA (fZ rfl rfl (aB (aC (aD (aA (fZ rfl rfl ?_)))))))
 have M1 := M0.dummy default
 refine aB (aC (aD (aD (aA (eK rfl rfl (wq (cR Tryz.underlying22 rfl) rfl (aV rfl rfl (aB (aC (aT (dN (σ := Nat × Row) [1, 4, 8, 9] (fun (k, q) => [(5, .slice q.A q.n q.c), (10, .int .i64 (k : Int))]) (fun (k, q) w' => (k ≤ n ∧ aW 40 10 q.A q.n q.c (((xs.take k).map (fun b => aCh b (G b).1 (G b).2)).map aF) q.e) ∧ Mem w (bQ [(some bf, bc [.bool false] 4), (some bl, bc [.slice C n cm] 97)]) [(some bf, bc [.bool ((xs.take k).any (fun b => aMc b (G b).1 (G b).2))] 4), (some bl, bc [.slice C n cm] 97), q.e] w') (fun (k, q) => n - k) (0, iG) (bK rfl (bK rfl fC)) (⟨⟨by omega, aW.nil _ _ _⟩, M1⟩) ?_)))))))))))
 rintro ⟨k, q⟩ ρ2 w2 ⟨⟨hk, hq⟩, hM2⟩
 have htl := List.length_take_le k xs
 have hqn : (xs.take k).length = q.n := by simpa using hq.1
 refine aD (aA (cS rfl rfl rfl rfl (aB (aC (aD ?_)))))
 refine aX rfl (fun h11 => ?_) (fun h11 => ?_)
 ·obtain ⟨xb, hxb⟩ := cL (xs := xs) (k := k) hlen (by omega)
  refine aL (aC (aD (aT (aD (aA (aV rfl rfl (wq (bX (k) eX rfl rfl rfl ((R.memY hM2 hdA).below_len (aJ aF hxb)) ((R.memY hM2 hdA).someK (aJ aF hxb))) rfl (wq (eB _ bL (R.memY hM2 hdA) (aJ aF hxb) rfl) rfl (aQ fQ hM2 rfl rfl (fun b3 w3 M3 => ?_))))))))))
  refine bI rfl rfl (bB 3 _ bL M3 rfl rfl rfl rfl rfl (aP rfl) rfl (fun w4 M4 => (aB (aC (aA (eK rfl rfl (wq (aG (.func _ _ _) rfl) rfl (aV rfl rfl ?_))))))))
  refine wq (aY 3 bL M4 rfl rfl rfl) rfl (bY bDn rfl rfl (aMv _ k xb (hb xb (List.mem_of_getElem? hxb)) bf bl _ C n cm (xs.map G) (RS.memY M4 hdS) (G xb) (aJ G hxb) (hG xb (List.mem_of_getElem? hxb)) (M4.ownSeg 0 2) (M4.away 0 2 RS hdS)) ?_)
  rintro v5 w5 ⟨rfl, hM5⟩
  have M5 : Mem _ _ [_, _, _, _] _ := M4.seg 0 2 hM5
  refine cY [.agg (List.toArray _)] [aF (aCh xb (G xb).1 (G xb).2)] rfl eX M5 rfl rfl rfl rfl (dG rfl) (by decide) (fun b6 w6 M6 => (eG 2 [aF (aCh xb (G xb).1 (G xb).2)] eX M6 rfl rfl rfl rfl rfl hq rfl (by simp [aF, Go.Bil.one]) (dA.ofMem 4 M6 rfl) (by omega) (fun A7 c7 e7 w7 M7 hR7 => ?_)))
  refine fZ rfl rfl (aB (cV (aC (aA (wq (bM rfl rfl (by omega) (by omega)) rfl (aV rfl rfl ?_))))))
  refine aB ?_
  refine cQ (k + 1, ⟨A7, q.n + 1, c7, e7⟩) (bK rfl (bK rfl fC)) (cU rfl (cU rfl (cU rfl (cU rfl kE)))) ?_ ?_
  ·exact ⟨⟨by omega, by rw [cT hxb, List.map_append, List.map_append]; exact hR7⟩, by rw [cT hxb, List.any_append, List.any_cons, List.any_nil, Bool.or_false]; exact M7.keep [true, true, true, false, false]⟩
  ·(show n - (k + 1) < n - k; omega)
 ·have hkn : k = n := by omega
  rw [List.take_of_length_le (by omega)] at hq
  rw [List.take_of_length_le (by omega)] at hM2
  refine cN (dB (cZ (eZ (aC (aD (aA (eK rfl rfl ?_)))))))
  refine fZ rfl rfl (aB (aC (aN (cA (.slice _ _ _) rfl ?_))))
  exact ⟨q, rfl, hq, hM2⟩
set_option maxHeartbeats 4000000 in
theorem aRm (w : World) (A : Option Addr) (n c : Nat) (xs : List Body) (R : Rd w 10 A n (xs.map aF)) (hb : ∀ b ∈ xs, Okb b) (hn : n ≤ 1048576) (G : Body → Int × Int) (hG : ∀ b ∈ xs, (-1152921504606846976 ≤ (G b).1 ∧ (G b).1 ≤ 1152921504606846976) ∧ -1152921504606846976 ≤ (G b).2 ∧ (G b).2 ≤ 1152921504606846976) (C : Option Addr) (cm : Nat) (RS : Rd w 2 C n ((xs.map G).map cE)) :
  Calls Tryz.prog 54 #[.slice A n c, .slice C n cm] w (fun ex w' => ∃ v, ex = .returned v ∧ (fun v w' => ∃ r : Row, v = .tuple #[.slice r.A r.n r.c, .bool (xs.any (fun b => aMc b (G b).1 (G b).2))] ∧ aW 40 10 r.A r.n r.c ((xs.map (fun b => aCh b (G b).1 (G b).2)).map aF) r.e ∧ Mem w [] [r.e] w') v w') := by
 refine aH #[.tmp 4, .tmp 5] 13 Tryz.func54 rfl Tryz.results54 Tryz.ntmps54 rfl ?_
 have M0 := Mem.refl w
 refine aD (aA (bJ (.slice _ _ _) M0 rfl rfl rfl (fun b1 w1 M1 => (fZ rfl rfl (wq (aI (.bool false) rfl) rfl (aB (aC (aD (aA (aQ aKq M1 rfl rfl (fun b2 w2 M2 => ?_)))))))))))
 refine dF 1 (.bool false) nG M2 rfl rfl rfl rfl rfl rfl (fun w3 M3 => (aB (aC (aD (aA ?_)))))
 have M4 : Mem _ _ [_, _] _ := Mem.swap2 M3
 refine eK rfl rfl (wq (cM [] [.pointer _, .pointer _] rfl rfl) rfl (bY aYs rfl rfl (aJq _ A n c xs (R.mem M4) hb hn b2 b1 G hG C cm (RS.mem M4) (M4.ownSeg 0 2) (M4.away 0 2 R (by simp)) (M4.away 0 2 RS (by simp))) ?_))
 rintro v5 w5 ⟨r, rfl, hr, hM5⟩
 have M5 : Mem _ _ [_, _, _] _ := M4.seg 0 2 hM5
 refine fZ rfl rfl (aB (aC (aD (bV [(0, 0), (1, 1), (2, 0), (3, 0)] mixed rfl (by kernel_rfl) (fun w6 hb6 hh6 => ?_)))))
 have M6 := M5.drew hb6 hh6
 refine DmS rfl rfl rfl (cB rfl rfl rfl (aM 0 (.bool _) nG M6 rfl rfl rfl) (aZ rfl rfl rfl (fun _ => aI (.slice _ _ _) rfl) (aZ rfl rfl rfl (fun _ => aI (.bool _) rfl) (cG (aC (aN ?_))))))
 refine gV (.slice _ _ _) (.bool _) rfl rfl ?_
 exact ⟨r, rfl, hr, M6.keep [false, false, true]⟩
set_option maxHeartbeats 4000000 in
theorem aHn (w : World) (bs : Nat) (vr lr : Row) (tt mm : Int) (cl : Bool) (A : Option Addr) (n c : Nat) (q : Row) (c2 : Bool) (hO : Own [(some bs, bc [.slice A n c, .slice vr.A vr.n vr.c, .slice lr.A lr.n lr.c, .int .i64 tt, .int .i64 mm, .bool cl] 84)] w) :
  Calls Tryz.prog 72 #[.pointer (some ⟨bs, 0, none⟩), .slice q.A q.n q.c, .bool c2] w (fun ex w' => ∃ v, ex = .returned v ∧ (fun v w' => v = .tuple #[] ∧ Mem w (bQ [(some bs, bc [.slice A n c, .slice vr.A vr.n vr.c, .slice lr.A lr.n lr.c, .int .i64 tt, .int .i64 mm, .bool cl] 84)]) [(some bs, bc [.slice A n c, .slice q.A q.n q.c, .slice lr.A lr.n lr.c, .int .i64 tt, .int .i64 mm, .bool (cl || c2)] 84)] w') v w') := by
 refine aH #[] 22 Tryz.func72 rfl Tryz.results72 Tryz.ntmps72 rfl ?_
 have M0 := hO.mem
 refine aD (aA (wq (aG (.pointer _) rfl) rfl (eK rfl rfl (wq (aK rfl) rfl (wq (aE 1 vQ rfl) rfl (dF 0 (.slice _ _ _) eV M0 rfl rfl rfl rfl rfl rfl (fun w1 M1 => ?_)))))))
 refine aB (aC (aA (wq (aG (.pointer _) rfl) rfl (wq (aG (.pointer _) rfl) rfl (wq (aK rfl) rfl (wq (aE 3 pK rfl) rfl (wq (aE 2 rR rfl) rfl ?_)))))))
 refine wq (aM 0 (.bool _) nG M1 rfl rfl rfl) rfl (wq (aG (.bool _) rfl) rfl ?_)
 refine mH 16 _ rfl (fun g16 => ?_) (fun g16 => ?_)
 ·refine aR rfl rfl (wq (bN true (.bool true) rfl rfl) rfl (wq (aK rfl) rfl (wq (aE 3 pK rfl) rfl (wq (aE 2 rR rfl) rfl (dF 0 (.bool true) nG M1 rfl rfl rfl rfl rfl rfl (fun w2 M2 => ?_))))))
  refine aB (iI ?_)
  first | exact ⟨rfl, by rw [(by simp only [g16, Bool.true_or] : (cl || c2) = true)]; exact M2⟩ | exact ⟨rfl, by rw [(by simp only [g16, Bool.false_or] : (cl || c2) = c2)]; exact M2⟩
 ·refine wq (aG (.bool _) rfl) rfl (wq (bN false (.bool _) rfl rfl) rfl (wq (aK rfl) rfl (wq (aE 3 pK rfl) rfl (wq (aE 2 rR rfl) rfl (dF 0 (.bool _) nG M1 rfl rfl rfl rfl rfl rfl (fun w3 M3 => ?_))))))
  refine aB (iI ?_)
  first | exact ⟨rfl, by rw [(by simp only [g16, Bool.true_or] : (cl || c2) = true)]; exact M3⟩ | exact ⟨rfl, by rw [(by simp only [g16, Bool.false_or] : (cl || c2) = c2)]; exact M3⟩
set_option maxHeartbeats 4000000 in
theorem aVk (w : World) (F : Rd w 2 (some ⟨0, 0, none⟩) 1 [[.int .u32 73856093, .int .u32 19349663]]) (N : Rd w 4 (some ⟨3, 0, none⟩) 1 [dD iS]) (bs : Nat) (vr lr : Row) (tt mm : Int) (cl : Bool) (A : Option Addr) (n c : Nat) (xs : List Body) (R : Rd w 10 A n (xs.map aF)) (hb : ∀ b ∈ xs, Okb b) (hs : bS xs) (hn : n ≤ 4096) (hO : Own [(some bs, bc [.slice A n c, .slice vr.A vr.n vr.c, .slice lr.A lr.n lr.c, .int .i64 tt, .int .i64 mm, .bool cl] 84)] w) (hdA : 0 < n → ∀ q off, A = some ⟨q, off, none⟩ → q ∉ bQ [(some bs, bc [.slice A n c, .slice vr.A vr.n vr.c, .slice lr.A lr.n lr.c, .int .i64 tt, .int .i64 mm, .bool cl] 84)]) (hdF : 0 < 1 → ∀ q off, (some ⟨0, 0, none⟩ : Option Addr) = some ⟨q, off, none⟩ → q ∉ bQ [(some bs, bc [.slice A n c, .slice vr.A vr.n vr.c, .slice lr.A lr.n lr.c, .int .i64 tt, .int .i64 mm, .bool cl] 84)]) (hdN : 0 < 1 → ∀ q off, (some ⟨3, 0, none⟩ : Option Addr) = some ⟨q, off, none⟩ → q ∉ bQ [(some bs, bc [.slice A n c, .slice vr.A vr.n vr.c, .slice lr.A lr.n lr.c, .int .i64 tt, .int .i64 mm, .bool cl] 84)]) :
  Calls Tryz.prog 40 #[.pointer (some ⟨bs, 0, none⟩)] w (fun ex w' => ∃ v, ex = .returned v ∧ (fun v w' => v = .tuple #[] ∧ ∃ (r : Row) (m : Nat), (kP xs).length ≤ m ∧ 2 * m ≤ xs.length * (xs.length - 1) ∧ aW 121 5 r.A r.n r.c ((lY xs).map cF) r.e ∧ Mem w (bQ [(some bs, bc [.slice A n c, .slice vr.A vr.n vr.c, .slice lr.A lr.n lr.c, .int .i64 tt, .int .i64 mm, .bool cl] 84)]) [(some bs, bc [.slice A n c, .slice vr.A vr.n vr.c, .slice r.A r.n r.c, .int .i64 (m : Int), .int .i64 (r.n : Int), .bool cl] 84), r.e] w') v w') := by
 refine aH #[] 26 Tryz.func40 rfl Tryz.results40 Tryz.ntmps40 rfl ?_
 have M0 := hO.mem
 refine aD (aA (wq (aG (.pointer _) rfl) rfl (wq (aG (.pointer _) rfl) rfl (wq (aG (.pointer _) rfl) rfl (wq (aK rfl) rfl (wq (aE 0 aBo rfl) rfl ?_))))))
 refine wq (aM 0 (.slice _ _ _) eV M0 rfl rfl rfl) rfl (bY bDt rfl rfl (aDh _ (F.memY M0 hdF) (N.memY M0 hdN) A n c xs (R.memY M0 hdA) hb hs hn) ?_)
 rintro v1 w1 ⟨r, m, rfl, hm1, hm2, hr, hM1⟩
 have M1 : Mem _ _ [_, _] _ := M0.call0 hM1
 refine wq (aG (.tuple (List.toArray _)) rfl) rfl (wq (bE (.slice _ _ _) rfl rfl) rfl (wq (bE (.int _ _) rfl rfl) rfl (wq (aK rfl) rfl (wq (aE 2 vH rfl) rfl (dF 0 (.slice _ _ _) nU M1 rfl rfl rfl rfl rfl rfl (fun w2 M2 => ?_))))))
 refine wq (aK rfl) rfl (wq (aE 3 pK rfl) rfl (wq (aE 0 aUm rfl) rfl (dF 0 (.int _ _) mA M2 rfl rfl rfl rfl rfl rfl (fun w3 M3 => (aB (aC (aA (wq (aG (.pointer _) rfl) rfl ?_))))))))
 refine wq (aG (.pointer _) rfl) rfl (wq (aK rfl) rfl (wq (aE 2 vH rfl) rfl (wq (aM 0 (.slice _ _ _) nU M3 rfl rfl rfl) rfl (wq (cR Tryz.underlying82 rfl) rfl (wq (aK rfl) rfl ?_)))))
 refine wq (aE 3 pK rfl) rfl (wq (aE 1 aCq rfl) rfl (dF 0 (.int _ _) mA M3 rfl rfl rfl rfl rfl rfl (fun w4 M4 => (aB (iI ?_)))))
 exact ⟨rfl, r, m, hm1, hm2, hr, M4⟩
set_option maxHeartbeats 4000000 in
theorem aVp (w : World) (bs : Nat) (vr lr : Row) (tt mm : Int) (cl : Bool) (A : Option Addr) (n c : Nat) (xs : List Body) (R : Rd w 10 A n (xs.map aF)) (hb : ∀ b ∈ xs, Okb b) (hn : n ≤ 1048576) (hO : Own [(some bs, bc [.slice A n c, .slice vr.A vr.n vr.c, .slice lr.A lr.n lr.c, .int .i64 tt, .int .i64 mm, .bool cl] 84)] w) (hdA : 0 < n → ∀ q off, A = some ⟨q, off, none⟩ → q ∉ bQ [(some bs, bc [.slice A n c, .slice vr.A vr.n vr.c, .slice lr.A lr.n lr.c, .int .i64 tt, .int .i64 mm, .bool cl] 84)]) :
  Calls Tryz.prog 41 #[.pointer (some ⟨bs, 0, none⟩)] w (fun ex w' => ∃ v, ex = .returned v ∧ (fun v w' => v = .tuple #[] ∧ ∃ r : Row, aW 40 10 r.A r.n r.c ((qD xs).map aF) r.e ∧ Mem w (bQ [(some bs, bc [.slice A n c, .slice vr.A vr.n vr.c, .slice lr.A lr.n lr.c, .int .i64 tt, .int .i64 mm, .bool cl] 84)]) [(some bs, bc [.slice A n c, .slice r.A r.n r.c, .slice lr.A lr.n lr.c, .int .i64 tt, .int .i64 mm, .bool (cl || xs.any oP)] 84), r.e] w') v w') := by
 refine aH #[] 11 Tryz.func41 rfl Tryz.results41 Tryz.ntmps41 rfl ?_
 have M0 := hO.mem
 refine aA (wq (aG (.pointer _) rfl) rfl (wq (aG (.pointer _) rfl) rfl (wq (aK rfl) rfl (wq (aE 0 aBo rfl) rfl (wq (aM 0 (.slice _ _ _) eV M0 rfl rfl rfl) rfl ?_)))))
 refine bY bEc rfl rfl (aEj _ A n c xs (R.memY M0 hdA) hb hn) ?_
 rintro v1 w1 ⟨r, rfl, hr, hM1⟩
 have M1 : Mem _ _ [_, _] _ := M0.call0 hM1
 refine wq (bE (.slice _ _ _) rfl rfl) rfl (wq (bE (.bool _) rfl rfl) rfl (bY aPq rfl rfl (aHn _ bs vr lr tt mm cl A n c r _ (M1.ownSeg 0 1)) ?_))
 rintro v2 w2 ⟨rfl, hM2⟩
 have M2 : Mem _ _ [_, _] _ := M1.seg 0 1 hM2
 refine aB (iI ?_)
 exact ⟨rfl, r, hr, M2⟩
set_option maxHeartbeats 4000000 in
theorem aSw (w : World) (bs : Nat) (vr lr : Row) (tt mm : Int) (cl : Bool) (A : Option Addr) (n c : Nat) (ys : List Body) (cs : List Con) (RV : Rd w 10 vr.A vr.n (ys.map aF)) (RL : Rd w 5 lr.A lr.n (cs.map cF)) (hs : bS ys) (hb : ∀ b ∈ ys, Okb b) (hn : vr.n ≤ 1048576) (hcs : ∀ c ∈ cs, OkC ys c) (hmc : lr.n ≤ 8589934592) (hO : Own [(some bs, bc [.slice A n c, .slice vr.A vr.n vr.c, .slice lr.A lr.n lr.c, .int .i64 tt, .int .i64 mm, .bool cl] 84)] w) (hdV : 0 < vr.n → ∀ q off, vr.A = some ⟨q, off, none⟩ → q ∉ bQ [(some bs, bc [.slice A n c, .slice vr.A vr.n vr.c, .slice lr.A lr.n lr.c, .int .i64 tt, .int .i64 mm, .bool cl] 84)]) (hdL : 0 < lr.n → ∀ q off, lr.A = some ⟨q, off, none⟩ → q ∉ bQ [(some bs, bc [.slice A n c, .slice vr.A vr.n vr.c, .slice lr.A lr.n lr.c, .int .i64 tt, .int .i64 mm, .bool cl] 84)]) :
  Calls Tryz.prog 42 #[.pointer (some ⟨bs, 0, none⟩)] w (fun ex w' => ∃ v, ex = .returned v ∧ (fun v w' => v = .tuple #[] ∧ ∃ r : Row, aW 40 10 r.A r.n r.c (((gM ys cs 4).1).map aF) r.e ∧ Mem w (bQ [(some bs, bc [.slice A n c, .slice vr.A vr.n vr.c, .slice lr.A lr.n lr.c, .int .i64 tt, .int .i64 mm, .bool cl] 84)]) [(some bs, bc [.slice A n c, .slice r.A r.n r.c, .slice lr.A lr.n lr.c, .int .i64 tt, .int .i64 mm, .bool (cl || (gM ys cs 4).2)] 84), r.e] w') v w') := by
 refine aH #[] 15 Tryz.func42 rfl Tryz.results42 Tryz.ntmps42 rfl ?_
 have M0 := hO.mem
 refine bV [(0, 0), (1, 0), (2, 0), (3, 0), (4, 1), (5, 0), (6, 0), (7, 0), (8, 1), (9, 2), (10, 0), (11, 0), (12, 2)] mixed rfl (by kernel_rfl) (fun w1 hb1 hh1 => ?_)
 have M1 := M0.drew hb1 hh1
 refine aZ rfl rfl rfl (fun _ => aG (.pointer _) rfl) (aZ rfl rfl rfl (fun _ => aG (.pointer _) rfl) (aZ rfl rfl rfl (fun _ => aK rfl) (aZ rfl rfl rfl (fun _ => aE 1 vQ rfl) (cB rfl rfl rfl (aM 0 (.slice _ _ _) eV M1 rfl rfl rfl) (aZ rfl rfl rfl (fun _ => aG (.pointer _) rfl) ?_)))))
 refine aZ rfl rfl rfl (fun _ => aK rfl) (aZ rfl rfl rfl (fun _ => aE 2 vH rfl) (cB rfl rfl rfl (aM 0 (.slice _ _ _) nU M1 rfl rfl rfl) (dR [true, true] rfl (by kernel_rfl) (bY bDr rfl rfl (aLz _ vr.A vr.n vr.c ys (RV.memY M1 hdV) hs hb hn lr.A lr.n lr.c cs (RL.memY M1 hdL) hcs hmc) ?_))))
 rintro v2 w2 ⟨r, rfl, hr, hM2⟩
 have M2 : Mem _ _ [_, _] _ := M1.call0 hM2
 refine aB (aC ⟨dS, ?_⟩)
 refine aZ rfl rfl rfl (fun _ => bE (.slice _ _ _) rfl rfl) (aZ rfl rfl rfl (fun _ => bE (.bool _) rfl rfl) (dR [] rfl (by kernel_rfl) (bY aPq rfl rfl (aHn _ bs vr lr tt mm cl A n c r _ (M2.ownSeg 0 1)) ?_)))
 rintro v3 w3 ⟨rfl, hM3⟩
 have M3 : Mem _ _ [_, _] _ := M2.seg 0 1 hM3
 refine aB (aC ⟨dS, ?_⟩)
 refine cG (iI ?_)
 exact ⟨rfl, r, hr, M3⟩
set_option maxHeartbeats 4000000 in
theorem aVi (w : World) (bs : Nat) (vr lr : Row) (tt mm : Int) (cl : Bool) (A : Option Addr) (n c : Nat) (xs : List Body) (R : Rd w 10 A n (xs.map aF)) (ys : List Body) (cs : List Con) (RV : Rd w 10 vr.A vr.n (ys.map aF)) (RL : Rd w 5 lr.A lr.n (cs.map cF)) (hs : bS xs) (hb : ∀ b ∈ xs, Okb b) (hb2 : ∀ b ∈ ys, Okb b) (hn : n ≤ 1048576) (hvn : vr.n = n) (hcs : ∀ c ∈ cs, OkC xs c) (hmc : lr.n ≤ 1073741824) (hsh : xs.map (iJ xs cs) = ys.map (iJ xs cs)) (hG : ∀ b ∈ ys, (-1152921504606846976 ≤ (iJ xs cs b).1 ∧ (iJ xs cs b).1 ≤ 1152921504606846976) ∧ -1152921504606846976 ≤ (iJ xs cs b).2 ∧ (iJ xs cs b).2 ≤ 1152921504606846976) (hO : Own [(some bs, bc [.slice A n c, .slice vr.A vr.n vr.c, .slice lr.A lr.n lr.c, .int .i64 tt, .int .i64 mm, .bool cl] 84)] w) (hdA : 0 < n → ∀ q off, A = some ⟨q, off, none⟩ → q ∉ bQ [(some bs, bc [.slice A n c, .slice vr.A vr.n vr.c, .slice lr.A lr.n lr.c, .int .i64 tt, .int .i64 mm, .bool cl] 84)]) (hdV : 0 < vr.n → ∀ q off, vr.A = some ⟨q, off, none⟩ → q ∉ bQ [(some bs, bc [.slice A n c, .slice vr.A vr.n vr.c, .slice lr.A lr.n lr.c, .int .i64 tt, .int .i64 mm, .bool cl] 84)]) (hdL : 0 < lr.n → ∀ q off, lr.A = some ⟨q, off, none⟩ → q ∉ bQ [(some bs, bc [.slice A n c, .slice vr.A vr.n vr.c, .slice lr.A lr.n lr.c, .int .i64 tt, .int .i64 mm, .bool cl] 84)]) :
  Calls Tryz.prog 43 #[.pointer (some ⟨bs, 0, none⟩)] w (fun ex w' => ∃ v, ex = .returned v ∧ (fun v w' => v = .tuple #[] ∧ ∃ r : Row, aW 40 10 r.A r.n r.c ((aJz xs cs ys).map aF) r.e ∧ Mem w (bQ [(some bs, bc [.slice A n c, .slice vr.A vr.n vr.c, .slice lr.A lr.n lr.c, .int .i64 tt, .int .i64 mm, .bool cl] 84)]) [(some bs, bc [.slice A n c, .slice r.A r.n r.c, .slice lr.A lr.n lr.c, .int .i64 tt, .int .i64 mm, .bool (cl || aRe xs cs ys)] 84), r.e] w') v w') := by
 have hlen : xs.length = n := by simpa using R.len
 refine aH #[] 20 Tryz.func43 rfl Tryz.results43 Tryz.ntmps43 rfl ?_
 have M0 := hO.mem
 refine bV [(0, 0), (1, 0), (2, 0), (3, 0), (4, 1), (5, 0), (6, 0), (7, 0), (8, 1), (9, 0), (10, 0), (11, 0), (12, 1), (13, 2), (14, 2), (15, 0), (16, 0), (17, 2)] mixed rfl (by kernel_rfl) (fun w1 hb1 hh1 => ?_)
 have M1 := M0.drew hb1 hh1
 refine aZ rfl rfl rfl (fun _ => aG (.pointer _) rfl) (aZ rfl rfl rfl (fun _ => aG (.pointer _) rfl) (aZ rfl rfl rfl (fun _ => aK rfl) (aZ rfl rfl rfl (fun _ => aE 1 vQ rfl) (cB rfl rfl rfl (aM 0 (.slice _ _ _) eV M1 rfl rfl rfl) (aZ rfl rfl rfl (fun _ => aG (.pointer _) rfl) ?_)))))
 refine aZ rfl rfl rfl (fun _ => aK rfl) (aZ rfl rfl rfl (fun _ => aE 0 aBo rfl) (cB rfl rfl rfl (aM 0 (.slice _ _ _) eV M1 rfl rfl rfl) (aZ rfl rfl rfl (fun _ => aG (.pointer _) rfl) (aZ rfl rfl rfl (fun _ => aK rfl) (aZ rfl rfl rfl (fun _ => aE 2 vH rfl) ?_)))))
 refine cB rfl rfl rfl (aM 0 (.slice _ _ _) nU M1 rfl rfl rfl) (dR [true, true, false] rfl (by kernel_rfl) (bY bEd rfl rfl (aGx _ A n c xs (R.memY M1 hdA) hs hb hn lr.A lr.n lr.c cs (RL.memY M1 hdL) hcs hmc) ?_))
 rintro v2 w2 ⟨⟨qA, qn, qc, qe⟩, rfl, hq, hM2⟩
 have hqn : xs.length = qn := by simpa using hq.1
 obtain rfl : qn = vr.n := by omega
 rw [hsh] at hq
 have M2 : Mem _ _ [_, _] _ := M1.call0 hM2
 refine aB (aC ⟨(eQ (bP rfl (aM 0 (.slice _ _ _) eV M2 rfl rfl rfl)) dS), ?_⟩)
 refine dR [true] rfl (by kernel_rfl) (bY bEp rfl rfl (aRm _ vr.A vr.n vr.c ys (RV.memY M2 hdV) hb2 (by omega) (iJ xs cs) hG qA qc (hq.rd M2 (bC (i := 1) rfl))) ?_)
 rintro v3 w3 ⟨r, rfl, hr, hM3⟩
 have M3 : Mem _ _ [_, _, _] _ := M2.call0 hM3
 refine aB (aC ⟨dS, ?_⟩)
 refine aZ rfl rfl rfl (fun _ => bE (.slice _ _ _) rfl rfl) (aZ rfl rfl rfl (fun _ => bE (.bool _) rfl rfl) (dR [] rfl (by kernel_rfl) (bY aPq rfl rfl (aHn _ bs vr lr tt mm cl A n c r _ (M3.ownSeg 0 1)) ?_)))
 rintro v4 w4 ⟨rfl, hM4⟩
 have M4 : Mem _ _ [_, _, _] _ := M3.seg 0 1 hM4
 refine aB (aC ⟨dS, ?_⟩)
 refine cG (iI ?_)
 exact ⟨rfl, r, hr, M4.keep [true, false, true]⟩
theorem aOs {xs : List Body} {cs : List Con} {b b' : Body} (h : SameB b b') : iJ xs cs b = iJ xs cs b' := by
 unfold iJ qW wS
 rw [h.key, h.mass]
theorem aFq {xs ys zs : List Body} {cs : List Con} (h : Like ys zs) : ys.map (iJ xs cs) = zs.map (iJ xs cs) := by
 apply List.ext_getElem?
 intro i
 rw [List.getElem?_map, List.getElem?_map]
 by_cases hi : i < ys.length
 ·have h1 : ys[i]? = some ys[i] := List.getElem?_eq_getElem hi
  have h2 : zs[i]? = some (zs[i]'(by rw [h.len]; exact hi)) := List.getElem?_eq_getElem _
  rw [h1, h2]
  exact congrArg some (aOs (h.at_ i _ _ h1 h2)).symm
 ·have hl := h.len
  rw [List.getElem?_eq_none (show ys.length ≤ i by omega), List.getElem?_eq_none (show zs.length ≤ i by omega)]
theorem aXh {xs : List Body} {cs : List Con} (hs : bS xs) (hb : ∀ b ∈ xs, Okb b) (hcs : ∀ c ∈ cs, OkC xs c) (hl : cs.length ≤ 1073741824) {zs : List Body} (h : Like xs zs) : ∀ b ∈ zs, (-1152921504606846976 ≤ (iJ xs cs b).1 ∧ (iJ xs cs b).1 ≤ 1152921504606846976) ∧ -1152921504606846976 ≤ (iJ xs cs b).2 ∧ (iJ xs cs b).2 ≤ 1152921504606846976 := fun b hbm => by
 have hm : iJ xs cs b ∈ zs.map (iJ xs cs) := List.mem_map_of_mem hbm
 rw [← aFq h] at hm
 obtain ⟨x, hx, e⟩ := List.mem_map.1 hm
 rw [← e]
 have := aCi hs hb hcs rfl hl cs.length hx
 rwa [List.take_of_length_le (Nat.le_refl _)] at this
set_option maxHeartbeats 16000000 in
theorem aOe (w : World) (F : Rd w 2 (some ⟨0, 0, none⟩) 1 [[.int .u32 73856093, .int .u32 19349663]]) (N : Rd w 4 (some ⟨3, 0, none⟩) 1 [dD iS]) (A : Option Addr) (n c : Nat) (xs : List Body) (R : Rd w 10 A n (xs.map aF)) (hb : ∀ b ∈ xs, Okb b) (hs : bS xs) (hn : n ≤ 4096) :
  Calls Tryz.prog 16 #[.slice A n c] w (fun ex w' => ∃ v, ex = .returned v ∧ (fun v w' => ∃ (r : Row) (t : Nat), v = .tuple #[.slice r.A r.n r.c, .agg [.int .i64 (t : Int), .int .i64 ((lY xs).length : Int), .bool (tU xs)].toArray] ∧ (lY xs).length ≤ t ∧ 2 * t ≤ xs.length * (xs.length - 1) ∧ aW 40 10 r.A r.n r.c ((pU xs).map aF) r.e ∧ Mem w [] [r.e] w') v w') := by
 have hlen : xs.length = n := by simpa using R.len
 have hnn : xs.length * xs.length ≤ 4096 * 4096 := Nat.mul_le_mul (by omega) (by omega)
 have hcl := aFi xs
 have hsq := aXc (xs := xs)
 refine aH #[.tmp 2, .cell 3 27] 26 Tryz.func16 rfl Tryz.results16 Tryz.ntmps16 rfl ?_
 have M0 := Mem.refl w
 refine aD (aA (fZ rfl rfl (aQ wY M0 rfl rfl (fun b1 w1 M1 => (aB (aC (aD (aA (eK rfl rfl (wq (cI [(0, .slice _ _ _)] _ aOz rfl rfl) rfl ?_))))))))))
 refine bJ (.agg (List.toArray _)) M1 rfl rfl rfl (fun b2 w2 M2 => (wq (aI (.pointer _) rfl) rfl (aB (aC (aD (aD (aA (wq (nZ [.func _ _ _, .func _ _ _, .func _ _ _, .func _ _ _] aEx aZh rfl rfl (dG rfl)) rfl (aV rfl rfl (aB (aC (aT ?_))))))))))))
 refine kX 5 (gL (aD (aA (cS rfl rfl rfl rfl (lQ 12 rfl (by first | decide | omega) (aB (aC (aD (cO rfl ?_)))))))))
 refine aL (aC (aD (aT (aD (aA (wq (tF 0 (.func _ _ _) aEx aLa rfl rfl (by decide) (by decide) rfl rfl) rfl (wq (aI (.func _ _ _) rfl) rfl (aB (aC (aA (wq (aG (.func _ _ _) rfl) rfl (wq (aG (.pointer _) rfl) rfl ?_))))))))))))
 refine bY bDy rfl rfl (aVk _ (F.mem M2) (N.mem M2) b2 iG iG 0 0 false A n c xs (R.mem M2) hb hs hn (M2.ownSeg 1 1) (M2.away 1 1 R (by simp)) (M2.away 1 1 F (by simp)) (M2.away 1 1 N (by simp))) ?_
 rintro v3 w3 ⟨rfl, r, tm, ht1, ht2, hr, hM3⟩
 have M3 : Mem _ _ [_, _, _] _ := M2.seg 1 1 hM3
 have hrn : (lY xs).length = r.n := by simpa using hr.1
 refine aB (cV (aC (aA (wq (bM rfl rfl (by first | decide | omega) (by first | decide | omega)) rfl (aS 17 (.int .i64 1) (iE (by first | decide | omega)) (aV rfl rfl ?_))))))
 refine aB (aC (gL (aD (aA (cS rfl rfl rfl rfl (lQ 12 rfl (by first | decide | omega) (aB (aC (aD ?_)))))))))
 refine cO rfl (aL (aC (aD (aT (aD (aA (wq (tF 1 (.func _ _ _) aEx aLa rfl rfl (by decide) (by decide) rfl rfl) rfl (wq (aI (.func _ _ _) rfl) rfl (aB (aC (aA (wq (aG (.func _ _ _) rfl) rfl ?_))))))))))))
 refine wq (aG (.pointer _) rfl) rfl (bY bDg rfl rfl (aVp _ b2 iG r (tm : Int) (r.n : Int) false A n c xs (R.mem M3) hb (by omega) (M3.ownSeg 1 1) (M3.away 1 1 R (by simp))) ?_)
 rintro v4 w4 ⟨rfl, g, hg, hM4⟩
 have M4 : Mem _ _ [_, _, _, _] _ := M3.seg 1 1 hM4
 have hgn : (qD xs).length = g.n := by simpa using hg.1
 have hgl := (mC xs).len
 refine aB (cV (aC (aA (wq (bM rfl rfl (by first | decide | omega) (by first | decide | omega)) rfl (aS 17 (.int .i64 2) (iE (by first | decide | omega)) (aV rfl rfl ?_))))))
 refine aB (aC (gL (aD (aA (cS rfl rfl rfl rfl (lQ 12 rfl (by first | decide | omega) (aB (aC (aD ?_)))))))))
 refine cO rfl (aL (aC (aD (aT (aD (aA (wq (tF 2 (.func _ _ _) aEx aLa rfl rfl (by decide) (by decide) rfl rfl) rfl (wq (aI (.func _ _ _) rfl) rfl (aB (aC (aA (wq (aG (.func _ _ _) rfl) rfl ?_))))))))))))
 refine wq (aG (.pointer _) rfl) rfl (bY bEh rfl rfl (aSw _ b2 g r (tm : Int) (r.n : Int) _ A n c (qD xs) (lY xs) (hg.rd M4 (bC (i := 3) rfl)) (hr.rd M4 (bC (i := 2) rfl)) ((mC xs).sorted hs) (aCs hb) (by omega) (fun c h => (mC xs).okc (wP hs hb c h)) (by omega) (M4.ownSeg 1 1) (hg.awayB M4 3 1 rfl rfl rfl) (hr.awayB M4 2 1 rfl rfl rfl)) ?_)
 rintro v5 w5 ⟨rfl, s, hsv, hM5⟩
 have M5 : Mem _ _ [_, _, _, _, _] _ := M4.seg 1 1 hM5
 have hsn : (lM xs).length = s.n := by have h := hsv.1; rwa [List.length_map] at h
 have hlk : Like xs (lM xs) := (mC xs).trans (jH _ _ 4)
 have hsl := hlk.len
 refine aB (cV (aC (aA (wq (bM rfl rfl (by first | decide | omega) (by first | decide | omega)) rfl (aS 17 (.int .i64 3) (iE (by first | decide | omega)) (aV rfl rfl ?_))))))
 refine aB (aC (gL (aD (aA (cS rfl rfl rfl rfl (lQ 12 rfl (by first | decide | omega) (aB (aC (aD ?_)))))))))
 refine cO rfl (aL (aC (aD (aT (aD (aA (wq (tF 3 (.func _ _ _) aEx aLa rfl rfl (by decide) (by decide) rfl rfl) rfl (wq (aI (.func _ _ _) rfl) rfl (aB (aC (aA (wq (aG (.func _ _ _) rfl) rfl ?_))))))))))))
 refine wq (aG (.pointer _) rfl) rfl (bY bEt rfl rfl (aVi _ b2 s r (tm : Int) (r.n : Int) _ A n c xs (R.mem M5) (lM xs) (lY xs) (hsv.rd M5 (bC (i := 4) rfl)) (hr.rd M5 (bC (i := 2) rfl)) hs hb (qZ (aCs hb) 4) (by omega) (by omega) (wP hs hb) (by omega) (aFq hlk) (aXh hs hb (wP hs hb) (by omega) hlk) (M5.ownSeg 1 1) (M5.away 1 1 R (by simp)) (hsv.awayB M5 4 1 rfl rfl rfl) (hr.awayB M5 2 1 rfl rfl rfl)) ?_)
 rintro v6 w6 ⟨rfl, m, hm, hM6⟩
 have M6 : Mem _ _ [_, _, _, _, _, _] _ := M5.seg 1 1 hM6
 refine aB (cV (aC (aA (wq (bM rfl rfl (by first | decide | omega) (by first | decide | omega)) rfl (aS 17 (.int .i64 4) (iE (by first | decide | omega)) (aV rfl rfl ?_))))))
 refine aB (aC (gL (aD (aA (cS rfl rfl rfl rfl (uH 12 rfl (by first | decide | omega) (aB (aC (aD ?_)))))))))
 refine cC rfl (cN (dB (dB (eZ (aC (aD (bV [(0, 0), (1, 0), (2, 0), (3, 1), (4, 0), (5, 0), (6, 0), (7, 1), (8, 0), (9, 2)] mixed rfl (by kernel_rfl) (fun w7 hb7 hh7 => ?_))))))))
 have M7 := M6.drew hb7 hh7
 refine aZ rfl rfl rfl (fun _ => aG (.pointer _) rfl) (aZ rfl rfl rfl (fun _ => aK rfl) (aZ rfl rfl rfl (fun _ => aE 1 vQ rfl) (cB rfl rfl rfl (aM 1 (.slice _ _ _) eV M7 rfl rfl rfl) (aZ rfl rfl rfl (fun _ => aG (.pointer _) rfl) (aZ rfl rfl rfl (fun _ => aK rfl) ?_)))))
 refine aZ rfl rfl rfl (fun _ => aE 3 pK rfl) (cB rfl rfl rfl (oB 1 _ sE M7 rfl rfl rfl rfl) (aZ rfl rfl rfl (fun _ => aI (.slice _ _ _) rfl) (dR [true, true] rfl (by kernel_rfl) (bB 0 _ sE M7 rfl rfl rfl rfl rfl (aP rfl) rfl (fun w8 M8 => ?_)))))
 refine aB (aC ⟨dS, ?_⟩)
 refine cG (aC (aN (bDx (.slice _ _ _) 0 sE M8 rfl rfl rfl rfl ?_)))
 exact ⟨m, tm, yW rfl (by rw [hrn]; show Value.agg _ = _; rw [show tU xs = (((false || xs.any oP) || (gM (qD xs) (lY xs) 4).2) || aRe xs (lY xs) (lM xs)) by unfold tU; rw [Bool.false_or]]; rfl), by omega, ht2, hm, M8.keep [false, false, false, false, false, true]⟩
end Go.Proofs.YtlmcphcgiclanaaGreatDoor
