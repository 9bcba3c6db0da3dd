/- Part of the proof of the laws of this seat: S20i, S20j, S20k, S20l, S20m, S20n, R20a, R20b, R20c, R20d, R20e, R20f, Aw20. No conditions. -/
import Derived.Test.YtlmcphcgiclanaaGreatDoorK2
import Derived.Test.YtlmcphcgiclanaaGreatDoorK5
import Derived.Test.YtlmcphcgiclanaaGreatDoorK27
import Derived.Test.YtlmcphcgiclanaaGreatDoorK31
import Derived.Test.YtlmcphcgiclanaaGreatDoorK30
import Derived.Test.YtlmcphcgiclanaaGreatDoorK28
set_option linter.unusedVariables false
set_option linter.unusedSimpArgs false
set_option linter.unnecessarySimpa false
namespace Go.Proofs.YtlmcphcgiclanaaGreatDoor
open Go.Bil
open Go.RowKit (Below)
open Go.Proofs
set_option maxHeartbeats 4000000 in
theorem mU (w : World) (a l : Int) (hl : 0 ≤ l ∧ l ≤ 2147483647) (bf : Nat) (fl : Bool) (F : Option Addr) (cf : Nat) (RF : Rd w 1 F 1 [[.pointer (some ⟨bf, 0, none⟩)]]) (hdF : 0 < 1 → ∀ q off, F = some ⟨q, off, none⟩ → q ∉ cY [(some bf, bc [.bool fl] 4)]) (hO : Own [(some bf, bc [.bool fl] 4)] w) :
  Calls Tryz.prog 85 #[.int .i64 a, .int .i64 l, .slice F 1 cf] w (fun ex w' => ∃ v, ex = .returned v ∧ (fun v w' => v = .int .i32 (iI a l) ∧ Mem w (cY [(some bf, bc [.bool fl] 4)]) [(some bf, bc [.bool (fl || decide (iI a l ≠ a))] 4)] w') v w') := by
 have hr := eJ a hl.1
 refine aI #[.tmp 6] 34 Tryz.func85 rfl Tryz.results85 Tryz.ntmps85 rfl ?_
 have M0 := hO.mem
 refine aE (aA (bC rfl rfl (aB (aC (aE (aA (aO rfl rfl (aO rfl rfl (bZ aNc rfl rfl (aDj _ a l (by omega)) ?_)))))))))
 rintro v1 w1 ⟨rfl, hb1⟩
 have M1 := M0.callB hb1
 refine wq (aH (.tuple (List.toArray _)) rfl) rfl (wq (bO (.int _ _) rfl rfl) rfl (wq (bO (.bool (decide _)) rfl rfl) rfl (bC rfl rfl (wq (aJ (.bool (decide _)) rfl) rfl (aB (aC (aE (aE (aA ?_)))))))))
 refine dN rfl rfl (wq (dB Tryz.underlying175 rfl) rfl (aK 18 (.int .i64 1) (iE rfl) (aO rfl rfl (aB (aC (aQ (iL 2 (fG ?_))))))))
 refine aE (aA (cX rfl rfl rfl rfl (jB 20 rfl (by first | decide | omega) (aB (aC (aE (cC rfl (aL (aC (aE (aQ (aE (aA ?_)))))))))))))
 refine wq (bN (0) aFv rfl rfl rfl ((RF.memY M1 hdF).below_len ((show ([[.pointer (some ⟨bf, 0, none⟩)]] : List (List Value))[0]? = some [.pointer (some ⟨bf, 0, none⟩)] from rfl))) ((RF.memY M1 hdF).someK ((show ([[.pointer (some ⟨bf, 0, none⟩)]] : List (List Value))[0]? = some [.pointer (some ⟨bf, 0, none⟩)] from rfl)))) rfl ?_
 refine wq (iS (.pointer _) bHa (RF.memY M1 hdF) ((show ([[.pointer (some ⟨bf, 0, none⟩)]] : List (List Value))[0]? = some [.pointer (some ⟨bf, 0, none⟩)] from rfl)) rfl) rfl (wq (aJ (.pointer _) rfl) rfl (aB (aC (aA (wq (aH (.pointer _) rfl) rfl (wq (aH (.pointer _) rfl) rfl ?_))))))
 refine wq (bB rfl) rfl (wq (aM 0 (.bool _) oL M1 rfl rfl rfl) rfl (wq (aH (.bool _) rfl) rfl ?_))
 refine jI 27 _ rfl (fun g27 => ?_) (fun g27 => ?_)
 ·refine aN rfl rfl (wq (bM true (.bool true) rfl rfl) rfl (wq (bB rfl) rfl (cZ 0 (.bool true) oL M1 rfl rfl rfl rfl rfl rfl (fun w2 M2 => (aB (cO ?_))))))
  refine aC (aA (wq (aY rfl rfl (by first | decide | omega) (by first | decide | omega)) rfl (aK 31 (.int .i64 1) (iE (by first | decide | omega)) (aO rfl rfl (aB (aC (fG ?_)))))))
  refine aE (aA (cX rfl rfl rfl rfl (pA 20 rfl (by first | decide | omega) (aB (aC (aE (cM rfl (cV ?_))))))))
  refine dD (dD (eO (aC (aE (aA (aO rfl rfl (wq (aZ lK Tryz.underlying21 rfl (iP _ (by omega) (by omega))) rfl (bC rfl rfl ?_))))))))
  refine aB (aC (aP (cE (.int _ _) rfl ?_)))
  first | exact ⟨rfl, by rw [(by simp only [g27, Bool.true_or] : (fl || decide (iI a l ≠ a)) = true)]; exact M2⟩ | exact ⟨rfl, by rw [(by simp only [g27, Bool.false_or] : (fl || decide (iI a l ≠ a)) = decide (iI a l ≠ a))]; exact M2⟩
 ·refine wq (aH (.bool (decide _)) rfl) rfl (wq (bM false (.bool (decide _)) rfl rfl) rfl (wq (bB rfl) rfl (cZ 0 (.bool (decide _)) oL M1 rfl rfl rfl rfl rfl rfl (fun w3 M3 => (aB (cO ?_))))))
  refine aC (aA (wq (aY rfl rfl (by first | decide | omega) (by first | decide | omega)) rfl (aK 31 (.int .i64 1) (iE (by first | decide | omega)) (aO rfl rfl (aB (aC (fG ?_)))))))
  refine aE (aA (cX rfl rfl rfl rfl (pA 20 rfl (by first | decide | omega) (aB (aC (aE (cM rfl (cV ?_))))))))
  refine dD (dD (eO (aC (aE (aA (aO rfl rfl (wq (aZ lK Tryz.underlying21 rfl (iP _ (by omega) (by omega))) rfl (bC rfl rfl ?_))))))))
  refine aB (aC (aP (cE (.int _ _) rfl ?_)))
  first | exact ⟨rfl, by rw [(by simp only [g27, Bool.true_or] : (fl || decide (iI a l ≠ a)) = true)]; exact M3⟩ | exact ⟨rfl, by rw [(by simp only [g27, Bool.false_or] : (fl || decide (iI a l ≠ a)) = decide (iI a l ≠ a))]; exact M3⟩
set_option maxHeartbeats 4000000 in
theorem aUv (w : World) (i : Int) (b : Body) (hb : Okb b) (bf : Nat) (fl : Bool) (hO : Own [(some bf, bc [.bool fl] 4)] w) :
  Calls Tryz.prog 83 #[.int .i64 i, (.agg (aF b).toArray), .pointer (some ⟨bf, 0, none⟩)] w (fun ex w' => ∃ v, ex = .returned v ∧ (fun v w' => v = (.agg (aF (nG b)).toArray) ∧ Mem w (cY [(some bf, bc [.bool fl] 4)]) [(some bf, bc [.bool (fl || lF b)] 4)] w') v w') := by
 have hv := hb.v
 refine aI #[.cell 5 40] 19 Tryz.func83 rfl Tryz.results83 Tryz.ntmps83 rfl ?_
 have M0 := hO.mem
 refine aE (aA (bP (.agg (List.toArray _)) M0 rfl rfl rfl (fun b1 w1 M1 => (aV fJ M1 rfl rfl (fun b2 w2 M2 => (aB (aC (aE (aE (aA (wq (aU 1 bK M2 rfl rfl rfl) rfl (bZ bLl rfl rfl (aFc _ b) ?_))))))))))))
 rintro v3 w3 ⟨rfl, hb3⟩
 have M3 := M2.callB hb3
 refine wq (nK rfl) rfl (aB (aC ?_))
 refine aS rfl (fun h8 => ?_) (fun h8 => ?_)
 ·refine aA (wq (aD 8 dP rfl) rfl (wq (aD 1 cK rfl) rfl (wq (aM 1 (.int _ _) aR M3 rfl rfl rfl) rfl (wq (aZ dO Tryz.underlying2 rfl (fC _ (by omega) (by omega))) rfl (wq (fX rfl rfl (by omega) (by omega)) rfl ?_)))))
  refine cU [.pointer _] [[.pointer (some ⟨bf, 0, none⟩)]] rfl aFv M3 rfl rfl rfl rfl (dE rfl) (by decide) (fun b4 w4 M4 => ?_)
  have hlit14 := jT (T := 133) (sz := 1) (b := b4) (nn := 1) [[.pointer (some ⟨bf, 0, none⟩)]] (by simp) rfl (by decide)
  refine bZ aJw rfl rfl (mU _ (b.vy - 1024) 16777216 ⟨by decide, by decide⟩ bf _ _ 1 (hlit14.rd M4 (bJ (i := 3) rfl)) (hlit14.awayB M4 3 0 rfl rfl rfl) (M4.ownSeg 0 1)) ?_
  rintro v5 w5 ⟨rfl, hM5⟩
  have M5 : Mem _ _ [_, _, _, _] _ := M4.seg 0 1 hM5
  refine wq (aD 8 dP rfl) rfl (wq (aD 1 cK rfl) rfl (cZ 1 (.int _ _) aR M5 rfl rfl rfl rfl rfl rfl (fun w6 M6 => (aB (aC (aE (aA (wq (aU 1 bK M6 rfl rfl rfl) rfl (bG 2 _ bK M6 rfl rfl rfl rfl rfl (aT rfl) rfl (fun w7 M7 => ?_))))))))))
  refine aB (aC (aP (eX 2 bK M7 rfl rfl rfl ?_)))
  exact ⟨by unfold nG; rw [if_neg h8]; rfl, by rw [show lF b = decide (iI (b.vy - 1024) 16777216 ≠ b.vy - 1024) by unfold lF; rw [decide_eq_true h8, Bool.true_and]]; exact M7.keep [true, false, false, false]⟩
 ·refine aL (aC (aE (aA (wq (aU 1 bK M3 rfl rfl rfl) rfl (bG 2 _ bK M3 rfl rfl rfl rfl rfl (aT rfl) rfl (fun w8 M8 => (aB (aC (aP (eX 2 bK M8 rfl rfl rfl ?_))))))))))
  exact ⟨by unfold nG; rw [if_pos (Decidable.not_not.1 h8)]; rfl, by rw [show lF b = false by unfold lF; rw [decide_eq_false h8, Bool.false_and], Bool.or_false]; exact M8.keep [true, false, false]⟩
set_option maxHeartbeats 4000000 in
theorem aNt (w : World) (A : Option Addr) (n c : Nat) (xs : List Body) (R : Rd w 10 A n (xs.map aF)) (hb : ∀ b ∈ xs, Okb b) (hn : n ≤ 1048576) (bf : Nat) (hO : Own [(some bf, bc [.bool false] 4)] w) (hdA : 0 < n → ∀ q off, A = some ⟨q, off, none⟩ → q ∉ cY [(some bf, bc [.bool false] 4)]) :
  Calls Tryz.prog 82 #[.slice A n c, .func (.func 83) #[] #[.pointer (some ⟨bf, 0, none⟩)]] w (fun ex w' => ∃ v, ex = .returned v ∧ (fun v w' => ∃ r : Row, v = .slice r.A r.n r.c ∧ bH 40 10 r.A r.n r.c ((oY xs).map aF) r.e ∧ Mem w (cY [(some bf, bc [.bool false] 4)]) [(some bf, bc [.bool (xs.any lF)] 4), r.e] w') v w') := by
 have hlen : xs.length = n := by simpa using R.len
 have hbd := R.bound
 refine aI #[.tmp 4] 24 Tryz.func82 rfl Tryz.results82 Tryz.ntmps82 rfl ?_
 have M0 := hO.mem
 refine aE (aA (eN rfl rfl (aB (aC (aE (aA (eN rfl rfl ?_)))))))
 have M1 := M0.dummy default
 refine aB (aC (aE (aE (aA (dN rfl rfl (wq (dB Tryz.underlying22 rfl) rfl (aO rfl rfl (aB (aC (aQ (dQ (σ := Nat × Row) [1, 4, 8, 9] (fun (k, q) => [(5, .slice q.A q.n q.c), (10, .int .i64 (k : Int))]) (fun (k, q) w' => (k ≤ n ∧ bH 40 10 q.A q.n q.c (((xs.take k).map nG).map aF) q.e) ∧ Mem w (cY [(some bf, bc [.bool false] 4)]) [(some bf, bc [.bool ((xs.take k).any lF)] 4), q.e] w') (fun (k, q) => n - k) (0, hJ) (bA rfl (bA rfl dX)) (⟨⟨by omega, bH.nil _ _ _⟩, M1⟩) ?_)))))))))))
 rintro ⟨k, q⟩ ρ2 w2 ⟨⟨hk, hq⟩, hM2⟩
 have htl := List.length_take_le k xs
 have hqn : (xs.take k).length = q.n := by simpa using hq.1
 refine aE (aA (cX rfl rfl rfl rfl (aB (aC (aE ?_)))))
 refine aS rfl (fun h11 => ?_) (fun h11 => ?_)
 ·obtain ⟨xb, hxb⟩ := cT (xs := xs) (k := k) hlen (by omega)
  refine aL (aC (aE (aQ (aE (aA (aO rfl rfl (wq (bN (k) dF rfl rfl rfl ((R.memY hM2 hdA).below_len (aG aF hxb)) ((R.memY hM2 hdA).someK (aG aF hxb))) rfl (wq (dJ _ bK (R.memY hM2 hdA) (aG aF hxb) rfl) rfl (aV fJ hM2 rfl rfl (fun b3 w3 M3 => ?_))))))))))
  refine bC rfl rfl (bG 2 _ bK M3 rfl rfl rfl rfl rfl (aT rfl) rfl (fun w4 M4 => (aB (aC (aA (dN rfl rfl (wq (aH (.func _ _ _) rfl) rfl (aO rfl rfl ?_))))))))
  refine wq (aU 2 bK M4 rfl rfl rfl) rfl (bZ bLt rfl rfl (aUv _ _ xb (hb xb (List.mem_of_getElem? hxb)) bf _ (M4.ownSeg 0 1)) ?_)
  rintro v5 w5 ⟨rfl, hM5⟩
  have M5 : Mem _ _ [_, _, _] _ := M4.seg 0 1 hM5
  refine cU [.agg (List.toArray _)] [aF (nG xb)] rfl dF M5 rfl rfl rfl rfl (dE rfl) (by decide) (fun b6 w6 M6 => (dL 1 [aF (nG xb)] dF M6 rfl rfl rfl rfl rfl hq rfl (by simp [aF, Go.Bil.one]) (dR.ofMem 3 M6 rfl) (by omega) (fun A7 c7 e7 w7 M7 hR7 => (eN rfl rfl ?_))))
  refine aB (cO (aC (aA (wq (aY rfl rfl (by omega) (by omega)) rfl (aO rfl rfl (aB ?_))))))
  refine cD (k + 1, ⟨A7, q.n + 1, c7, e7⟩) (bA rfl (bA rfl dX)) (cL rfl (cL rfl (cL rfl (cL rfl gO)))) ?_ ?_
  ·exact ⟨⟨by omega, by rw [cR hxb, List.map_append, List.map_append]; exact hR7⟩, by rw [cR hxb, List.any_append, List.any_cons, List.any_nil, Bool.or_false]; exact M7.keep [true, true, false, false]⟩
  ·(show n - (k + 1) < n - k; omega)
 ·have hkn : k = n := by omega
  rw [List.take_of_length_le (by omega)] at hq
  rw [List.take_of_length_le (by omega)] at hM2
  refine cV (dD (dK (eO (aC (aE (aA (dN rfl rfl ?_)))))))
  refine eN rfl rfl (aB (aC (aP (cE (.slice _ _ _) rfl ?_))))
  exact ⟨q, rfl, hq, hM2⟩
set_option maxHeartbeats 4000000 in
theorem aLx (w : World) (A : Option Addr) (n c : Nat) (xs : List Body) (R : Rd w 10 A n (xs.map aF)) (hb : ∀ b ∈ xs, Okb b) (hn : n ≤ 1048576) :
  Calls Tryz.prog 53 #[.slice A n c] w (fun ex w' => ∃ v, ex = .returned v ∧ (fun v w' => ∃ r : Row, v = .tuple #[.slice r.A r.n r.c, .bool (xs.any lF)] ∧ bH 40 10 r.A r.n r.c ((oY xs).map aF) r.e ∧ Mem w [] [r.e] w') v w') := by
 refine aI #[.tmp 2, .tmp 3] 11 Tryz.func53 rfl Tryz.results53 Tryz.ntmps53 rfl ?_
 have M0 := Mem.refl w
 refine aE (aA (eN rfl rfl (wq (aJ (.bool false) rfl) rfl (aB (aC (aE (aA (aV aRy M0 rfl rfl (fun b1 w1 M1 => (cZ 0 (.bool false) oL M1 rfl rfl rfl rfl rfl rfl (fun w2 M2 => ?_)))))))))))
 refine aB (aC (aE (aA (dN rfl rfl (wq (dU [] [.pointer _] rfl rfl) rfl (bZ bEw rfl rfl (aNt _ A n c xs (R.mem M2) hb hn b1 (M2.ownSeg 0 1) (M2.away 0 1 R (by simp))) ?_))))))
 rintro v3 w3 ⟨r, rfl, hr, hM3⟩
 have M3 : Mem _ _ [_, _] _ := M2.seg 0 1 hM3
 refine eN rfl rfl (aB (aC (aE (bR [(0, 0), (1, 1), (2, 0), (3, 0)] mixed rfl (by kernel_rfl) (fun w4 hb4 hh4 => ?_)))))
 have M4 := M3.drew hb4 hh4
 refine kQ rfl rfl rfl (bV rfl rfl rfl (aM 0 (.bool _) oL M4 rfl rfl rfl) (aX rfl rfl rfl (fun _ => aJ (.slice _ _ _) rfl) (aX rfl rfl rfl (fun _ => aJ (.bool _) rfl) (bY (aC (aP ?_))))))
 refine gA (.slice _ _ _) (.bool _) rfl rfl ?_
 exact ⟨r, rfl, hr, M4.keep [false, true]⟩
set_option maxHeartbeats 4000000 in
theorem aUf (w : World) (i : Nat) (b : Body) (hb : Okb b) (bf bl : Nat) (fl : Bool) (C : Option Addr) (m cm : Nat) (l : List (Int × Int)) (RS : Rd w 2 C m (l.map cI)) (s : Int × Int) (hs : l[i]? = some s) (hsb : (-1152921504606846976 ≤ s.1 ∧ s.1 ≤ 1152921504606846976) ∧ -1152921504606846976 ≤ s.2 ∧ s.2 ≤ 1152921504606846976) (hO : Own [(some bf, bc [.bool fl] 4), (some bl, bc [.slice C m cm] 97)] w) (hdS : 0 < m → ∀ q off, C = some ⟨q, off, none⟩ → q ∉ cY [(some bf, bc [.bool fl] 4), (some bl, bc [.slice C m cm] 97)]) :
  Calls Tryz.prog 86 #[.int .i64 (i : Int), (.agg (aF b).toArray), .pointer (some ⟨bl, 0, none⟩), .pointer (some ⟨bf, 0, none⟩)] w (fun ex w' => ∃ v, ex = .returned v ∧ (fun v w' => v = (.agg (aF (sE b s.1 s.2)).toArray) ∧ Mem w (cY [(some bf, bc [.bool fl] 4), (some bl, bc [.slice C m cm] 97)]) [(some bf, bc [.bool (fl || aFf b s.1 s.2)] 4), (some bl, bc [.slice C m cm] 97)] w') v w') := by
 have hv := hb.v
 have hpp := hb.p
 have hlm : l.length = m := by simpa using RS.len
 have hil := (List.getElem?_eq_some_iff.1 hs).1
 refine aI #[.cell 6 40] 50 Tryz.func86 rfl Tryz.results86 Tryz.ntmps86 rfl ?_
 have M0 := hO.mem
 refine aE (aA (bP (.agg (List.toArray _)) M0 rfl rfl rfl (fun b1 w1 M1 => (aV fJ M1 rfl rfl (fun b2 w2 M2 => (aB (aC (aE (bR [(0, 0), (1, 0), (2, 1), (3, 0), (4, 1), (5, 0), (6, 1), (7, 1), (8, 1), (9, 0), (10, 0), (11, 0), (12, 1), (13, 0), (14, 0), (15, 0), (16, 0)] mixed rfl (by kernel_rfl) (fun w3 hb3 hh3 => ?_))))))))))
 have M3 := M2.drew hb3 hh3
 refine aX rfl rfl rfl (fun _ => aD 6 fD rfl) (aX rfl rfl rfl (fun _ => aD 0 cQ rfl) (bV rfl rfl rfl (aM 2 (.int _ _) aR M3 rfl rfl rfl) (aX rfl rfl rfl (fun _ => aZ dO Tryz.underlying2 rfl (fC _ (by omega) (by omega))) (bV rfl rfl rfl (aM 1 (.slice _ _ _) aFj M3 rfl rfl rfl) ?_))))
 refine eF rfl rfl rfl (bV rfl rfl rfl (bN (i) aOl rfl rfl rfl ((RS.memY M3 hdS).below_len (aG cI hs)) ((RS.memY M3 hdS).someK (aG cI hs))) (bV rfl rfl rfl (bE 0 aCe (RS.memY M3 hdS) (Nat.lt_of_le_of_lt (Nat.zero_le _) ((RS.memY M3 hdS).below_len (aG cI hs))) rfl) ?_))
 refine bV rfl rfl rfl (dV (o := 0) (.int _ _) iR (RS.memY M3 hdS) (aG cI hs) rfl rfl) (aX rfl rfl rfl (fun _ => aY rfl rfl (by omega) (by omega)) (aX rfl rfl rfl (fun _ => aD 8 dP rfl) (aX rfl rfl rfl (fun _ => aD 0 cQ rfl) (bV rfl rfl rfl (aM 2 (.int _ _) aR M3 rfl rfl rfl) ?_))))
 refine aX rfl rfl rfl (fun _ => jH rfl rfl (by decide)) (dY 22 (.int .i32 (b.vx / 64)) (iE (aLp _)) (aX rfl rfl rfl (fun _ => aZ dO Tryz.underlying2 rfl (fC _ (by omega) (by omega))) (aX rfl rfl rfl (fun _ => aY rfl rfl (by omega) (by omega)) (dY 24 (.int .i64 (aFd b s.1)) rfl (lM rfl rfl rfl ?_)))))
 refine bY (aC (aE (bR [(0, 0), (1, 0), (2, 1), (3, 0), (4, 1), (5, 0), (6, 1), (7, 1), (8, 1), (9, 0), (10, 0), (11, 0), (12, 1), (13, 0), (14, 0), (15, 0), (16, 0)] mixed rfl (by kernel_rfl) (fun w4 hb4 hh4 => ?_))))
 have M4 := M3.drew hb4 hh4
 refine aX rfl rfl rfl (fun _ => aD 6 fD rfl) (aX rfl rfl rfl (fun _ => aD 1 cK rfl) (bV rfl rfl rfl (aM 2 (.int _ _) aR M4 rfl rfl rfl) (aX rfl rfl rfl (fun _ => aZ dO Tryz.underlying2 rfl (fC _ (by omega) (by omega))) (bV rfl rfl rfl (aM 1 (.slice _ _ _) aFj M4 rfl rfl rfl) ?_))))
 refine eF rfl rfl rfl (bV rfl rfl rfl (bN (i) aOl rfl rfl rfl ((RS.memY M4 hdS).below_len (aG cI hs)) ((RS.memY M4 hdS).someK (aG cI hs))) (bV rfl rfl rfl (bE 1 aDl (RS.memY M4 hdS) (Nat.lt_of_le_of_lt (Nat.zero_le _) ((RS.memY M4 hdS).below_len (aG cI hs))) rfl) ?_))
 refine bV rfl rfl rfl (dV (o := 1) (.int _ _) iR (RS.memY M4 hdS) (aG cI hs) rfl rfl) (aX rfl rfl rfl (fun _ => aY rfl rfl (by omega) (by omega)) (aX rfl rfl rfl (fun _ => aD 8 dP rfl) (aX rfl rfl rfl (fun _ => aD 1 cK rfl) (bV rfl rfl rfl (aM 2 (.int _ _) aR M4 rfl rfl rfl) ?_))))
 refine aX rfl rfl rfl (fun _ => jH rfl rfl (by decide)) (dY 38 (.int .i32 (b.vy / 64)) (iE (aLp _)) (aX rfl rfl rfl (fun _ => aZ dO Tryz.underlying2 rfl (fC _ (by omega) (by omega))) (aX rfl rfl rfl (fun _ => aY rfl rfl (by omega) (by omega)) (dY 40 (.int .i64 (aEk b s.2)) rfl (lM rfl rfl rfl ?_)))))
 refine bY (aC (aE (aA (aO rfl rfl (cU [.pointer _] [[.pointer (some ⟨bf, 0, none⟩)]] rfl aFv M4 rfl rfl rfl rfl (dE rfl) (by decide) (fun b5 w5 M5 => ?_))))))
 have hlit42 := jT (T := 133) (sz := 1) (b := b5) (nn := 1) [[.pointer (some ⟨bf, 0, none⟩)]] (by simp) rfl (by decide)
 refine bZ aJw rfl rfl (mU _ (aFd b s.1) 1073741824 ⟨by decide, by decide⟩ bf _ _ 1 (hlit42.rd M5 (bJ (i := 4) rfl)) (hlit42.awayB M5 4 0 rfl rfl rfl) (M5.ownSeg 0 1)) ?_
 rintro v6 w6 ⟨rfl, hM6⟩
 have M6 : Mem _ _ [_, _, _, _, _] _ := M5.seg 0 1 hM6
 refine aO rfl rfl (cU [.pointer _] [[.pointer (some ⟨bf, 0, none⟩)]] rfl aFv M6 rfl rfl rfl rfl (dE rfl) (by decide) (fun b7 w7 M7 => ?_))
 have hlit45 := jT (T := 133) (sz := 1) (b := b7) (nn := 1) [[.pointer (some ⟨bf, 0, none⟩)]] (by simp) rfl (by decide)
 refine bZ aJw rfl rfl (mU _ (aEk b s.2) 1073741824 ⟨by decide, by decide⟩ bf _ _ 1 (hlit45.rd M7 (bJ (i := 5) rfl)) (hlit45.awayB M7 5 0 rfl rfl rfl) (M7.ownSeg 0 1)) ?_
 rintro v8 w8 ⟨rfl, hM8⟩
 have M8 : Mem _ _ [_, _, _, _, _, _] _ := M7.seg 0 1 hM8
 refine wq (cP [(0, .int _ _), (1, .int _ _)] _ eG rfl rfl) rfl (wq (aD 6 fD rfl) rfl (qP 2 _ bI M8 rfl rfl rfl rfl rfl (aT rfl) (Nat.le_of_ble_eq_true rfl) (fun w9 M9 => (aB (aC (aE (aA (wq (aU 2 bK M9 rfl rfl rfl) rfl (bG 3 _ bK M9 rfl rfl rfl rfl rfl (aT rfl) rfl (fun w10 M10 => ?_))))))))))
 refine aB (aC (aP (eX 3 bK M10 rfl rfl rfl ?_)))
 exact ⟨rfl, by rw [show (fl || aFf b s.1 s.2) = ((fl || decide (iI (aFd b s.1) 1073741824 ≠ aFd b s.1)) || decide (iI (aEk b s.2) 1073741824 ≠ aEk b s.2)) from (Bool.or_assoc _ _ _).symm]; exact M10.keep [true, true, false, false, false, false]⟩
set_option maxHeartbeats 4000000 in
theorem aNd (w : World) (A : Option Addr) (n c : Nat) (xs : List Body) (R : Rd w 10 A n (xs.map aF)) (hb : ∀ b ∈ xs, Okb b) (hn : n ≤ 1048576) (bf bl : Nat) (G : Body → Int × Int) (hG : ∀ b ∈ xs, (-1152921504606846976 ≤ (G b).1 ∧ (G b).1 ≤ 1152921504606846976) ∧ -1152921504606846976 ≤ (G b).2 ∧ (G b).2 ≤ 1152921504606846976) (C : Option Addr) (cm : Nat) (RS : Rd w 2 C n ((xs.map G).map cI)) (hO : Own [(some bf, bc [.bool false] 4), (some bl, bc [.slice C n cm] 97)] w) (hdA : 0 < n → ∀ q off, A = some ⟨q, off, none⟩ → q ∉ cY [(some bf, bc [.bool false] 4), (some bl, bc [.slice C n cm] 97)]) (hdS : 0 < n → ∀ q off, C = some ⟨q, off, none⟩ → q ∉ cY [(some bf, bc [.bool false] 4), (some bl, bc [.slice C n cm] 97)]) :
  Calls Tryz.prog 82 #[.slice A n c, .func (.func 86) #[] #[.pointer (some ⟨bl, 0, none⟩), .pointer (some ⟨bf, 0, none⟩)]] w (fun ex w' => ∃ v, ex = .returned v ∧ (fun v w' => ∃ r : Row, v = .slice r.A r.n r.c ∧ bH 40 10 r.A r.n r.c ((xs.map (fun b => sE b (G b).1 (G b).2)).map aF) r.e ∧ Mem w (cY [(some bf, bc [.bool false] 4), (some bl, bc [.slice C n cm] 97)]) [(some bf, bc [.bool (xs.any (fun b => aFf b (G b).1 (G b).2))] 4), (some bl, bc [.slice C n cm] 97), r.e] w') v w') := by
 have hlen : xs.length = n := by simpa using R.len
 have hbd := R.bound
 refine aI #[.tmp 4] 24 Tryz.func82 rfl Tryz.results82 Tryz.ntmps82 rfl ?_
 have M0 := hO.mem
 refine aE (aA (eN rfl rfl (aB (aC (aE (aA (eN rfl rfl ?_)))))))
 have M1 := M0.dummy default
 refine aB (aC (aE (aE (aA (dN rfl rfl (wq (dB Tryz.underlying22 rfl) rfl (aO rfl rfl (aB (aC (aQ (dQ (σ := Nat × Row) [1, 4, 8, 9] (fun (k, q) => [(5, .slice q.A q.n q.c), (10, .int .i64 (k : Int))]) (fun (k, q) w' => (k ≤ n ∧ bH 40 10 q.A q.n q.c (((xs.take k).map (fun b => sE b (G b).1 (G b).2)).map aF) q.e) ∧ Mem w (cY [(some bf, bc [.bool false] 4), (some bl, bc [.slice C n cm] 97)]) [(some bf, bc [.bool ((xs.take k).any (fun b => aFf b (G b).1 (G b).2))] 4), (some bl, bc [.slice C n cm] 97), q.e] w') (fun (k, q) => n - k) (0, hJ) (bA rfl (bA rfl dX)) (⟨⟨by omega, bH.nil _ _ _⟩, M1⟩) ?_)))))))))))
 rintro ⟨k, q⟩ ρ2 w2 ⟨⟨hk, hq⟩, hM2⟩
 have htl := List.length_take_le k xs
 have hqn : (xs.take k).length = q.n := by simpa using hq.1
 refine aE (aA (cX rfl rfl rfl rfl (aB (aC (aE ?_)))))
 refine aS rfl (fun h11 => ?_) (fun h11 => ?_)
 ·obtain ⟨xb, hxb⟩ := cT (xs := xs) (k := k) hlen (by omega)
  refine aL (aC (aE (aQ (aE (aA (aO rfl rfl (wq (bN (k) dF rfl rfl rfl ((R.memY hM2 hdA).below_len (aG aF hxb)) ((R.memY hM2 hdA).someK (aG aF hxb))) rfl (wq (dJ _ bK (R.memY hM2 hdA) (aG aF hxb) rfl) rfl (aV fJ hM2 rfl rfl (fun b3 w3 M3 => ?_))))))))))
  refine bC rfl rfl (bG 3 _ bK M3 rfl rfl rfl rfl rfl (aT rfl) rfl (fun w4 M4 => (aB (aC (aA (dN rfl rfl (wq (aH (.func _ _ _) rfl) rfl (aO rfl rfl ?_))))))))
  refine wq (aU 3 bK M4 rfl rfl rfl) rfl (bZ bLq rfl rfl (aUf _ k xb (hb xb (List.mem_of_getElem? hxb)) bf bl _ C n cm (xs.map G) (RS.memY M4 hdS) (G xb) (aG G hxb) (hG xb (List.mem_of_getElem? hxb)) (M4.ownSeg 0 2) (M4.away 0 2 RS hdS)) ?_)
  rintro v5 w5 ⟨rfl, hM5⟩
  have M5 : Mem _ _ [_, _, _, _] _ := M4.seg 0 2 hM5
  refine cU [.agg (List.toArray _)] [aF (sE xb (G xb).1 (G xb).2)] rfl dF M5 rfl rfl rfl rfl (dE rfl) (by decide) (fun b6 w6 M6 => (dL 2 [aF (sE xb (G xb).1 (G xb).2)] dF M6 rfl rfl rfl rfl rfl hq rfl (by simp [aF, Go.Bil.one]) (dR.ofMem 4 M6 rfl) (by omega) (fun A7 c7 e7 w7 M7 hR7 => ?_)))
  refine eN rfl rfl (aB (cO (aC (aA (wq (aY rfl rfl (by omega) (by omega)) rfl (aO rfl rfl ?_))))))
  refine aB ?_
  refine cD (k + 1, ⟨A7, q.n + 1, c7, e7⟩) (bA rfl (bA rfl dX)) (cL rfl (cL rfl (cL rfl (cL rfl gO)))) ?_ ?_
  ·exact ⟨⟨by omega, by rw [cR hxb, List.map_append, List.map_append]; exact hR7⟩, by rw [cR hxb, List.any_append, List.any_cons, List.any_nil, Bool.or_false]; exact M7.keep [true, true, true, false, false]⟩
  ·(show n - (k + 1) < n - k; omega)
 ·have hkn : k = n := by omega
  rw [List.take_of_length_le (by omega)] at hq
  rw [List.take_of_length_le (by omega)] at hM2
  refine cV (dD (dK (eO (aC (aE (aA (dN rfl rfl ?_)))))))
  refine eN rfl rfl (aB (aC (aP (cE (.slice _ _ _) rfl ?_))))
  exact ⟨q, rfl, hq, hM2⟩
set_option maxHeartbeats 4000000 in
theorem aYk (w : World) (A : Option Addr) (n c : Nat) (xs : List Body) (R : Rd w 10 A n (xs.map aF)) (hb : ∀ b ∈ xs, Okb b) (hn : n ≤ 1048576) (G : Body → Int × Int) (hG : ∀ b ∈ xs, (-1152921504606846976 ≤ (G b).1 ∧ (G b).1 ≤ 1152921504606846976) ∧ -1152921504606846976 ≤ (G b).2 ∧ (G b).2 ≤ 1152921504606846976) (C : Option Addr) (cm : Nat) (RS : Rd w 2 C n ((xs.map G).map cI)) :
  Calls Tryz.prog 54 #[.slice A n c, .slice C n cm] w (fun ex w' => ∃ v, ex = .returned v ∧ (fun v w' => ∃ r : Row, v = .tuple #[.slice r.A r.n r.c, .bool (xs.any (fun b => aFf b (G b).1 (G b).2))] ∧ bH 40 10 r.A r.n r.c ((xs.map (fun b => sE b (G b).1 (G b).2)).map aF) r.e ∧ Mem w [] [r.e] w') v w') := by
 refine aI #[.tmp 4, .tmp 5] 13 Tryz.func54 rfl Tryz.results54 Tryz.ntmps54 rfl ?_
 have M0 := Mem.refl w
 refine aE (aA (bP (.slice _ _ _) M0 rfl rfl rfl (fun b1 w1 M1 => (eN rfl rfl (wq (aJ (.bool false) rfl) rfl (aB (aC (aE (aA (aV aRy M1 rfl rfl (fun b2 w2 M2 => ?_)))))))))))
 refine cZ 1 (.bool false) oL M2 rfl rfl rfl rfl rfl rfl (fun w3 M3 => (aB (aC (aE (aA ?_)))))
 have M4 : Mem _ _ [_, _] _ := Mem.swap2 M3
 refine dN rfl rfl (wq (dU [] [.pointer _, .pointer _] rfl rfl) rfl (bZ bEw rfl rfl (aNd _ A n c xs (R.mem M4) hb hn b2 b1 G hG C cm (RS.mem M4) (M4.ownSeg 0 2) (M4.away 0 2 R (by simp)) (M4.away 0 2 RS (by simp))) ?_))
 rintro v5 w5 ⟨r, rfl, hr, hM5⟩
 have M5 : Mem _ _ [_, _, _] _ := M4.seg 0 2 hM5
 refine eN rfl rfl (aB (aC (aE (bR [(0, 0), (1, 1), (2, 0), (3, 0)] mixed rfl (by kernel_rfl) (fun w6 hb6 hh6 => ?_)))))
 have M6 := M5.drew hb6 hh6
 refine kQ rfl rfl rfl (bV rfl rfl rfl (aM 0 (.bool _) oL M6 rfl rfl rfl) (aX rfl rfl rfl (fun _ => aJ (.slice _ _ _) rfl) (aX rfl rfl rfl (fun _ => aJ (.bool _) rfl) (bY (aC (aP ?_))))))
 refine gA (.slice _ _ _) (.bool _) rfl rfl ?_
 exact ⟨r, rfl, hr, M6.keep [false, false, true]⟩
set_option maxHeartbeats 4000000 in
theorem aOc (w : World) (bs : Nat) (vr lr : Row) (tt mm : Int) (cl : Bool) (A : Option Addr) (n c : Nat) (q : Row) (c2 : Bool) (hO : Own [(some bs, bc [.slice A n c, .slice vr.A vr.n vr.c, .slice lr.A lr.n lr.c, .int .i64 tt, .int .i64 mm, .bool cl] 84)] w) :
  Calls Tryz.prog 72 #[.pointer (some ⟨bs, 0, none⟩), .slice q.A q.n q.c, .bool c2] w (fun ex w' => ∃ v, ex = .returned v ∧ (fun v w' => v = .tuple #[] ∧ Mem w (cY [(some bs, bc [.slice A n c, .slice vr.A vr.n vr.c, .slice lr.A lr.n lr.c, .int .i64 tt, .int .i64 mm, .bool cl] 84)]) [(some bs, bc [.slice A n c, .slice q.A q.n q.c, .slice lr.A lr.n lr.c, .int .i64 tt, .int .i64 mm, .bool (cl || c2)] 84)] w') v w') := by
 refine aI #[] 22 Tryz.func72 rfl Tryz.results72 Tryz.ntmps72 rfl ?_
 have M0 := hO.mem
 refine aE (aA (wq (aH (.pointer _) rfl) rfl (dN rfl rfl (wq (bB rfl) rfl (wq (aD 1 aAa rfl) rfl (cZ 0 (.slice _ _ _) fQ M0 rfl rfl rfl rfl rfl rfl (fun w1 M1 => ?_)))))))
 refine aB (aC (aA (wq (aH (.pointer _) rfl) rfl (wq (aH (.pointer _) rfl) rfl (wq (bB rfl) rfl (wq (aD 3 sU rfl) rfl (wq (aD 2 vR rfl) rfl ?_)))))))
 refine wq (aM 0 (.bool _) oL M1 rfl rfl rfl) rfl (wq (aH (.bool _) rfl) rfl ?_)
 refine jI 16 _ rfl (fun g16 => ?_) (fun g16 => ?_)
 ·refine aN rfl rfl (wq (bM true (.bool true) rfl rfl) rfl (wq (bB rfl) rfl (wq (aD 3 sU rfl) rfl (wq (aD 2 vR rfl) rfl (cZ 0 (.bool true) oL M1 rfl rfl rfl rfl rfl rfl (fun w2 M2 => ?_))))))
  refine aB (kR ?_)
  first | exact ⟨rfl, by rw [(by simp only [g16, Bool.true_or] : (cl || c2) = true)]; exact M2⟩ | exact ⟨rfl, by rw [(by simp only [g16, Bool.false_or] : (cl || c2) = c2)]; exact M2⟩
 ·refine wq (aH (.bool _) rfl) rfl (wq (bM false (.bool _) rfl rfl) rfl (wq (bB rfl) rfl (wq (aD 3 sU rfl) rfl (wq (aD 2 vR rfl) rfl (cZ 0 (.bool _) oL M1 rfl rfl rfl rfl rfl rfl (fun w3 M3 => ?_))))))
  refine aB (kR ?_)
  first | exact ⟨rfl, by rw [(by simp only [g16, Bool.true_or] : (cl || c2) = true)]; exact M3⟩ | exact ⟨rfl, by rw [(by simp only [g16, Bool.false_or] : (cl || c2) = c2)]; exact M3⟩
set_option maxHeartbeats 4000000 in
theorem bCm (w : World) (F : Rd w 2 (some ⟨0, 0, none⟩) 1 [[.int .u32 73856093, .int .u32 19349663]]) (N : Rd w 4 (some ⟨3, 0, none⟩) 1 [eQ lG]) (bs : Nat) (vr lr : Row) (tt mm : Int) (cl : Bool) (A : Option Addr) (n c : Nat) (xs : List Body) (R : Rd w 10 A n (xs.map aF)) (hb : ∀ b ∈ xs, Okb b) (hs : cS xs) (hn : n ≤ 4096) (hO : Own [(some bs, bc [.slice A n c, .slice vr.A vr.n vr.c, .slice lr.A lr.n lr.c, .int .i64 tt, .int .i64 mm, .bool cl] 84)] w) (hdA : 0 < n → ∀ q off, A = some ⟨q, off, none⟩ → q ∉ cY [(some bs, bc [.slice A n c, .slice vr.A vr.n vr.c, .slice lr.A lr.n lr.c, .int .i64 tt, .int .i64 mm, .bool cl] 84)]) (hdF : 0 < 1 → ∀ q off, (some ⟨0, 0, none⟩ : Option Addr) = some ⟨q, off, none⟩ → q ∉ cY [(some bs, bc [.slice A n c, .slice vr.A vr.n vr.c, .slice lr.A lr.n lr.c, .int .i64 tt, .int .i64 mm, .bool cl] 84)]) (hdN : 0 < 1 → ∀ q off, (some ⟨3, 0, none⟩ : Option Addr) = some ⟨q, off, none⟩ → q ∉ cY [(some bs, bc [.slice A n c, .slice vr.A vr.n vr.c, .slice lr.A lr.n lr.c, .int .i64 tt, .int .i64 mm, .bool cl] 84)]) :
  Calls Tryz.prog 40 #[.pointer (some ⟨bs, 0, none⟩)] w (fun ex w' => ∃ v, ex = .returned v ∧ (fun v w' => v = .tuple #[] ∧ ∃ (r : Row) (m : Nat), (nI xs).length ≤ m ∧ 2 * m ≤ xs.length * (xs.length - 1) ∧ bH 121 5 r.A r.n r.c ((lL xs).map cG) r.e ∧ Mem w (cY [(some bs, bc [.slice A n c, .slice vr.A vr.n vr.c, .slice lr.A lr.n lr.c, .int .i64 tt, .int .i64 mm, .bool cl] 84)]) [(some bs, bc [.slice A n c, .slice vr.A vr.n vr.c, .slice r.A r.n r.c, .int .i64 (m : Int), .int .i64 (r.n : Int), .bool cl] 84), r.e] w') v w') := by
 refine aI #[] 26 Tryz.func40 rfl Tryz.results40 Tryz.ntmps40 rfl ?_
 have M0 := hO.mem
 refine aE (aA (wq (aH (.pointer _) rfl) rfl (wq (aH (.pointer _) rfl) rfl (wq (aH (.pointer _) rfl) rfl (wq (bB rfl) rfl (wq (aD 0 aHz rfl) rfl ?_))))))
 refine wq (aM 0 (.slice _ _ _) fQ M0 rfl rfl rfl) rfl (bZ bKp rfl rfl (aHr _ (F.memY M0 hdF) (N.memY M0 hdN) A n c xs (R.memY M0 hdA) hb hs hn) ?_)
 rintro v1 w1 ⟨r, m, rfl, hm1, hm2, hr, hM1⟩
 have M1 : Mem _ _ [_, _] _ := M0.call0 hM1
 refine wq (aH (.tuple (List.toArray _)) rfl) rfl (wq (bO (.slice _ _ _) rfl rfl) rfl (wq (bO (.int _ _) rfl rfl) rfl (wq (bB rfl) rfl (wq (aD 2 zZ rfl) rfl (cZ 0 (.slice _ _ _) rI M1 rfl rfl rfl rfl rfl rfl (fun w2 M2 => ?_))))))
 refine wq (bB rfl) rfl (wq (aD 3 sU rfl) rfl (wq (aD 0 bDx rfl) rfl (cZ 0 (.int _ _) kK M2 rfl rfl rfl rfl rfl rfl (fun w3 M3 => (aB (aC (aA (wq (aH (.pointer _) rfl) rfl ?_))))))))
 refine wq (aH (.pointer _) rfl) rfl (wq (bB rfl) rfl (wq (aD 2 zZ rfl) rfl (wq (aM 0 (.slice _ _ _) rI M3 rfl rfl rfl) rfl (wq (dB Tryz.underlying82 rfl) rfl (wq (bB rfl) rfl ?_)))))
 refine wq (aD 3 sU rfl) rfl (wq (aD 1 aIx rfl) rfl (cZ 0 (.int _ _) kK M3 rfl rfl rfl rfl rfl rfl (fun w4 M4 => (aB (kR ?_)))))
 exact ⟨rfl, r, m, hm1, hm2, hr, M4⟩
set_option maxHeartbeats 4000000 in
theorem bCf (w : World) (bs : Nat) (vr lr : Row) (tt mm : Int) (cl : Bool) (A : Option Addr) (n c : Nat) (xs : List Body) (R : Rd w 10 A n (xs.map aF)) (hb : ∀ b ∈ xs, Okb b) (hn : n ≤ 1048576) (hO : Own [(some bs, bc [.slice A n c, .slice vr.A vr.n vr.c, .slice lr.A lr.n lr.c, .int .i64 tt, .int .i64 mm, .bool cl] 84)] w) (hdA : 0 < n → ∀ q off, A = some ⟨q, off, none⟩ → q ∉ cY [(some bs, bc [.slice A n c, .slice vr.A vr.n vr.c, .slice lr.A lr.n lr.c, .int .i64 tt, .int .i64 mm, .bool cl] 84)]) :
  Calls Tryz.prog 41 #[.pointer (some ⟨bs, 0, none⟩)] w (fun ex w' => ∃ v, ex = .returned v ∧ (fun v w' => v = .tuple #[] ∧ ∃ r : Row, bH 40 10 r.A r.n r.c ((oY xs).map aF) r.e ∧ Mem w (cY [(some bs, bc [.slice A n c, .slice vr.A vr.n vr.c, .slice lr.A lr.n lr.c, .int .i64 tt, .int .i64 mm, .bool cl] 84)]) [(some bs, bc [.slice A n c, .slice r.A r.n r.c, .slice lr.A lr.n lr.c, .int .i64 tt, .int .i64 mm, .bool (cl || xs.any lF)] 84), r.e] w') v w') := by
 refine aI #[] 11 Tryz.func41 rfl Tryz.results41 Tryz.ntmps41 rfl ?_
 have M0 := hO.mem
 refine aA (wq (aH (.pointer _) rfl) rfl (wq (aH (.pointer _) rfl) rfl (wq (bB rfl) rfl (wq (aD 0 aHz rfl) rfl (wq (aM 0 (.slice _ _ _) fQ M0 rfl rfl rfl) rfl ?_)))))
 refine bZ bLh rfl rfl (aLx _ A n c xs (R.memY M0 hdA) hb hn) ?_
 rintro v1 w1 ⟨r, rfl, hr, hM1⟩
 have M1 : Mem _ _ [_, _] _ := M0.call0 hM1
 refine wq (bO (.slice _ _ _) rfl rfl) rfl (wq (bO (.bool _) rfl rfl) rfl (bZ aWt rfl rfl (aOc _ bs vr lr tt mm cl A n c r _ (M1.ownSeg 0 1)) ?_))
 rintro v2 w2 ⟨rfl, hM2⟩
 have M2 : Mem _ _ [_, _] _ := M1.seg 0 1 hM2
 refine aB (kR ?_)
 exact ⟨rfl, r, hr, M2⟩
set_option maxHeartbeats 4000000 in
theorem aWx (w : World) (bs : Nat) (vr lr : Row) (tt mm : Int) (cl : Bool) (A : Option Addr) (n c : Nat) (ys : List Body) (cs : List Con) (RV : Rd w 10 vr.A vr.n (ys.map aF)) (RL : Rd w 5 lr.A lr.n (cs.map cG)) (hs : cS ys) (hb : ∀ b ∈ ys, Okb b) (hn : vr.n ≤ 1048576) (hcs : ∀ c ∈ cs, OkC ys c) (hmc : lr.n ≤ 8589934592) (hO : Own [(some bs, bc [.slice A n c, .slice vr.A vr.n vr.c, .slice lr.A lr.n lr.c, .int .i64 tt, .int .i64 mm, .bool cl] 84)] w) (hdV : 0 < vr.n → ∀ q off, vr.A = some ⟨q, off, none⟩ → q ∉ cY [(some bs, bc [.slice A n c, .slice vr.A vr.n vr.c, .slice lr.A lr.n lr.c, .int .i64 tt, .int .i64 mm, .bool cl] 84)]) (hdL : 0 < lr.n → ∀ q off, lr.A = some ⟨q, off, none⟩ → q ∉ cY [(some bs, bc [.slice A n c, .slice vr.A vr.n vr.c, .slice lr.A lr.n lr.c, .int .i64 tt, .int .i64 mm, .bool cl] 84)]) :
  Calls Tryz.prog 42 #[.pointer (some ⟨bs, 0, none⟩)] w (fun ex w' => ∃ v, ex = .returned v ∧ (fun v w' => v = .tuple #[] ∧ ∃ r : Row, bH 40 10 r.A r.n r.c (((gL ys cs 4).1).map aF) r.e ∧ Mem w (cY [(some bs, bc [.slice A n c, .slice vr.A vr.n vr.c, .slice lr.A lr.n lr.c, .int .i64 tt, .int .i64 mm, .bool cl] 84)]) [(some bs, bc [.slice A n c, .slice r.A r.n r.c, .slice lr.A lr.n lr.c, .int .i64 tt, .int .i64 mm, .bool (cl || (gL ys cs 4).2)] 84), r.e] w') v w') := by
 refine aI #[] 15 Tryz.func42 rfl Tryz.results42 Tryz.ntmps42 rfl ?_
 have M0 := hO.mem
 refine bR [(0, 0), (1, 0), (2, 0), (3, 0), (4, 1), (5, 0), (6, 0), (7, 0), (8, 1), (9, 2), (10, 0), (11, 0), (12, 2)] mixed rfl (by kernel_rfl) (fun w1 hb1 hh1 => ?_)
 have M1 := M0.drew hb1 hh1
 refine aX rfl rfl rfl (fun _ => aH (.pointer _) rfl) (aX rfl rfl rfl (fun _ => aH (.pointer _) rfl) (aX rfl rfl rfl (fun _ => bB rfl) (aX rfl rfl rfl (fun _ => aD 1 aAa rfl) (bV rfl rfl rfl (aM 0 (.slice _ _ _) fQ M1 rfl rfl rfl) (aX rfl rfl rfl (fun _ => aH (.pointer _) rfl) ?_)))))
 refine aX rfl rfl rfl (fun _ => bB rfl) (aX rfl rfl rfl (fun _ => aD 2 zZ rfl) (bV rfl rfl rfl (aM 0 (.slice _ _ _) rI M1 rfl rfl rfl) (dS [true, true] rfl (by kernel_rfl) (bZ bLi rfl rfl (aSz _ vr.A vr.n vr.c ys (RV.memY M1 hdV) hs hb hn lr.A lr.n lr.c cs (RL.memY M1 hdL) hcs hmc) ?_))))
 rintro v2 w2 ⟨r, rfl, hr, hM2⟩
 have M2 : Mem _ _ [_, _] _ := M1.call0 hM2
 refine aB (aC ⟨dT, ?_⟩)
 refine aX rfl rfl rfl (fun _ => bO (.slice _ _ _) rfl rfl) (aX rfl rfl rfl (fun _ => bO (.bool _) rfl rfl) (dS [] rfl (by kernel_rfl) (bZ aWt rfl rfl (aOc _ bs vr lr tt mm cl A n c r _ (M2.ownSeg 0 1)) ?_)))
 rintro v3 w3 ⟨rfl, hM3⟩
 have M3 : Mem _ _ [_, _] _ := M2.seg 0 1 hM3
 refine aB (aC ⟨dT, ?_⟩)
 refine bY (kR ?_)
 exact ⟨rfl, r, hr, M3⟩
set_option maxHeartbeats 4000000 in
theorem bDf (w : World) (bs : Nat) (vr lr : Row) (tt mm : Int) (cl : Bool) (A : Option Addr) (n c : Nat) (xs : List Body) (R : Rd w 10 A n (xs.map aF)) (ys : List Body) (cs : List Con) (RV : Rd w 10 vr.A vr.n (ys.map aF)) (RL : Rd w 5 lr.A lr.n (cs.map cG)) (hs : cS xs) (hb : ∀ b ∈ xs, Okb b) (hb2 : ∀ b ∈ ys, Okb b) (hn : n ≤ 1048576) (hvn : vr.n = n) (hcs : ∀ c ∈ cs, OkC xs c) (hmc : lr.n ≤ 1073741824) (hsh : xs.map (jG xs cs) = ys.map (jG xs cs)) (hG : ∀ b ∈ ys, (-1152921504606846976 ≤ (jG xs cs b).1 ∧ (jG xs cs b).1 ≤ 1152921504606846976) ∧ -1152921504606846976 ≤ (jG xs cs b).2 ∧ (jG xs cs b).2 ≤ 1152921504606846976) (hO : Own [(some bs, bc [.slice A n c, .slice vr.A vr.n vr.c, .slice lr.A lr.n lr.c, .int .i64 tt, .int .i64 mm, .bool cl] 84)] w) (hdA : 0 < n → ∀ q off, A = some ⟨q, off, none⟩ → q ∉ cY [(some bs, bc [.slice A n c, .slice vr.A vr.n vr.c, .slice lr.A lr.n lr.c, .int .i64 tt, .int .i64 mm, .bool cl] 84)]) (hdV : 0 < vr.n → ∀ q off, vr.A = some ⟨q, off, none⟩ → q ∉ cY [(some bs, bc [.slice A n c, .slice vr.A vr.n vr.c, .slice lr.A lr.n lr.c, .int .i64 tt, .int .i64 mm, .bool cl] 84)]) (hdL : 0 < lr.n → ∀ q off, lr.A = some ⟨q, off, none⟩ → q ∉ cY [(some bs, bc [.slice A n c, .slice vr.A vr.n vr.c, .slice lr.A lr.n lr.c, .int .i64 tt, .int .i64 mm, .bool cl] 84)]) :
  Calls Tryz.prog 43 #[.pointer (some ⟨bs, 0, none⟩)] w (fun ex w' => ∃ v, ex = .returned v ∧ (fun v w' => v = .tuple #[] ∧ ∃ r : Row, bH 40 10 r.A r.n r.c ((aQk xs cs ys).map aF) r.e ∧ Mem w (cY [(some bs, bc [.slice A n c, .slice vr.A vr.n vr.c, .slice lr.A lr.n lr.c, .int .i64 tt, .int .i64 mm, .bool cl] 84)]) [(some bs, bc [.slice A n c, .slice r.A r.n r.c, .slice lr.A lr.n lr.c, .int .i64 tt, .int .i64 mm, .bool (cl || aRr xs cs ys)] 84), r.e] w') v w') := by
 have hlen : xs.length = n := by simpa using R.len
 refine aI #[] 20 Tryz.func43 rfl Tryz.results43 Tryz.ntmps43 rfl ?_
 have M0 := hO.mem
 refine bR [(0, 0), (1, 0), (2, 0), (3, 0), (4, 1), (5, 0), (6, 0), (7, 0), (8, 1), (9, 0), (10, 0), (11, 0), (12, 1), (13, 2), (14, 2), (15, 0), (16, 0), (17, 2)] mixed rfl (by kernel_rfl) (fun w1 hb1 hh1 => ?_)
 have M1 := M0.drew hb1 hh1
 refine aX rfl rfl rfl (fun _ => aH (.pointer _) rfl) (aX rfl rfl rfl (fun _ => aH (.pointer _) rfl) (aX rfl rfl rfl (fun _ => bB rfl) (aX rfl rfl rfl (fun _ => aD 1 aAa rfl) (bV rfl rfl rfl (aM 0 (.slice _ _ _) fQ M1 rfl rfl rfl) (aX rfl rfl rfl (fun _ => aH (.pointer _) rfl) ?_)))))
 refine aX rfl rfl rfl (fun _ => bB rfl) (aX rfl rfl rfl (fun _ => aD 0 aHz rfl) (bV rfl rfl rfl (aM 0 (.slice _ _ _) fQ M1 rfl rfl rfl) (aX rfl rfl rfl (fun _ => aH (.pointer _) rfl) (aX rfl rfl rfl (fun _ => bB rfl) (aX rfl rfl rfl (fun _ => aD 2 zZ rfl) ?_)))))
 refine bV rfl rfl rfl (aM 0 (.slice _ _ _) rI M1 rfl rfl rfl) (dS [true, true, false] rfl (by kernel_rfl) (bZ bMc rfl rfl (aOg _ A n c xs (R.memY M1 hdA) hs hb hn lr.A lr.n lr.c cs (RL.memY M1 hdL) hcs hmc) ?_))
 rintro v2 w2 ⟨⟨qA, qn, qc, qe⟩, rfl, hq, hM2⟩
 have hqn : xs.length = qn := by simpa using hq.1
 obtain rfl : qn = vr.n := by omega
 rw [hsh] at hq
 have M2 : Mem _ _ [_, _] _ := M1.call0 hM2
 refine aB (aC ⟨(eD (bL rfl (aM 0 (.slice _ _ _) fQ M2 rfl rfl rfl)) dT), ?_⟩)
 refine dS [true] rfl (by kernel_rfl) (bZ bLj rfl rfl (aYk _ vr.A vr.n vr.c ys (RV.memY M2 hdV) hb2 (by omega) (jG xs cs) hG qA qc (hq.rd M2 (bJ (i := 1) rfl))) ?_)
 rintro v3 w3 ⟨r, rfl, hr, hM3⟩
 have M3 : Mem _ _ [_, _, _] _ := M2.call0 hM3
 refine aB (aC ⟨dT, ?_⟩)
 refine aX rfl rfl rfl (fun _ => bO (.slice _ _ _) rfl rfl) (aX rfl rfl rfl (fun _ => bO (.bool _) rfl rfl) (dS [] rfl (by kernel_rfl) (bZ aWt rfl rfl (aOc _ bs vr lr tt mm cl A n c r _ (M3.ownSeg 0 1)) ?_)))
 rintro v4 w4 ⟨rfl, hM4⟩
 have M4 : Mem _ _ [_, _, _] _ := M3.seg 0 1 hM4
 refine aB (aC ⟨dT, ?_⟩)
 refine bY (kR ?_)
 exact ⟨rfl, r, hr, M4.keep [true, false, true]⟩
theorem aTd {xs : List Body} {cs : List Con} {b b' : Body} (h : SameB b b') : jG xs cs b = jG xs cs b' := by
 unfold jG tQ tT
 rw [h.key, h.mass]
theorem aBi {xs ys zs : List Body} {cs : List Con} (h : Like ys zs) : ys.map (jG xs cs) = zs.map (jG xs cs) := by
 apply List.ext_getElem?
 intro i
 rw [List.getElem?_map, List.getElem?_map]
 by_cases hi : i < ys.length
 ·have h1 : ys[i]? = some ys[i] := List.getElem?_eq_getElem hi
  have h2 : zs[i]? = some (zs[i]'(by rw [h.len]; exact hi)) := List.getElem?_eq_getElem _
  rw [h1, h2]
  exact congrArg some (aTd (h.at_ i _ _ h1 h2)).symm
 ·have hl := h.len
  rw [List.getElem?_eq_none (show ys.length ≤ i by omega), List.getElem?_eq_none (show zs.length ≤ i by omega)]
theorem aRj {xs : List Body} {cs : List Con} (hs : cS xs) (hb : ∀ b ∈ xs, Okb b) (hcs : ∀ c ∈ cs, OkC xs c) (hl : cs.length ≤ 1073741824) {zs : List Body} (h : Like xs zs) : ∀ b ∈ zs, (-1152921504606846976 ≤ (jG xs cs b).1 ∧ (jG xs cs b).1 ≤ 1152921504606846976) ∧ -1152921504606846976 ≤ (jG xs cs b).2 ∧ (jG xs cs b).2 ≤ 1152921504606846976 := fun b hbm => by
 have hm : jG xs cs b ∈ zs.map (jG xs cs) := List.mem_map_of_mem hbm
 rw [← aBi h] at hm
 obtain ⟨x, hx, e⟩ := List.mem_map.1 hm
 rw [← e]
 have := zY hs hb hcs rfl hl cs.length hx
 rwa [List.take_of_length_le (Nat.le_refl _)] at this
set_option maxHeartbeats 16000000 in
theorem aUu (w : World) (F : Rd w 2 (some ⟨0, 0, none⟩) 1 [[.int .u32 73856093, .int .u32 19349663]]) (N : Rd w 4 (some ⟨3, 0, none⟩) 1 [eQ lG]) (A : Option Addr) (n c : Nat) (xs : List Body) (R : Rd w 10 A n (xs.map aF)) (hb : ∀ b ∈ xs, Okb b) (hs : cS xs) (hn : n ≤ 4096) :
  Calls Tryz.prog 16 #[.slice A n c] w (fun ex w' => ∃ v, ex = .returned v ∧ (fun v w' => ∃ (r : Row) (t : Nat), v = .tuple #[.slice r.A r.n r.c, .agg [.int .i64 (t : Int), .int .i64 ((lL xs).length : Int), .bool (uH xs)].toArray] ∧ (lL xs).length ≤ t ∧ 2 * t ≤ xs.length * (xs.length - 1) ∧ bH 40 10 r.A r.n r.c ((rM xs).map aF) r.e ∧ Mem w [] [r.e] w') v w') := by
 have hlen : xs.length = n := by simpa using R.len
 have hnn : xs.length * xs.length ≤ 4096 * 4096 := Nat.mul_le_mul (by omega) (by omega)
 have hcl := aBf xs
 have hsq := aRf (xs := xs)
 refine aI #[.tmp 2, .cell 3 27] 26 Tryz.func16 rfl Tryz.results16 Tryz.ntmps16 rfl ?_
 have M0 := Mem.refl w
 refine aE (aA (eN rfl rfl (aV aEd M0 rfl rfl (fun b1 w1 M1 => (aB (aC (aE (aA (dN rfl rfl (wq (cP [(0, .slice _ _ _)] _ bAd rfl rfl) rfl ?_))))))))))
 refine bP (.agg (List.toArray _)) M1 rfl rfl rfl (fun b2 w2 M2 => (wq (aJ (.pointer _) rfl) rfl (aB (aC (aE (aE (aA (wq (rH [.func _ _ _, .func _ _ _, .func _ _ _, .func _ _ _] aMc bHb rfl rfl (dE rfl)) rfl (aO rfl rfl (aB (aC (aQ ?_))))))))))))
 refine iL 5 (fG (aE (aA (cX rfl rfl rfl rfl (jB 12 rfl (by first | decide | omega) (aB (aC (aE (cC rfl ?_)))))))))
 refine aL (aC (aE (aQ (aE (aA (wq (xZ 0 (.func _ _ _) aMc aQr rfl rfl (by decide) (by decide) rfl rfl) rfl (wq (aJ (.func _ _ _) rfl) rfl (aB (aC (aA (wq (aH (.func _ _ _) rfl) rfl (wq (aH (.pointer _) rfl) rfl ?_))))))))))))
 refine bZ bLp rfl rfl (bCm _ (F.mem M2) (N.mem M2) b2 hJ hJ 0 0 false A n c xs (R.mem M2) hb hs hn (M2.ownSeg 1 1) (M2.away 1 1 R (by simp)) (M2.away 1 1 F (by simp)) (M2.away 1 1 N (by simp))) ?_
 rintro v3 w3 ⟨rfl, r, tm, ht1, ht2, hr, hM3⟩
 have M3 : Mem _ _ [_, _, _] _ := M2.seg 1 1 hM3
 have hrn : (lL xs).length = r.n := by simpa using hr.1
 refine aB (cO (aC (aA (wq (aY rfl rfl (by first | decide | omega) (by first | decide | omega)) rfl (aK 17 (.int .i64 1) (iE (by first | decide | omega)) (aO rfl rfl ?_))))))
 refine aB (aC (fG (aE (aA (cX rfl rfl rfl rfl (jB 12 rfl (by first | decide | omega) (aB (aC (aE ?_)))))))))
 refine cC rfl (aL (aC (aE (aQ (aE (aA (wq (xZ 1 (.func _ _ _) aMc aQr rfl rfl (by decide) (by decide) rfl rfl) rfl (wq (aJ (.func _ _ _) rfl) rfl (aB (aC (aA (wq (aH (.func _ _ _) rfl) rfl ?_))))))))))))
 refine wq (aH (.pointer _) rfl) rfl (bZ bLr rfl rfl (bCf _ b2 hJ r (tm : Int) (r.n : Int) false A n c xs (R.mem M3) hb (by omega) (M3.ownSeg 1 1) (M3.away 1 1 R (by simp))) ?_)
 rintro v4 w4 ⟨rfl, g, hg, hM4⟩
 have M4 : Mem _ _ [_, _, _, _] _ := M3.seg 1 1 hM4
 have hgn : (oY xs).length = g.n := by simpa using hg.1
 have hgl := (jX xs).len
 refine aB (cO (aC (aA (wq (aY rfl rfl (by first | decide | omega) (by first | decide | omega)) rfl (aK 17 (.int .i64 2) (iE (by first | decide | omega)) (aO rfl rfl ?_))))))
 refine aB (aC (fG (aE (aA (cX rfl rfl rfl rfl (jB 12 rfl (by first | decide | omega) (aB (aC (aE ?_)))))))))
 refine cC rfl (aL (aC (aE (aQ (aE (aA (wq (xZ 2 (.func _ _ _) aMc aQr rfl rfl (by decide) (by decide) rfl rfl) rfl (wq (aJ (.func _ _ _) rfl) rfl (aB (aC (aA (wq (aH (.func _ _ _) rfl) rfl ?_))))))))))))
 refine wq (aH (.pointer _) rfl) rfl (bZ bKn rfl rfl (aWx _ b2 g r (tm : Int) (r.n : Int) _ A n c (oY xs) (lL xs) (hg.rd M4 (bJ (i := 3) rfl)) (hr.rd M4 (bJ (i := 2) rfl)) ((jX xs).sorted hs) (wA hb) (by omega) (fun c h => (jX xs).okc (pW hs hb c h)) (by omega) (M4.ownSeg 1 1) (hg.awayB M4 3 1 rfl rfl rfl) (hr.awayB M4 2 1 rfl rfl rfl)) ?_)
 rintro v5 w5 ⟨rfl, s, hsv, hM5⟩
 have M5 : Mem _ _ [_, _, _, _, _] _ := M4.seg 1 1 hM5
 have hsn : (kV xs).length = s.n := by have h := hsv.1; rwa [List.length_map] at h
 have hlk : Like xs (kV xs) := (jX xs).trans (iQ _ _ 4)
 have hsl := hlk.len
 refine aB (cO (aC (aA (wq (aY rfl rfl (by first | decide | omega) (by first | decide | omega)) rfl (aK 17 (.int .i64 3) (iE (by first | decide | omega)) (aO rfl rfl ?_))))))
 refine aB (aC (fG (aE (aA (cX rfl rfl rfl rfl (jB 12 rfl (by first | decide | omega) (aB (aC (aE ?_)))))))))
 refine cC rfl (aL (aC (aE (aQ (aE (aA (wq (xZ 3 (.func _ _ _) aMc aQr rfl rfl (by decide) (by decide) rfl rfl) rfl (wq (aJ (.func _ _ _) rfl) rfl (aB (aC (aA (wq (aH (.func _ _ _) rfl) rfl ?_))))))))))))
 refine wq (aH (.pointer _) rfl) rfl (bZ bKr rfl rfl (bDf _ b2 s r (tm : Int) (r.n : Int) _ A n c xs (R.mem M5) (kV xs) (lL xs) (hsv.rd M5 (bJ (i := 4) rfl)) (hr.rd M5 (bJ (i := 2) rfl)) hs hb (pX (wA hb) 4) (by omega) (by omega) (pW hs hb) (by omega) (aBi hlk) (aRj hs hb (pW hs hb) (by omega) hlk) (M5.ownSeg 1 1) (M5.away 1 1 R (by simp)) (hsv.awayB M5 4 1 rfl rfl rfl) (hr.awayB M5 2 1 rfl rfl rfl)) ?_)
 rintro v6 w6 ⟨rfl, m, hm, hM6⟩
 have M6 : Mem _ _ [_, _, _, _, _, _] _ := M5.seg 1 1 hM6
 refine aB (cO (aC (aA (wq (aY rfl rfl (by first | decide | omega) (by first | decide | omega)) rfl (aK 17 (.int .i64 4) (iE (by first | decide | omega)) (aO rfl rfl ?_))))))
 refine aB (aC (fG (aE (aA (cX rfl rfl rfl rfl (pA 12 rfl (by first | decide | omega) (aB (aC (aE ?_)))))))))
 refine cM rfl (cV (dD (dD (eO (aC (aE (bR [(0, 0), (1, 0), (2, 0), (3, 1), (4, 0), (5, 0), (6, 0), (7, 1), (8, 0), (9, 2)] mixed rfl (by kernel_rfl) (fun w7 hb7 hh7 => ?_))))))))
 have M7 := M6.drew hb7 hh7
 refine aX rfl rfl rfl (fun _ => aH (.pointer _) rfl) (aX rfl rfl rfl (fun _ => bB rfl) (aX rfl rfl rfl (fun _ => aD 1 aAa rfl) (bV rfl rfl rfl (aM 1 (.slice _ _ _) fQ M7 rfl rfl rfl) (aX rfl rfl rfl (fun _ => aH (.pointer _) rfl) (aX rfl rfl rfl (fun _ => bB rfl) ?_)))))
 refine aX rfl rfl rfl (fun _ => aD 3 sU rfl) (bV rfl rfl rfl (nQ 1 _ wE M7 rfl rfl rfl rfl) (aX rfl rfl rfl (fun _ => aJ (.slice _ _ _) rfl) (dS [true, true] rfl (by kernel_rfl) (bG 0 _ wE M7 rfl rfl rfl rfl rfl (aT rfl) rfl (fun w8 M8 => ?_)))))
 refine aB (aC ⟨dT, ?_⟩)
 refine bY (aC (aP (bKs (.slice _ _ _) 0 wE M8 rfl rfl rfl rfl ?_)))
 exact ⟨m, tm, rN rfl (by rw [hrn]; show Value.agg _ = _; rw [show uH xs = (((false || xs.any lF) || (gL (oY xs) (lL xs) 4).2) || aRr xs (lL xs) (kV xs)) by unfold uH; rw [Bool.false_or]]; rfl), by omega, ht2, hm, M8.keep [false, false, false, false, false, true]⟩
theorem aTr {a b : Int} {p : Nat} (ha : 0 ≤ a) (hp : a.natAbs * b.natAbs = p) : (if decide (b < 0) = true then (if 0 < p % 65536 then -((p / 65536 : Nat) : Int) - 1 else -((p / 65536 : Nat) : Int)) else ((p / 65536 : Nat) : Int)) = a * b / 65536 := by
 have e : a.natAbs * b.natAbs = (a * b).natAbs := (Int.natAbs_mul a b).symm
 rw [e] at hp
 by_cases h : b < 0
 ·have hs : a * b ≤ 0 := Int.mul_nonpos_of_nonneg_of_nonpos ha (by omega)
  rw [if_pos (decide_eq_true h)]
  split <;> omega
 ·have hs : 0 ≤ a * b := Int.mul_nonneg ha (by omega)
  rw [if_neg (by rw [decide_eq_true_eq]; exact h)]
  omega
set_option maxHeartbeats 4000000 in
theorem jR (w : World) (a l : Int) (hl : 0 ≤ l ∧ l ≤ 2147483648) :
  Calls Tryz.prog 76 #[.int .i64 a, .int .i64 l] w (fun ex w' => ∃ v, ex = .returned v ∧ (fun v w' => v = .int .i64 (iI a l) ∧ Below w.heap.size w w') v w') := by
 refine aI #[.tmp 4] 16 Tryz.func76 rfl Tryz.results76 Tryz.ntmps76 rfl ?_
 have M0 := Mem.refl w
 refine aE (aA (bC rfl rfl (aB (aC (aE (aE (aA (aO rfl rfl (aO rfl rfl (cX rfl rfl rfl rfl ?_))))))))))
 refine aB (aC ?_)
 refine aS rfl (fun h7 => ?_) (fun h7 => ?_)
 ·refine aE (aA (aO rfl rfl (bC rfl rfl (aB (aC (aP (cH (cE (.int _ _) rfl ?_))))))))
  exact ⟨iE (by unfold iI; omega), M0.below⟩
 ·refine aL (aC (aE (aE (aA (aO rfl rfl (aO rfl rfl (wq (pG rfl (fC _ (by omega) (by omega))) rfl (cX rfl rfl rfl rfl (aB (aC ?_))))))))))
  refine aS rfl (fun h12 => ?_) (fun h12 => ?_)
  ·refine aE (aA (aO rfl rfl (wq (pG rfl (fC _ (by omega) (by omega))) rfl (bC rfl rfl (aB (aC (aP (cH (cE (.int _ _) rfl ?_)))))))))
   exact ⟨iE (by unfold iI; omega), M0.below⟩
  ·refine aL (aC (aE (aA (aO rfl rfl (bC rfl rfl (aB (aC (aP (cE (.int _ _) rfl ?_)))))))))
   exact ⟨iE (by unfold iI; omega), M0.below⟩
set_option maxHeartbeats 8000000 in
theorem sN (w : World) (a b : Int) (ha : 0 ≤ a) (ha2 : a ≤ 4611686018427387904) (hb0 : -4611686018427387904 ≤ b) (hb1 : b ≤ 4611686018427387904) (hp : -8796093022208 ≤ a * b ∧ a * b ≤ 8796093022208) :
  Calls Tryz.prog 184 #[.int .i64 a, .int .i64 b, .int .i64 16] w (fun ex w' => ∃ v, ex = .returned v ∧ (fun v w' => v = .tuple #[.int .i64 (a * b / 65536), .int .i64 0] ∧ Below w.heap.size w w') v w') := by
 obtain ⟨p, hpp⟩ : ∃ p, a.natAbs * b.natAbs = p := ⟨_, rfl⟩
 have hpl : p ≤ 8796093022208 := by have e := Int.natAbs_mul a b; omega
 refine aI #[.tmp 6, .tmp 7] 52 Tryz.func184 rfl Tryz.results184 Tryz.ntmps184 rfl ?_
 have M0 := Mem.refl w
 refine aE (aA (bC rfl rfl (bC rfl rfl (aB (aC (aE (aE (aA (aO rfl rfl (cX rfl rfl rfl rfl ?_))))))))))
 refine pA 16 rfl (by first | decide | omega) (wq (aH (.bool false) rfl) rfl (aO rfl rfl (cX rfl rfl rfl rfl (pA 19 rfl (by first | decide | omega) (wq (bM false (.bool false) rfl rfl) rfl ?_)))))
 refine aB (aC (cM rfl (aL (aC (aE (aA (bC rfl rfl (aB (aC (aE (aE (aA (bC rfl rfl ?_)))))))))))))
 refine aB (aC (aQ (dQ (σ := Nat) [0, 1, 2, 6, 7] (fun k => [(8, .int .u64 ((2 ^ k : Nat) : Int)), (9, .int .i64 (k : Int))]) (fun k w' => k ≤ 16 ∧ Mem w [] [] w') (fun k => 16 - k) 0 (bA (iE rfl) (bA rfl dX)) (⟨by omega, M0⟩) ?_)))
 rintro k ρ1 w1 ⟨hk, hM1⟩
 refine aE (aE (aA (aO rfl rfl (aO rfl rfl (cX rfl rfl rfl rfl (aB (aC ?_)))))))
 refine aS rfl (fun h23 => ?_) (fun h23 => ?_)
 ·have hpw : 2 ^ k ≤ 2 ^ 15 := Nat.pow_le_pow_right (by omega) (by omega)
  refine aL (aC (aE (aQ (aA (aO rfl rfl (wq (cA (.int _ _) rfl rfl rfl) rfl (aK 27 (.int .u64 ((2 ^ (k + 1) : Nat) : Int)) (iE (by rw [fZ, Nat.pow_succ]; omega)) (bC rfl rfl (aB ?_)))))))))
  refine cO (aC (aA (aO rfl rfl (wq (aY rfl rfl (by omega) (by omega)) rfl (bC rfl rfl (aB ?_))))))
  refine cD (k + 1) (bA (iE rfl) (bA rfl dX)) (cL rfl (cL rfl (cL rfl (cL rfl (cL rfl gO))))) ?_ ?_
  ·exact ⟨by omega, hM1⟩
  ·omega
 ·have hk16 : k = 16 := by omega
  subst hk16
  refine cV (dD (dK (eO (aC (aE (aA (aO rfl rfl ?_)))))))
  refine aO rfl rfl (bZ aVi rfl rfl (uB _ a b (by omega) (by omega) (by omega) (by omega)) ?_)
  rintro v2 w2 ⟨D, rfl, hD8, hDd, hDv, hb2⟩
  have M2 := hM1.callB hb2
  obtain ⟨d0, d1, d2, d3, d4, d5, d6, d7, rfl⟩ := bFh hD8
  rw [hpp] at hDv
  refine aO rfl rfl (bZ bAi rfl rfl (wK _ d0 d1 d2 d3 d4 d5 d6 d7 hDd 65536 (by omega) (by omega) (by rw [hDv]; omega) (by rw [hDv]; omega)) ?_)
  rintro v3 w3 ⟨rfl, hb3⟩
  have M3 := M2.callB hb3
  refine wq (aH (.tuple (List.toArray _)) rfl) rfl (wq (bO (.int _ _) rfl rfl) rfl (aK 34 (.int .u64 ((p / 65536 : Nat) : Int)) (iE (by rw [hDv])) (wq (bO (.int _ _) rfl rfl) rfl (aK 35 (.int .u64 ((p % 65536 : Nat) : Int)) (iE (by rw [hDv])) (wq (bO (.bool true) rfl rfl) rfl ?_)))))
  refine bC rfl rfl (bC rfl rfl (wq (aJ (.bool true) rfl) rfl (aB (aC (aE (aA (aO rfl rfl (aO rfl rfl ?_))))))))
  refine wq (aH (.bool true) rfl) rfl (aO rfl rfl (cX rfl rfl rfl rfl (pA 42 rfl (by omega) (aO rfl rfl (cX rfl rfl rfl rfl ?_)))))
  refine wq (qL _ Tryz.underlying4 rfl rfl rfl) rfl (aK 45 (.bool (decide (b < 0))) (bv rfl (by simp)) (bZ aYs rfl rfl (zL _ (p / 65536) (p % 65536) (decide (b < 0)) (by omega)) ?_))
  rintro v4 w4 ⟨rfl, hb4⟩
  have M4 := M3.callB hb4
  refine wq (aH (.tuple (List.toArray _)) rfl) rfl (wq (bO (.int _ _) rfl rfl) rfl (wq (bO (.bool true) rfl rfl) rfl (bC rfl rfl (wq (aJ (.bool true) rfl) rfl (aB (aC (aE (aE (aA ?_)))))))))
  refine wq (aH (.bool true) rfl) rfl (wq (iD false rfl rfl) rfl (aB (aC (cM rfl (aL (aC (aE (aA (aO rfl rfl ?_)))))))))
  refine bC rfl rfl (bC rfl rfl (aB (aC (aP (gA (.int _ _) (.int _ _) rfl rfl ?_)))))
  exact ⟨rN (iE (aTr ha hpp)) rfl, M4.below⟩
set_option maxHeartbeats 4000000 in
theorem aCz (w : World) (c : Con) (a b : Body) (hc : Okn c) (ha : Okb a) (hb : Okb b) :
  Calls Tryz.prog 183 #[.agg (cG c).toArray, (.agg (aF a).toArray), (.agg (aF b).toArray)] w (fun ex w' => ∃ v, ex = .returned v ∧ (fun v w' => v = .int .i64 (uS c a b) ∧ Below w.heap.size w w') v w') := by
 have hr := wS hc ha hb
 have hv1 := ha.v
 have hv2 := hb.v
 have hx := hc.x
 have hy := hc.y
 refine aI #[.tmp 6] 41 Tryz.func183 rfl Tryz.results183 Tryz.ntmps183 rfl ?_
 have M0 := Mem.refl w
 refine aE (aA (bP (.agg (List.toArray _)) M0 rfl rfl rfl (fun b1 w1 M1 => (bP (.agg (List.toArray _)) M1 rfl rfl rfl (fun b2 w2 M2 => (bP (.agg (List.toArray _)) M2 rfl rfl rfl (fun b3 w3 M3 => (bC rfl rfl (aB (aC (aE (aA ?_))))))))))))
 refine wq (aD 8 dP rfl) rfl (wq (aD 0 cQ rfl) rfl (wq (aM 2 (.int _ _) aR M3 rfl rfl rfl) rfl (wq (aZ dO Tryz.underlying2 rfl (fC _ (by omega) (by omega))) rfl (wq (aD 8 dP rfl) rfl (wq (aD 0 cQ rfl) rfl ?_)))))
 refine wq (aM 1 (.int _ _) aR M3 rfl rfl rfl) rfl (wq (aZ dO Tryz.underlying2 rfl (fC _ (by omega) (by omega))) rfl (wq (fX rfl rfl (by omega) (by omega)) rfl (wq (aD 2 gP rfl) rfl (wq (aD 0 cQ rfl) rfl (wq (aM 0 (.int _ _) aR M3 rfl rfl rfl) rfl ?_)))))
 refine wq (aZ dO Tryz.underlying2 rfl (fC _ (by omega) (by omega))) rfl (wq (eS rfl rfl (by omega) (by omega)) rfl (bC rfl rfl (aB (aC (aE (aA (wq (aD 8 dP rfl) rfl (wq (aD 1 cK rfl) rfl ?_))))))))
 refine wq (aM 2 (.int _ _) aR M3 rfl rfl rfl) rfl (wq (aZ dO Tryz.underlying2 rfl (fC _ (by omega) (by omega))) rfl (wq (aD 8 dP rfl) rfl (wq (aD 1 cK rfl) rfl (wq (aM 1 (.int _ _) aR M3 rfl rfl rfl) rfl (wq (aZ dO Tryz.underlying2 rfl (fC _ (by omega) (by omega))) rfl ?_)))))
 refine wq (fX rfl rfl (by omega) (by omega)) rfl (wq (aD 2 gP rfl) rfl (wq (aD 1 cK rfl) rfl (wq (aM 0 (.int _ _) aR M3 rfl rfl rfl) rfl (wq (aZ dO Tryz.underlying2 rfl (fC _ (by omega) (by omega))) rfl (wq (eS rfl rfl (by omega) (by omega)) rfl ?_)))))
 refine bC rfl rfl (aB (aC (aE (aA (aO rfl rfl (aO rfl rfl (wq (aY rfl rfl (by omega) (by omega)) rfl (bZ nH rfl rfl (eT _ _ 65536 (by decide) (by omega) (by omega)) ?_))))))))
 rintro v4 w4 ⟨rfl, hb4⟩
 have M4 := M3.callB hb4
 refine bC rfl rfl (aB (aC (aP (cE (.int _ _) rfl ?_))))
 exact ⟨rfl, M4.below⟩
set_option maxHeartbeats 4000000 in
theorem sD (w : World) (c : Con) (a b : Body) (hc : Okn c) (ha : Okb a) (hb : Okb b) :
  Calls Tryz.prog 148 #[.agg (cG c).toArray, (.agg (aF a).toArray), (.agg (aF b).toArray)] w (fun ex w' => ∃ v, ex = .returned v ∧ (fun v w' => v = .int .i64 (jZ c a b) ∧ Below w.heap.size w w') v w') := by
 have hr := wS hc ha hb
 have hm1 := ha.m
 have hm2 := hb.m
 have hc1 := ha.c
 have hc2 := hb.c
 refine aI #[.tmp 6] 38 Tryz.func148 rfl Tryz.results148 Tryz.ntmps148 rfl ?_
 have M0 := Mem.refl w
 refine aE (aA (bP (.agg (List.toArray _)) M0 rfl rfl rfl (fun b1 w1 M1 => (bP (.agg (List.toArray _)) M1 rfl rfl rfl (fun b2 w2 M2 => (bP (.agg (List.toArray _)) M2 rfl rfl rfl (fun b3 w3 M3 => (bC rfl rfl (aB (aC (aE (aA ?_))))))))))))
 refine wq (aU 0 eL M3 rfl rfl rfl) rfl (wq (aU 1 bK M3 rfl rfl rfl) rfl (wq (aU 2 bK M3 rfl rfl rfl) rfl (bZ bJi rfl rfl (aCz _ c a b hc ha hb) ?_)))
 rintro v4 w4 ⟨rfl, hb4⟩
 have M4 := M3.callB hb4
 refine bC rfl rfl (aB (aC (aE (aA (wq (aD 4 eC rfl) rfl (wq (aM 1 (.int _ _) aR M4 rfl rfl rfl) rfl (wq (aZ dO Tryz.underlying2 rfl (fC _ (by omega) (by omega))) rfl (wq (aD 4 eC rfl) rfl ?_))))))))
 refine wq (aM 2 (.int _ _) aR M4 rfl rfl rfl) rfl (wq (aZ dO Tryz.underlying2 rfl (fC _ (by omega) (by omega))) rfl (wq (aY rfl rfl (by omega) (by omega)) rfl (bC rfl rfl (aB (aC (aE (aE (aA (aO rfl rfl ?_)))))))))
 refine cX rfl rfl rfl rfl (wq (aH (.bool (decide _)) rfl) rfl ?_)
 refine dI 22 rfl (fun g22 => ?_) (fun g22 => ?_)
 ·refine aN rfl rfl (aN rfl rfl (wq (bM true (.bool true) rfl rfl) rfl (aB (aC (cC rfl (aE (aA ?_)))))))
  refine bC rfl rfl (aB (aC (aP (cH (cE (.int _ _) rfl ?_)))))
  exact ⟨iE (by unfold jZ; rw [if_pos (.inl (by omega))]), M4.below⟩
 ·refine aO rfl rfl (cX rfl rfl rfl rfl (wq (bM false (.bool (decide _)) rfl rfl) rfl (aB (aC ?_))))
  refine aS rfl (fun h25 => ?_) (fun h25 => ?_)
  ·refine aE (aA (bC rfl rfl (aB (aC (aP (cH (cE (.int _ _) rfl ?_)))))))
   exact ⟨iE (by unfold jZ; rw [if_pos (.inr (by omega))]), M4.below⟩
  ·have hsp := aBz hc ha hb (by omega)
   refine aL (aC (aE (aA (aO rfl rfl (wq (pG rfl (fC _ (by omega) (by omega))) rfl (wq (aD 5 mK rfl) rfl (wq (aM 1 (.int _ _) aR M4 rfl rfl rfl) rfl (wq (aD 5 mK rfl) rfl ?_))))))))
   refine wq (aM 2 (.int _ _) aR M4 rfl rfl rfl) rfl (wq (pE rfl rfl ) rfl (wq (aZ dO Tryz.underlying2 rfl (fC _ (by omega) (by omega))) rfl (aK 33 (.int .i64 (max a.bounce b.bounce)) (iE (by first | rfl | omega)) (wq (aY rfl rfl (by omega) (by omega)) rfl (wq (eS rfl rfl (by omega) (by omega)) rfl ?_)))))
   refine aO rfl rfl (bZ nH rfl rfl (eT _ (-uS c a b * (65536 + max a.bounce b.bounce)) (a.mass + b.mass) (by omega) (by omega) (by omega)) ?_)
   rintro v5 w5 ⟨rfl, hb5⟩
   have M5 := M4.callB hb5
   refine bC rfl rfl (aB (aC (aP (cE (.int _ _) rfl ?_))))
   exact ⟨iE (by unfold jZ; rw [if_neg (fun g => by omega)]), M5.below⟩
set_option maxHeartbeats 4000000 in
theorem mH (w : World) (j m x : Int) (hj : 0 ≤ j ∧ j ≤ 8796093022208) (hm : 0 ≤ m ∧ m ≤ 1048576) (hp : 0 ≤ j * m ∧ j * m ≤ 8796093022208) (hx : -65536 ≤ x ∧ x ≤ 65536) :
  Calls Tryz.prog 149 #[.int .i64 j, .int .i32 m, .int .i32 x] w (fun ex w' => ∃ v, ex = .returned v ∧ (fun v w' => v = .int .i64 (mP j m x) ∧ Below w.heap.size w w') v w') := by
 have r1 := kG hp hx
 have hkk := r1.1
 refine aI #[.tmp 6] 26 Tryz.func149 rfl Tryz.results149 Tryz.ntmps149 rfl ?_
 have M0 := Mem.refl w
 refine aE (aA (bC rfl rfl (aB (aC (aE (aA (aO rfl rfl (aO rfl rfl (wq (aZ dO Tryz.underlying2 rfl (fC _ (by omega) (by omega))) rfl ?_)))))))))
 refine bZ aYf rfl rfl (sN _ j m (by omega) (by omega) (by omega) (by omega) (by omega)) ?_
 rintro v1 w1 ⟨rfl, hb1⟩
 have M1 := M0.callB hb1
 refine wq (aH (.tuple (List.toArray _)) rfl) rfl (wq (bO (.int _ _) rfl rfl) rfl (wq (bO (.int _ _) rfl rfl) rfl (bC rfl rfl (bC rfl rfl (aB (aC (aE (aA ?_))))))))
 refine aO rfl rfl (aO rfl rfl (wq (aZ dO Tryz.underlying2 rfl (fC _ (by omega) (by omega))) rfl (bZ aYf rfl rfl (sN _ (j * m / 65536) x (by omega) (by omega) (by omega) (by omega) r1.2.1) ?_)))
 rintro v2 w2 ⟨rfl, hb2⟩
 have M2 := M1.callB hb2
 refine wq (aH (.tuple (List.toArray _)) rfl) rfl (wq (bO (.int _ _) rfl rfl) rfl (wq (bO (.int _ _) rfl rfl) rfl (bC rfl rfl (bC rfl rfl (aB (aC (aE (aA ?_))))))))
 refine aO rfl rfl (bC rfl rfl (aB (aC (aP (cE (.int _ _) rfl ?_)))))
 exact ⟨rfl, M2.below⟩
def pI (s : Bool) (c : Con) : Int := cond s c.ny c.nx
theorem aQp {s : Bool} {c : Con} (h : Okn c) : -65536 ≤ pI s c ∧ pI s c ≤ 65536 := by cases s; exact h.x; exact h.y
theorem tO {xs : List Body} {b xa xb : Body} (hs : cS xs) (ha : xa ∈ xs) (hb : xb ∈ xs) (h : b ∈ xs) (hm : 0 ≤ xa.mass) (hm2 : 0 ≤ xb.mass) (e : b.key = xa.key ∨ b.key = xb.key) : b.mass ≤ xa.mass + xb.mass := by
 rcases e with e | e
 ·rw [lA hs h ha e]; omega
 ·rw [lA hs h hb e]; omega
set_option maxHeartbeats 8000000 in
theorem aGq (w : World) (A : Option Addr) (n c : Nat) (xs : List Body) (R : Rd w 10 A n (xs.map aF)) (hs : cS xs) (hb : ∀ b ∈ xs, Okb b) (hn : n ≤ 1048576) (B : Option Addr) (mc c' : Nat) (cs : List Con) (R' : Rd w 5 B mc (cs.map cG)) (hcs : ∀ c ∈ cs, OkC xs c) (hmc : mc ≤ 8589934592) (i : Nat) (b : Body) (hxi : xs[i]? = some b) (sec : Bool) :
  Calls Tryz.prog 116 #[.slice A n c, .slice B mc c', .int .i64 (i : Int), .bool sec] w (fun ex w' => ∃ v, ex = .returned v ∧ (fun v w' => v = .int .i64 (gQ xs cs (pI sec) b) ∧ Below w.heap.size w w') v w') := by
 have hlen : xs.length = n := by simpa using R.len
 have hbd := R.bound
 have hclen : cs.length = mc := by simpa using R'.len
 have hbd' := R'.bound
 have hbi := List.mem_of_getElem? hxi
 have hil := (List.getElem?_eq_some_iff.1 hxi).1
 refine aI #[.tmp 8] 98 Tryz.func116 rfl Tryz.results116 Tryz.ntmps116 rfl ?_
 have M0 := Mem.refl w
 refine aE (aA (bC rfl rfl (aB (aC (aE (aA (bC rfl rfl (aB (aC (aE (aE (aA (bC rfl rfl ?_)))))))))))))
 refine aB (aC (aQ (dQ (σ := Nat) [0, 1, 2, 3, 8] (fun k => [(9, .int .i64 (gQ xs (cs.take k) (pI sec) b)), (10, .int .i64 (k : Int))]) (fun k w' => k ≤ mc ∧ Mem w [] [] w') (fun k => mc - k) 0 (bA (iE (aFk _ _ _ _).symm) (bA rfl dX)) (⟨by omega, M0⟩) ?_)))
 rintro k ρ1 w1 ⟨hk, hM1⟩
 refine aE (aE (aA (aO rfl rfl (dN rfl rfl (wq (dB Tryz.underlying82 rfl) rfl (cX rfl rfl rfl rfl (aB (aC ?_))))))))
 refine aS rfl (fun h20 => ?_) (fun h20 => ?_)
 ·obtain ⟨cn, hcn⟩ := cT (xs := cs) (k := k) hclen (by omega)
  have hc := hcs cn (List.mem_of_getElem? hcn)
  have hne := hc.ne
  have hg := aQp (s := sec) hc.n
  have hsr := rK (cs := cs.take k) (g := pI sec) hs hb (fun c h => hcs c (List.mem_of_mem_take h)) (fun c h => aQp (hcs c (List.mem_of_mem_take h)).n) hbi
  have htl := List.length_take_le k cs
  obtain ⟨pa, xa, hxa, hka, hfa⟩ := sW hc.l
  obtain ⟨pb, xb, hxb, hkb, hfb⟩ := sW hc.h
  have hba := xG hxa hfa
  have hbb := xG hxb hfb
  have hma := List.mem_of_getElem? hxa
  have hmb := List.mem_of_getElem? hxb
  have hoa := hb xa hma
  have hob := hb xb hmb
  have qa := hoa.m
  have qb := hob.m
  refine aL (aC (aE (aQ (aE (aA (dN rfl rfl (aO rfl rfl (wq (bN (k) zN rfl rfl rfl ((R'.mem hM1).below_len (aG cG hcn)) ((R'.mem hM1).someK (aG cG hcn))) rfl (wq (dJ _ eL (R'.mem hM1) (aG cG hcn) rfl) rfl (aV lT hM1 rfl rfl (fun b2 w2 M2 => ?_)))))))))))
  refine bG 0 _ eL M2 rfl rfl rfl rfl rfl (aT rfl) rfl (fun w3 M3 => (aB (aC (aE (aE (bR [(0, 0), (1, 0), (2, 1), (3, 0), (4, 0), (5, 1), (6, 1), (7, 1), (8, 0), (9, 0), (10, 0), (11, 0), (12, 1), (13, 0), (14, 0), (15, 1), (16, 1), (17, 1), (18, 0), (19, 0)] mixed rfl (by kernel_rfl) (fun w4 hb4 hh4 => ?_)))))))
  have M4 := M3.drew hb4 hh4
  refine aX rfl rfl rfl (fun _ => aD 0 fI rfl) (aX rfl rfl rfl (fun _ => aD 0 gB rfl) (bV rfl rfl rfl (aM 0 (.int _ _) bU M4 rfl rfl rfl) (kQ rfl rfl rfl (eF rfl rfl rfl (bV rfl rfl rfl (bN (i) dF rfl rfl rfl ((R.mem M4).below_len (aG aF hxi)) ((R.mem M4).someK (aG aF hxi))) ?_)))))
  refine bV rfl rfl rfl (bE 0 dH (R.mem M4) (Nat.lt_of_le_of_lt (Nat.zero_le _) ((R.mem M4).below_len (aG aF hxi))) rfl) (bV rfl rfl rfl (dV (o := 0) (.int _ _) bU (R.mem M4) (aG aF hxi) rfl rfl) (aX rfl rfl rfl (fun _ => cA (.bool (decide _)) rfl rfl rfl) (aX rfl rfl rfl (fun _ => aH (.bool (decide _)) rfl) ?_)))
  refine aDy 36 rfl (fun g36 => ?_) (fun g36 => ?_)
  ·refine aX rfl rfl rfl (fun _ => aD 0 fI rfl) (aX rfl rfl rfl (fun _ => aD 1 jJ rfl) (bV rfl rfl rfl (aM 0 (.int _ _) bU M4 rfl rfl rfl) (kQ rfl rfl rfl (eF rfl rfl rfl (bV rfl rfl rfl (bN (i) dF rfl rfl rfl ((R.mem M4).below_len (aG aF hxi)) ((R.mem M4).someK (aG aF hxi))) ?_)))))
   refine bV rfl rfl rfl (bE 0 dH (R.mem M4) (Nat.lt_of_le_of_lt (Nat.zero_le _) ((R.mem M4).below_len (aG aF hxi))) rfl) (bV rfl rfl rfl (dV (o := 0) (.int _ _) bU (R.mem M4) (aG aF hxi) rfl rfl) (aX rfl rfl rfl (fun _ => cA (.bool (decide _)) rfl rfl rfl) (aX rfl rfl rfl (fun _ => bM true (.bool (decide _)) rfl rfl) ?_)))
   refine bY (aC ?_)
   refine aS rfl (fun h46 => ?_) (fun h46 => ?_)
   ·refine cV (dD (eO (aC (aA (aO rfl rfl (wq (aY rfl rfl (by omega) (by omega)) rfl ?_))))))
    refine bC rfl rfl (aB ?_)
    refine cD (k + 1) (bA (iE (by rw [jK hcn]; unfold ctr; rw [if_neg (by omega), if_neg (by omega)]; omega)) (bA rfl dX)) (cL rfl (cL rfl (cL rfl (cL rfl (cL rfl gO))))) ?_ ?_
    ·exact ⟨by omega, M4.keep [false]⟩
    ·(show mc - (k + 1) < mc - k; omega)
   ·refine aL (aC (aE (aA (dN rfl rfl (dN rfl rfl (wq (aD 0 fI rfl) rfl (wq (aD 0 gB rfl) rfl (wq (aM 0 (.int _ _) bU M4 rfl rfl rfl) rfl ?_))))))))
    refine bZ rA rfl rfl (gM _ cn.low _ _ _ xs (R.mem M4)) ?_
    rintro v5 w5 ⟨rfl, hb5⟩
    have M5 := M4.callB hb5
    refine wq (bN (pa) dF rfl rfl hfa ((R.mem M5).below_len (aG aF hxa)) ((R.mem M5).someK (aG aF hxa))) rfl (wq (dJ _ bK (R.mem M5) (aG aF hxa) rfl) rfl (aV fJ M5 rfl rfl (fun b6 w6 M6 => (bG 1 _ bK M6 rfl rfl rfl rfl rfl (aT rfl) rfl (fun w7 M7 => ?_)))))
    refine aB (aC (aE (aA (dN rfl rfl (dN rfl rfl (wq (aD 0 fI rfl) rfl (wq (aD 1 jJ rfl) rfl (wq (aM 0 (.int _ _) bU M7 rfl rfl rfl) rfl ?_))))))))
    refine bZ rA rfl rfl (gM _ cn.high _ _ _ xs (R.mem M7)) ?_
    rintro v8 w8 ⟨rfl, hb8⟩
    have M8 := M7.callB hb8
    refine wq (bN (pb) dF rfl rfl hfb ((R.mem M8).below_len (aG aF hxb)) ((R.mem M8).someK (aG aF hxb))) rfl (wq (dJ _ bK (R.mem M8) (aG aF hxb) rfl) rfl (aV fJ M8 rfl rfl (fun b9 w9 M9 => (bG 2 _ bK M9 rfl rfl rfl rfl rfl (aT rfl) rfl (fun w10 M10 => ?_)))))
    refine aB (aC (aE (aA (wq (aU 0 eL M10 rfl rfl rfl) rfl (wq (aU 1 bK M10 rfl rfl rfl) rfl (wq (aU 2 bK M10 rfl rfl rfl) rfl (bZ aWp rfl rfl (sD _ cn xa xb hc.n hoa hob) ?_)))))))
    rintro v11 w11 ⟨rfl, hb11⟩
    have M11 := M10.callB hb11
    refine bC rfl rfl (aB (aC (aE (aA (wq (aD 2 gP rfl) rfl (wq (aD 0 cQ rfl) rfl (wq (aM 0 (.int _ _) aR M11 rfl rfl rfl) rfl (bC rfl rfl ?_))))))))
    refine aB (aC (aE (aE (aA (wq (aH (.bool _) rfl) rfl (aB (aC ?_)))))))
    refine iB _ rfl (fun h70 => ?_) (fun h70 => ?_)
    ·refine aA (wq (aD 2 gP rfl) rfl (wq (aD 1 cK rfl) rfl (wq (aM 0 (.int _ _) aR M11 rfl rfl rfl) rfl (bC rfl rfl (aB (aC (aE (aA ?_))))))))
     refine aO rfl rfl (dN rfl rfl (aO rfl rfl (wq (bN (i) dF rfl rfl rfl ((R.mem M11).below_len (aG aF hxi)) ((R.mem M11).someK (aG aF hxi))) rfl (wq (bE 4 eC (R.mem M11) (Nat.lt_of_le_of_lt (Nat.zero_le _) ((R.mem M11).below_len (aG aF hxi))) rfl) rfl (wq (dV (o := 4) (.int _ _) aR (R.mem M11) (aG aF hxi) rfl rfl) rfl ?_)))))
     refine aO rfl rfl (aK 80 (.int .i32 (pI sec cn)) (iE (by rw [h70]; rfl)) (uN aIc rfl rfl rfl ?_))
     have hbm : 0 ≤ b.mass ∧ b.mass ≤ xa.mass + xb.mass := ⟨(hb b hbi).m.1, tO hs hma hmb hbi qa.1 qb.1 (by omega)⟩
     have hst := oX hc.n hoa hob hbm
     have hmq := (hb b hbi).m
     have hcr := (kG hst.2.2 hg).2.2
     have hjv : mP (jZ cn xa xb) b.mass (pI sec cn) = mP (jV xs cn) b.mass (pI sec cn) := by unfold jV; rw [hba, hbb]
     refine (mH _ (jZ cn xa xb) b.mass (pI sec cn) ⟨hst.1, hst.2.1⟩ hmq hst.2.2 hg).mono ?_
     rintro _ w12 ⟨v12, rfl, ⟨rfl, hb12⟩⟩
     refine ⟨_, rfl, ?_⟩
     have M12 := M11.callB hb12
     refine bC rfl rfl (aB (aC (aE (bR [(0, 0), (1, 0), (2, 1), (3, 0), (4, 0), (5, 1), (6, 1), (7, 1), (8, 0)] mixed rfl (by kernel_rfl) (fun w13 hb13 hh13 => ?_)))))
     have M13 := M12.drew hb13 hh13
     refine aX rfl rfl rfl (fun _ => aD 0 fI rfl) (aX rfl rfl rfl (fun _ => aD 0 gB rfl) (bV rfl rfl rfl (aM 0 (.int _ _) bU M13 rfl rfl rfl) (kQ rfl rfl rfl (eF rfl rfl rfl (bV rfl rfl rfl (bN (i) dF rfl rfl rfl ((R.mem M13).below_len (aG aF hxi)) ((R.mem M13).someK (aG aF hxi))) ?_)))))
     refine bV rfl rfl rfl (bE 0 dH (R.mem M13) (Nat.lt_of_le_of_lt (Nat.zero_le _) ((R.mem M13).below_len (aG aF hxi))) rfl) (bV rfl rfl rfl (dV (o := 0) (.int _ _) bU (R.mem M13) (aG aF hxi) rfl rfl) (aX rfl rfl rfl (fun _ => cA (.bool (decide _)) rfl rfl rfl) ?_))
     refine bY (aC ?_)
     refine aS rfl (fun h90 => ?_) (fun h90 => ?_)
     ·refine aA (aO rfl rfl (aO rfl rfl (wq (fX rfl rfl (by omega) (by omega)) rfl (bC rfl rfl (aB ?_)))))
      refine cO (aC (aA (aO rfl rfl (wq (aY rfl rfl (by omega) (by omega)) rfl (bC rfl rfl (aB ?_))))))
      refine cD (k + 1) (bA (iE (by rw [jK hcn]; unfold ctr; rw [if_pos (by omega), ← hjv]; omega)) (bA rfl dX)) (cL rfl (cL rfl (cL rfl (cL rfl (cL rfl gO))))) ?_ ?_
      ·exact ⟨by omega, M13.keep [false, false, false]⟩
      ·(show mc - (k + 1) < mc - k; omega)
     ·refine aA (aO rfl rfl (aO rfl rfl (wq (aY rfl rfl (by omega) (by omega)) rfl (bC rfl rfl (aB ?_)))))
      refine cO (aC (aA (aO rfl rfl (wq (aY rfl rfl (by omega) (by omega)) rfl (bC rfl rfl (aB ?_))))))
      refine cD (k + 1) (bA (iE (by rw [jK hcn]; unfold ctr; rw [if_neg (by omega), if_pos (by omega), ← hjv])) (bA rfl dX)) (cL rfl (cL rfl (cL rfl (cL rfl (cL rfl gO))))) ?_ ?_
      ·exact ⟨by omega, M13.keep [false, false, false]⟩
      ·(show mc - (k + 1) < mc - k; omega)
    ·refine aL (aC (aE (aA (aO rfl rfl (dN rfl rfl (aO rfl rfl (wq (bN (i) dF rfl rfl rfl ((R.mem M11).below_len (aG aF hxi)) ((R.mem M11).someK (aG aF hxi))) rfl (wq (bE 4 eC (R.mem M11) (Nat.lt_of_le_of_lt (Nat.zero_le _) ((R.mem M11).below_len (aG aF hxi))) rfl) rfl ?_))))))))
     refine wq (dV (o := 4) (.int _ _) aR (R.mem M11) (aG aF hxi) rfl rfl) rfl (aO rfl rfl (aK 80 (.int .i32 (pI sec cn)) (iE (by rw [h70]; rfl)) (uN aIc rfl rfl rfl ?_)))
     have hbm : 0 ≤ b.mass ∧ b.mass ≤ xa.mass + xb.mass := ⟨(hb b hbi).m.1, tO hs hma hmb hbi qa.1 qb.1 (by omega)⟩
     have hst := oX hc.n hoa hob hbm
     have hmq := (hb b hbi).m
     have hcr := (kG hst.2.2 hg).2.2
     have hjv : mP (jZ cn xa xb) b.mass (pI sec cn) = mP (jV xs cn) b.mass (pI sec cn) := by unfold jV; rw [hba, hbb]
     refine (mH _ (jZ cn xa xb) b.mass (pI sec cn) ⟨hst.1, hst.2.1⟩ hmq hst.2.2 hg).mono ?_
     rintro _ w14 ⟨v14, rfl, ⟨rfl, hb14⟩⟩
     refine ⟨_, rfl, ?_⟩
     have M14 := M11.callB hb14
     refine bC rfl rfl (aB (aC (aE (bR [(0, 0), (1, 0), (2, 1), (3, 0), (4, 0), (5, 1), (6, 1), (7, 1), (8, 0)] mixed rfl (by kernel_rfl) (fun w15 hb15 hh15 => ?_)))))
     have M15 := M14.drew hb15 hh15
     refine aX rfl rfl rfl (fun _ => aD 0 fI rfl) (aX rfl rfl rfl (fun _ => aD 0 gB rfl) (bV rfl rfl rfl (aM 0 (.int _ _) bU M15 rfl rfl rfl) (kQ rfl rfl rfl (eF rfl rfl rfl (bV rfl rfl rfl (bN (i) dF rfl rfl rfl ((R.mem M15).below_len (aG aF hxi)) ((R.mem M15).someK (aG aF hxi))) ?_)))))
     refine bV rfl rfl rfl (bE 0 dH (R.mem M15) (Nat.lt_of_le_of_lt (Nat.zero_le _) ((R.mem M15).below_len (aG aF hxi))) rfl) (bV rfl rfl rfl (dV (o := 0) (.int _ _) bU (R.mem M15) (aG aF hxi) rfl rfl) (aX rfl rfl rfl (fun _ => cA (.bool (decide _)) rfl rfl rfl) ?_))
     refine bY (aC ?_)
     refine aS rfl (fun h90 => ?_) (fun h90 => ?_)
     ·refine aA (aO rfl rfl (aO rfl rfl (wq (fX rfl rfl (by omega) (by omega)) rfl (bC rfl rfl (aB ?_)))))
      refine cO (aC (aA (aO rfl rfl (wq (aY rfl rfl (by omega) (by omega)) rfl (bC rfl rfl (aB ?_))))))
      refine cD (k + 1) (bA (iE (by rw [jK hcn]; unfold ctr; rw [if_pos (by omega), ← hjv]; omega)) (bA rfl dX)) (cL rfl (cL rfl (cL rfl (cL rfl (cL rfl gO))))) ?_ ?_
      ·exact ⟨by omega, M15.keep [false, false, false]⟩
      ·(show mc - (k + 1) < mc - k; omega)
     ·refine aA (aO rfl rfl (aO rfl rfl (wq (aY rfl rfl (by omega) (by omega)) rfl (bC rfl rfl (aB ?_)))))
      refine cO (aC (aA (aO rfl rfl (wq (aY rfl rfl (by omega) (by omega)) rfl (bC rfl rfl (aB ?_))))))
      refine cD (k + 1) (bA (iE (by rw [jK hcn]; unfold ctr; rw [if_neg (by omega), if_pos (by omega), ← hjv])) (bA rfl dX)) (cL rfl (cL rfl (cL rfl (cL rfl (cL rfl gO))))) ?_ ?_
      ·exact ⟨by omega, M15.keep [false, false, false]⟩
      ·(show mc - (k + 1) < mc - k; omega)
  ·refine D_s rfl rfl rfl (D_s rfl rfl rfl (xJ rfl rfl rfl (D_s rfl rfl rfl (D_s rfl rfl rfl (xJ rfl rfl rfl ?_)))))
   refine xJ rfl rfl rfl (xJ rfl rfl rfl (D_s rfl rfl rfl (aX rfl rfl rfl (fun _ => bM false (.bool false) rfl rfl) (bY (aC ?_)))))
   refine cM rfl (aL (aC (aE (aA (dN rfl rfl (dN rfl rfl (wq (aD 0 fI rfl) rfl (wq (aD 0 gB rfl) rfl ?_))))))))
   refine wq (aM 0 (.int _ _) bU M4 rfl rfl rfl) rfl (bZ rA rfl rfl (gM _ cn.low _ _ _ xs (R.mem M4)) ?_)
   rintro v16 w16 ⟨rfl, hb16⟩
   have M16 := M4.callB hb16
   refine wq (bN (pa) dF rfl rfl hfa ((R.mem M16).below_len (aG aF hxa)) ((R.mem M16).someK (aG aF hxa))) rfl (wq (dJ _ bK (R.mem M16) (aG aF hxa) rfl) rfl (aV fJ M16 rfl rfl (fun b17 w17 M17 => (bG 1 _ bK M17 rfl rfl rfl rfl rfl (aT rfl) rfl (fun w18 M18 => ?_)))))
   refine aB (aC (aE (aA (dN rfl rfl (dN rfl rfl (wq (aD 0 fI rfl) rfl (wq (aD 1 jJ rfl) rfl (wq (aM 0 (.int _ _) bU M18 rfl rfl rfl) rfl ?_))))))))
   refine bZ rA rfl rfl (gM _ cn.high _ _ _ xs (R.mem M18)) ?_
   rintro v19 w19 ⟨rfl, hb19⟩
   have M19 := M18.callB hb19
   refine wq (bN (pb) dF rfl rfl hfb ((R.mem M19).below_len (aG aF hxb)) ((R.mem M19).someK (aG aF hxb))) rfl (wq (dJ _ bK (R.mem M19) (aG aF hxb) rfl) rfl (aV fJ M19 rfl rfl (fun b20 w20 M20 => (bG 2 _ bK M20 rfl rfl rfl rfl rfl (aT rfl) rfl (fun w21 M21 => ?_)))))
   refine aB (aC (aE (aA (wq (aU 0 eL M21 rfl rfl rfl) rfl (wq (aU 1 bK M21 rfl rfl rfl) rfl (wq (aU 2 bK M21 rfl rfl rfl) rfl (bZ aWp rfl rfl (sD _ cn xa xb hc.n hoa hob) ?_)))))))
   rintro v22 w22 ⟨rfl, hb22⟩
   have M22 := M21.callB hb22
   refine bC rfl rfl (aB (aC (aE (aA (wq (aD 2 gP rfl) rfl (wq (aD 0 cQ rfl) rfl (wq (aM 0 (.int _ _) aR M22 rfl rfl rfl) rfl (bC rfl rfl ?_))))))))
   refine aB (aC (aE (aE (aA (wq (aH (.bool _) rfl) rfl (aB (aC ?_)))))))
   refine iB _ rfl (fun h70 => ?_) (fun h70 => ?_)
   ·refine aA (wq (aD 2 gP rfl) rfl (wq (aD 1 cK rfl) rfl (wq (aM 0 (.int _ _) aR M22 rfl rfl rfl) rfl (bC rfl rfl (aB (aC (aE (aA ?_))))))))
    refine aO rfl rfl (dN rfl rfl (aO rfl rfl (wq (bN (i) dF rfl rfl rfl ((R.mem M22).below_len (aG aF hxi)) ((R.mem M22).someK (aG aF hxi))) rfl (wq (bE 4 eC (R.mem M22) (Nat.lt_of_le_of_lt (Nat.zero_le _) ((R.mem M22).below_len (aG aF hxi))) rfl) rfl (wq (dV (o := 4) (.int _ _) aR (R.mem M22) (aG aF hxi) rfl rfl) rfl ?_)))))
    refine aO rfl rfl (aK 80 (.int .i32 (pI sec cn)) (iE (by rw [h70]; rfl)) (uN aIc rfl rfl rfl ?_))
    have hbm : 0 ≤ b.mass ∧ b.mass ≤ xa.mass + xb.mass := ⟨(hb b hbi).m.1, tO hs hma hmb hbi qa.1 qb.1 (by omega)⟩
    have hst := oX hc.n hoa hob hbm
    have hmq := (hb b hbi).m
    have hcr := (kG hst.2.2 hg).2.2
    have hjv : mP (jZ cn xa xb) b.mass (pI sec cn) = mP (jV xs cn) b.mass (pI sec cn) := by unfold jV; rw [hba, hbb]
    refine (mH _ (jZ cn xa xb) b.mass (pI sec cn) ⟨hst.1, hst.2.1⟩ hmq hst.2.2 hg).mono ?_
    rintro _ w23 ⟨v23, rfl, ⟨rfl, hb23⟩⟩
    refine ⟨_, rfl, ?_⟩
    have M23 := M22.callB hb23
    refine bC rfl rfl (aB (aC (aE (bR [(0, 0), (1, 0), (2, 1), (3, 0), (4, 0), (5, 1), (6, 1), (7, 1), (8, 0)] mixed rfl (by kernel_rfl) (fun w24 hb24 hh24 => ?_)))))
    have M24 := M23.drew hb24 hh24
    refine aX rfl rfl rfl (fun _ => aD 0 fI rfl) (aX rfl rfl rfl (fun _ => aD 0 gB rfl) (bV rfl rfl rfl (aM 0 (.int _ _) bU M24 rfl rfl rfl) (kQ rfl rfl rfl (eF rfl rfl rfl (bV rfl rfl rfl (bN (i) dF rfl rfl rfl ((R.mem M24).below_len (aG aF hxi)) ((R.mem M24).someK (aG aF hxi))) ?_)))))
    refine bV rfl rfl rfl (bE 0 dH (R.mem M24) (Nat.lt_of_le_of_lt (Nat.zero_le _) ((R.mem M24).below_len (aG aF hxi))) rfl) (bV rfl rfl rfl (dV (o := 0) (.int _ _) bU (R.mem M24) (aG aF hxi) rfl rfl) (aX rfl rfl rfl (fun _ => cA (.bool (decide _)) rfl rfl rfl) ?_))
    refine bY (aC ?_)
    refine aS rfl (fun h90 => ?_) (fun h90 => ?_)
    ·refine aA (aO rfl rfl (aO rfl rfl (wq (fX rfl rfl (by omega) (by omega)) rfl (bC rfl rfl (aB ?_)))))
     refine cO (aC (aA (aO rfl rfl (wq (aY rfl rfl (by omega) (by omega)) rfl (bC rfl rfl (aB ?_))))))
     refine cD (k + 1) (bA (iE (by rw [jK hcn]; unfold ctr; rw [if_pos (by omega), ← hjv]; omega)) (bA rfl dX)) (cL rfl (cL rfl (cL rfl (cL rfl (cL rfl gO))))) ?_ ?_
     ·exact ⟨by omega, M24.keep [false, false, false]⟩
     ·(show mc - (k + 1) < mc - k; omega)
    ·refine aA (aO rfl rfl (aO rfl rfl (wq (aY rfl rfl (by omega) (by omega)) rfl (bC rfl rfl (aB ?_)))))
     refine cO (aC (aA (aO rfl rfl (wq (aY rfl rfl (by omega) (by omega)) rfl (bC rfl rfl (aB ?_))))))
     refine cD (k + 1) (bA (iE (by rw [jK hcn]; unfold ctr; rw [if_neg (by omega), if_pos (by omega), ← hjv])) (bA rfl dX)) (cL rfl (cL rfl (cL rfl (cL rfl (cL rfl gO))))) ?_ ?_
     ·exact ⟨by omega, M24.keep [false, false, false]⟩
     ·(show mc - (k + 1) < mc - k; omega)
   ·refine aL (aC (aE (aA (aO rfl rfl (dN rfl rfl (aO rfl rfl (wq (bN (i) dF rfl rfl rfl ((R.mem M22).below_len (aG aF hxi)) ((R.mem M22).someK (aG aF hxi))) rfl (wq (bE 4 eC (R.mem M22) (Nat.lt_of_le_of_lt (Nat.zero_le _) ((R.mem M22).below_len (aG aF hxi))) rfl) rfl ?_))))))))
    refine wq (dV (o := 4) (.int _ _) aR (R.mem M22) (aG aF hxi) rfl rfl) rfl (aO rfl rfl (aK 80 (.int .i32 (pI sec cn)) (iE (by rw [h70]; rfl)) (uN aIc rfl rfl rfl ?_)))
    have hbm : 0 ≤ b.mass ∧ b.mass ≤ xa.mass + xb.mass := ⟨(hb b hbi).m.1, tO hs hma hmb hbi qa.1 qb.1 (by omega)⟩
    have hst := oX hc.n hoa hob hbm
    have hmq := (hb b hbi).m
    have hcr := (kG hst.2.2 hg).2.2
    have hjv : mP (jZ cn xa xb) b.mass (pI sec cn) = mP (jV xs cn) b.mass (pI sec cn) := by unfold jV; rw [hba, hbb]
    refine (mH _ (jZ cn xa xb) b.mass (pI sec cn) ⟨hst.1, hst.2.1⟩ hmq hst.2.2 hg).mono ?_
    rintro _ w25 ⟨v25, rfl, ⟨rfl, hb25⟩⟩
    refine ⟨_, rfl, ?_⟩
    have M25 := M22.callB hb25
    refine bC rfl rfl (aB (aC (aE (bR [(0, 0), (1, 0), (2, 1), (3, 0), (4, 0), (5, 1), (6, 1), (7, 1), (8, 0)] mixed rfl (by kernel_rfl) (fun w26 hb26 hh26 => ?_)))))
    have M26 := M25.drew hb26 hh26
    refine aX rfl rfl rfl (fun _ => aD 0 fI rfl) (aX rfl rfl rfl (fun _ => aD 0 gB rfl) (bV rfl rfl rfl (aM 0 (.int _ _) bU M26 rfl rfl rfl) (kQ rfl rfl rfl (eF rfl rfl rfl (bV rfl rfl rfl (bN (i) dF rfl rfl rfl ((R.mem M26).below_len (aG aF hxi)) ((R.mem M26).someK (aG aF hxi))) ?_)))))
    refine bV rfl rfl rfl (bE 0 dH (R.mem M26) (Nat.lt_of_le_of_lt (Nat.zero_le _) ((R.mem M26).below_len (aG aF hxi))) rfl) (bV rfl rfl rfl (dV (o := 0) (.int _ _) bU (R.mem M26) (aG aF hxi) rfl rfl) (aX rfl rfl rfl (fun _ => cA (.bool (decide _)) rfl rfl rfl) ?_))
    refine bY (aC ?_)
    refine aS rfl (fun h90 => ?_) (fun h90 => ?_)
    ·refine aA (aO rfl rfl (aO rfl rfl (wq (fX rfl rfl (by omega) (by omega)) rfl (bC rfl rfl (aB ?_)))))
     refine cO (aC (aA (aO rfl rfl (wq (aY rfl rfl (by omega) (by omega)) rfl (bC rfl rfl (aB ?_))))))
     refine cD (k + 1) (bA (iE (by rw [jK hcn]; unfold ctr; rw [if_pos (by omega), ← hjv]; omega)) (bA rfl dX)) (cL rfl (cL rfl (cL rfl (cL rfl (cL rfl gO))))) ?_ ?_
     ·exact ⟨by omega, M26.keep [false, false, false]⟩
     ·(show mc - (k + 1) < mc - k; omega)
    ·refine aA (aO rfl rfl (aO rfl rfl (wq (aY rfl rfl (by omega) (by omega)) rfl (bC rfl rfl (aB ?_)))))
     refine cO (aC (aA (aO rfl rfl (wq (aY rfl rfl (by omega) (by omega)) rfl (bC rfl rfl (aB ?_))))))
     refine cD (k + 1) (bA (iE (by rw [jK hcn]; unfold ctr; rw [if_neg (by omega), if_pos (by omega), ← hjv])) (bA rfl dX)) (cL rfl (cL rfl (cL rfl (cL rfl (cL rfl gO))))) ?_ ?_
     ·exact ⟨by omega, M26.keep [false, false, false]⟩
     ·(show mc - (k + 1) < mc - k; omega)
 ·have hkn : k = mc := by omega
  refine cV (dD (dK (eO (aC (aE (aA (aO rfl rfl ?_)))))))
  refine bC rfl rfl (aB (aC (aP (cE (.int _ _) rfl ?_))))
  exact ⟨iE (by rw [List.take_of_length_le (by omega)]), hM1.below⟩
set_option maxHeartbeats 8000000 in
theorem aKs (w : World) (A : Option Addr) (n c : Nat) (xs : List Body) (R : Rd w 10 A n (xs.map aF)) (hs : cS xs) (hb : ∀ b ∈ xs, Okb b) (hn : n ≤ 1048576) (B : Option Addr) (mc c' : Nat) (cs : List Con) (R' : Rd w 5 B mc (cs.map cG)) (hcs : ∀ c ∈ cs, OkC xs c) (hmc : mc ≤ 8589934592) :
  Calls Tryz.prog 77 #[.slice A n c, .slice B mc c'] w (fun ex w' => ∃ v, ex = .returned v ∧ (fun v w' => ∃ r : Row, v = .tuple #[.slice r.A r.n r.c, .bool (aNj xs cs)] ∧ bH 40 10 r.A r.n r.c ((aBa xs cs).map aF) r.e ∧ Mem w [] [r.e] w') v w') := by
 have hlen : xs.length = n := by simpa using R.len
 have hbd := R.bound
 have hclen : cs.length = mc := by simpa using R'.len
 have hbd' := R'.bound
 refine aI #[.tmp 4, .tmp 5] 77 Tryz.func77 rfl Tryz.results77 Tryz.ntmps77 rfl ?_
 have M0 := Mem.refl w
 refine aE (aA (eN rfl rfl (wq (aJ (.bool false) rfl) rfl (aB (aC (aE (aA (eN rfl rfl ?_))))))))
 have M1 := M0.dummy default
 refine aB (aC (aE (aA (wq (aJ (.bool false) rfl) rfl (aB (aC (aE (aE (aA (bC rfl rfl (aB (aC (aQ (dQ (σ := Nat × Row) [0, 1, 4, 5] (fun (k, q) => [(6, .slice q.A q.n q.c), (7, .bool ((xs.take k).any (aOj xs cs))), (8, .int .i64 (k : Int))]) (fun (k, q) w' => (k ≤ n ∧ bH 40 10 q.A q.n q.c (((xs.take k).map (uM xs cs)).map aF) q.e) ∧ Mem w [] [q.e] w') (fun (k, q) => n - k) (0, hJ) (bA rfl (bA (bv rfl rfl) (bA rfl dX))) (⟨⟨by omega, bH.nil _ _ _⟩, M1⟩) ?_))))))))))))))
 rintro ⟨k, q⟩ ρ2 w2 ⟨⟨hk, hq⟩, hM2⟩
 have htl := List.length_take_le k xs
 have hqn : (xs.take k).length = q.n := by simpa using hq.1
 refine aE (aE (aA (aO rfl rfl (dN rfl rfl (wq (dB Tryz.underlying22 rfl) rfl (cX rfl rfl rfl rfl (aB (aC ?_))))))))
 refine aS rfl (fun h15 => ?_) (fun h15 => ?_)
 ·obtain ⟨xb, hxb⟩ := cT (xs := xs) (k := k) hlen (by omega)
  have hxm := List.mem_of_getElem? hxb
  have hsb := aRx hs hb hcs hclen hmc hxm
  have hvb := (hb xb hxm).v
  have hlx := eJ (xb.vx + gQ xs cs (·.nx) xb) (l := 16777216) (by decide)
  have hly := eJ (xb.vy + gQ xs cs (·.ny) xb) (l := 16777216) (by decide)
  refine aL (aC (aE (aQ (aE (bR [(0, 0), (1, 0), (2, 1), (3, 1), (4, 1), (5, 1), (6, 0), (7, 0), (8, 0), (9, 0), (10, 2), (11, 0), (12, 0)] mixed rfl (by kernel_rfl) (fun w3 hb3 hh3 => ?_))))))
  have M3 := hM2.drew hb3 hh3
  refine kQ rfl rfl rfl (eF rfl rfl rfl (bV rfl rfl rfl (bN (k) dF rfl rfl rfl ((R.mem M3).below_len (aG aF hxb)) ((R.mem M3).someK (aG aF hxb))) (bV rfl rfl rfl (bE 8 dP (R.mem M3) (Nat.lt_of_le_of_lt (Nat.zero_le _) ((R.mem M3).below_len (aG aF hxb))) rfl) ?_)))
  refine bV rfl rfl rfl (bE 0 cQ (R.mem M3) (Nat.lt_of_le_of_lt (Nat.zero_le _) ((R.mem M3).below_len (aG aF hxb))) rfl) (bV rfl rfl rfl (dV (o := 8) (.int _ _) aR (R.mem M3) (aG aF hxb) rfl rfl) (aX rfl rfl rfl (fun _ => aZ dO Tryz.underlying2 rfl (fC _ (by omega) (by omega))) ?_))
  refine kQ rfl rfl rfl (kQ rfl rfl rfl (eF rfl rfl rfl (dS [false, false, false, false] rfl (by kernel_rfl) (bZ aYq rfl rfl (aGq _ A n c xs (R.mem M3) hs hb hn B mc c' cs (R'.mem M3) hcs hmc k xb hxb false) ?_))))
  rintro v4 w4 ⟨rfl, hb4⟩
  have M4 := M3.callB hb4
  refine aB (aC ⟨(eD (bL rfl (dV (o := 8) (.int _ _) aR (R.mem M4) (aG aF hxb) rfl rfl)) (eD (bL rfl (bE 0 cQ (R.mem M4) (Nat.lt_of_le_of_lt (Nat.zero_le _) ((R.mem M4).below_len (aG aF hxb))) rfl)) (eD (bL rfl (bE 8 dP (R.mem M4) (Nat.lt_of_le_of_lt (Nat.zero_le _) ((R.mem M4).below_len (aG aF hxb))) rfl)) (eD (bL rfl (bN (k) dF rfl rfl rfl ((R.mem M4).below_len (aG aF hxb)) ((R.mem M4).someK (aG aF hxb)))) dT)))), ?_⟩)
  refine dY 28 (.int .i64 (gQ xs cs (·.nx) xb)) rfl (aX rfl rfl rfl (fun _ => aY rfl rfl (by omega) (by omega)) (lM rfl rfl rfl (bY (aC (aE (bR [(0, 0), (1, 0), (2, 1), (3, 1), (4, 1), (5, 1), (6, 0), (7, 0), (8, 0), (9, 0), (10, 2), (11, 0), (12, 0)] mixed rfl (by kernel_rfl) (fun w5 hb5 hh5 => ?_)))))))
  have M5 := M4.drew hb5 hh5
  refine kQ rfl rfl rfl (eF rfl rfl rfl (bV rfl rfl rfl (bN (k) dF rfl rfl rfl ((R.mem M5).below_len (aG aF hxb)) ((R.mem M5).someK (aG aF hxb))) (bV rfl rfl rfl (bE 8 dP (R.mem M5) (Nat.lt_of_le_of_lt (Nat.zero_le _) ((R.mem M5).below_len (aG aF hxb))) rfl) ?_)))
  refine bV rfl rfl rfl (bE 1 cK (R.mem M5) (Nat.lt_of_le_of_lt (Nat.zero_le _) ((R.mem M5).below_len (aG aF hxb))) rfl) (bV rfl rfl rfl (dV (o := 9) (.int _ _) aR (R.mem M5) (aG aF hxb) rfl rfl) (aX rfl rfl rfl (fun _ => aZ dO Tryz.underlying2 rfl (fC _ (by omega) (by omega))) ?_))
  refine kQ rfl rfl rfl (kQ rfl rfl rfl (eF rfl rfl rfl (dS [false, false, false, false] rfl (by kernel_rfl) (bZ aYq rfl rfl (aGq _ A n c xs (R.mem M5) hs hb hn B mc c' cs (R'.mem M5) hcs hmc k xb hxb true) ?_))))
  rintro v6 w6 ⟨rfl, hb6⟩
  have M6 := M5.callB hb6
  refine aB (aC ⟨(eD (bL rfl (dV (o := 9) (.int _ _) aR (R.mem M6) (aG aF hxb) rfl rfl)) (eD (bL rfl (bE 1 cK (R.mem M6) (Nat.lt_of_le_of_lt (Nat.zero_le _) ((R.mem M6).below_len (aG aF hxb))) rfl)) (eD (bL rfl (bE 8 dP (R.mem M6) (Nat.lt_of_le_of_lt (Nat.zero_le _) ((R.mem M6).below_len (aG aF hxb))) rfl)) (eD (bL rfl (bN (k) dF rfl rfl rfl ((R.mem M6).below_len (aG aF hxb)) ((R.mem M6).someK (aG aF hxb)))) dT)))), ?_⟩)
  refine dY 40 (.int .i64 (gQ xs cs (·.ny) xb)) rfl (aX rfl rfl rfl (fun _ => aY rfl rfl (by omega) (by omega)) (lM rfl rfl rfl (bY (aC (aE (aA (dN rfl rfl ?_)))))))
  refine aO rfl rfl (wq (bN (k) dF rfl rfl rfl ((R.mem M6).below_len (aG aF hxb)) ((R.mem M6).someK (aG aF hxb))) rfl (wq (dJ _ bK (R.mem M6) (aG aF hxb) rfl) rfl (aV fJ M6 rfl rfl (fun b7 w7 M7 => (bG 1 _ bK M7 rfl rfl rfl rfl rfl (aT rfl) rfl (fun w8 M8 => ?_))))))
  refine aB (aC (aE (aA (aO rfl rfl (bZ aBs rfl rfl (jR _ (xb.vx + gQ xs cs (·.nx) xb) 16777216 ⟨by decide, by decide⟩) ?_)))))
  rintro v9 w9 ⟨rfl, hb9⟩
  have M9 := M8.callB hb9
  refine wq (aZ lK Tryz.underlying21 rfl (iP _ (by omega) (by omega))) rfl (aO rfl rfl (bZ aBs rfl rfl (jR _ (xb.vy + gQ xs cs (·.ny) xb) 16777216 ⟨by decide, by decide⟩) ?_))
  rintro v10 w10 ⟨rfl, hb10⟩
  have M10 := M9.callB hb10
  refine wq (aZ lK Tryz.underlying21 rfl (iP _ (by omega) (by omega))) rfl (wq (cP [(0, .int _ _), (1, .int _ _)] _ eG rfl rfl) rfl (wq (aD 8 dP rfl) rfl (qP 1 _ bI M10 rfl rfl rfl rfl rfl (aT rfl) (Nat.le_of_ble_eq_true rfl) (fun w11 M11 => (aB (aC (aE (aA ?_))))))))
  refine wq (aH (.bool _) rfl) rfl (wq (aH (.bool _) rfl) rfl ?_)
  refine jI 55 _ rfl (fun g55 => ?_) (fun g55 => ?_)
  ·refine aN rfl rfl (aN rfl rfl (aN rfl rfl (aN rfl rfl (aN rfl rfl (aN rfl rfl ?_)))))
   refine wq (bM true (.bool true) rfl rfl) rfl (wq (aH (.bool true) rfl) rfl (aN rfl rfl (aN rfl rfl (aN rfl rfl (aN rfl rfl ?_)))))
   refine aN rfl rfl (aN rfl rfl (wq (bM true (.bool true) rfl rfl) rfl (wq (aJ (.bool true) rfl) rfl (aB (aC (aA (dN rfl rfl ?_)))))))
   refine wq (aU 1 bK M11 rfl rfl rfl) rfl (cU [.agg (List.toArray _)] [aF (uM xs cs xb)] rfl dF M11 rfl rfl rfl rfl (dE rfl) (by decide) (fun b12 w12 M12 => (dL 0 [aF (uM xs cs xb)] dF M12 rfl rfl rfl rfl rfl hq rfl (by simp [aF, Go.Bil.one]) (dR.ofMem 2 M12 rfl) (by omega) (fun A13 c13 e13 w13 M13 hR13 => ?_))))
   refine eN rfl rfl (aB (cO (aC (aA (aO rfl rfl (wq (aY rfl rfl (by omega) (by omega)) rfl ?_))))))
   refine bC rfl rfl (aB ?_)
   refine cD (k + 1, ⟨A13, q.n + 1, c13, e13⟩) (bA rfl (bA (bv rfl (by rw [cR hxb, List.any_append, List.any_cons, List.any_nil, Bool.or_false]; rw [g55, Bool.true_or])) (bA rfl dX))) (cL rfl (cL rfl (cL rfl (cL rfl gO)))) ?_ ?_
   ·exact ⟨⟨by omega, by rw [cR hxb, List.map_append, List.map_append]; exact hR13⟩, M13.keep [true, false, false]⟩
   ·(show n - (k + 1) < n - k; omega)
  ·refine wq (aD 8 dP rfl) rfl (wq (aD 0 cQ rfl) rfl (wq (aM 1 (.int _ _) aR M11 rfl rfl rfl) rfl (wq (aZ dO Tryz.underlying2 rfl (fC _ (by omega) (by omega))) rfl (aO rfl rfl (cX rfl rfl rfl rfl ?_)))))
   refine wq (bM false (.bool (decide _)) rfl rfl) rfl (wq (aH (.bool (decide _)) rfl) rfl ?_)
   refine dI 63 rfl (fun g63 => ?_) (fun g63 => ?_)
   ·refine aN rfl rfl (aN rfl rfl (aN rfl rfl (aN rfl rfl (aN rfl rfl (aN rfl rfl ?_)))))
    refine wq (bM true (.bool true) rfl rfl) rfl (wq (aJ (.bool true) rfl) rfl (aB (aC (aA (dN rfl rfl (wq (aU 1 bK M11 rfl rfl rfl) rfl (cU [.agg (List.toArray _)] [aF (uM xs cs xb)] rfl dF M11 rfl rfl rfl rfl (dE rfl) (by decide) (fun b14 w14 M14 => ?_))))))))
    refine dL 0 [aF (uM xs cs xb)] dF M14 rfl rfl rfl rfl rfl hq rfl (by simp [aF, Go.Bil.one]) (dR.ofMem 2 M14 rfl) (by omega) (fun A15 c15 e15 w15 M15 hR15 => (eN rfl rfl (aB (cO (aC (aA (aO rfl rfl ?_)))))))
    refine wq (aY rfl rfl (by omega) (by omega)) rfl (bC rfl rfl (aB ?_))
    refine cD (k + 1, ⟨A15, q.n + 1, c15, e15⟩) (bA rfl (bA (bv rfl (by rw [cR hxb, List.any_append, List.any_cons, List.any_nil, Bool.or_false]; rw [g55]; simp [aOj, g63])) (bA rfl dX))) (cL rfl (cL rfl (cL rfl (cL rfl gO)))) ?_ ?_
    ·exact ⟨⟨by omega, by rw [cR hxb, List.map_append, List.map_append]; exact hR15⟩, M15.keep [true, false, false]⟩
    ·(show n - (k + 1) < n - k; omega)
   ·refine wq (aD 8 dP rfl) rfl (wq (aD 1 cK rfl) rfl (wq (aM 1 (.int _ _) aR M11 rfl rfl rfl) rfl (wq (aZ dO Tryz.underlying2 rfl (fC _ (by omega) (by omega))) rfl (aO rfl rfl (cX rfl rfl rfl rfl ?_)))))
    refine wq (bM false (.bool (decide _)) rfl rfl) rfl (wq (aJ (.bool (decide _)) rfl) rfl (aB (aC (aA (dN rfl rfl (wq (aU 1 bK M11 rfl rfl rfl) rfl (cU [.agg (List.toArray _)] [aF (uM xs cs xb)] rfl dF M11 rfl rfl rfl rfl (dE rfl) (by decide) (fun b16 w16 M16 => ?_))))))))
    refine dL 0 [aF (uM xs cs xb)] dF M16 rfl rfl rfl rfl rfl hq rfl (by simp [aF, Go.Bil.one]) (dR.ofMem 2 M16 rfl) (by omega) (fun A17 c17 e17 w17 M17 hR17 => (eN rfl rfl (aB (cO (aC (aA (aO rfl rfl ?_)))))))
    refine wq (aY rfl rfl (by omega) (by omega)) rfl (bC rfl rfl (aB ?_))
    refine cD (k + 1, ⟨A17, q.n + 1, c17, e17⟩) (bA rfl (bA (bv rfl (by rw [cR hxb, List.any_append, List.any_cons, List.any_nil, Bool.or_false]; rw [g55]; simp [aOj, g63])) (bA rfl dX))) (cL rfl (cL rfl (cL rfl (cL rfl gO)))) ?_ ?_
    ·exact ⟨⟨by omega, by rw [cR hxb, List.map_append, List.map_append]; exact hR17⟩, M17.keep [true, false, false]⟩
    ·(show n - (k + 1) < n - k; omega)
 ·have hkn : k = n := by omega
  rw [List.take_of_length_le (by omega)] at hq
  refine cV (dD (dK (eO (aC (aE (aA (dN rfl rfl ?_)))))))
  refine wq (aH (.bool _) rfl) rfl (eN rfl rfl (wq (aJ (.bool _) rfl) rfl (aB (aC (aP (gA (.slice _ _ _) (.bool _) rfl rfl ?_))))))
  exact ⟨q, rN rfl (congrArg Value.bool (by rw [List.take_of_length_le (by omega)]; rfl)), hq, hM2⟩
set_option maxHeartbeats 4000000 in
theorem aKr (w : World) (A : Option Addr) (n c : Nat) (xs : List Body) (R : Rd w 10 A n (xs.map aF)) (hs : cS xs) (hb : ∀ b ∈ xs, Okb b) (hn : n ≤ 1048576) (B : Option Addr) (mc c' : Nat) (cs : List Con) (R' : Rd w 5 B mc (cs.map cG)) (hcs : ∀ c ∈ cs, OkC xs c) (hmc : mc ≤ 8589934592) :
  Calls Tryz.prog 46 #[.slice A n c, .slice B mc c'] w (fun ex w' => ∃ v, ex = .returned v ∧ (fun v w' => ∃ r : Row, v = .tuple #[.slice r.A r.n r.c, .bool (gL xs cs 4).2] ∧ bH 40 10 r.A r.n r.c (((gL xs cs 4).1).map aF) r.e ∧ Mem w [] [r.e] w') v w') := by
 have hlen : xs.length = n := by simpa using R.len
 have hbd := R.bound
 have hclen : cs.length = mc := by simpa using R'.len
 have hbd' := R'.bound
 refine aI #[.tmp 4, .tmp 5] 27 Tryz.func46 rfl Tryz.results46 Tryz.ntmps46 rfl ?_
 have M0 := Mem.refl w
 refine aE (aA (eN rfl rfl (wq (aJ (.bool false) rfl) rfl (aB (aC (aE (aA (wq (aJ (.bool false) rfl) rfl ?_))))))))
 have M1 := M0.dummy default
 refine aB (aC (aE (aE (aA (bC rfl rfl (aB (aC (aQ (dQ (σ := Nat × Row) [1, 4, 5] (fun (k, q) => [(0, .slice q.A q.n q.c), (6, .bool (gL xs cs k).2), (7, .int .i64 (k : Int))]) (fun (k, q) w' => (k ≤ 4 ∧ Rd w' 10 q.A q.n ((gL xs cs k).1.map aF) ∧ (0 < k → bH 40 10 q.A q.n q.c (((gL xs cs k).1).map aF) q.e)) ∧ Mem w [] [q.e] w') (fun (k, q) => 4 - k) (0, ⟨A, n, c, (none, default)⟩) (bA rfl (bA (bv rfl rfl) (bA rfl dX))) (⟨⟨by omega, R.mem M1, (fun h => absurd h (by omega))⟩, M1⟩) ?_)))))))))
 rintro ⟨k, q⟩ ρ2 w2 ⟨⟨hk, hRq, hq⟩, hM2⟩
 have hql : (gL xs cs k).1.length = q.n := by simpa using hRq.len
 have hsl := (iQ xs cs k).len
 refine aE (aE (aA (aO rfl rfl (cX rfl rfl rfl rfl (aB (aC ?_))))))
 refine aS rfl (fun h11 => ?_) (fun h11 => ?_)
 ·refine aL (aC (aE (aQ (aE (aA (dN rfl rfl (dN rfl rfl (bZ bLk rfl rfl (aKs _ q.A q.n q.c (gL xs cs k).1 hRq ((iQ xs cs k).sorted hs) (pX hb k) (by omega) B mc c' cs (R'.mem hM2) (fun c h => (iQ xs cs k).okc (hcs c h)) hmc) ?_))))))))
  rintro v3 w3 ⟨r, rfl, hr, hM3⟩
  have M3 : Mem _ _ [_, _] _ := hM2.call0 hM3
  refine wq (aH (.tuple (List.toArray _)) rfl) rfl (wq (bO (.slice _ _ _) rfl rfl) rfl (wq (bO (.bool _) rfl rfl) rfl (eN rfl rfl (wq (aJ (.bool _) rfl) rfl (aB (aC (aE (aA ?_))))))))
  refine dN rfl rfl (eN rfl rfl (aB (aC (aA (wq (aH (.bool _) rfl) rfl (wq (aH (.bool _) rfl) rfl ?_))))))
  refine jI 22 _ rfl (fun g22 => ?_) (fun g22 => ?_)
  ·refine aN rfl rfl (wq (bM true (.bool true) rfl rfl) rfl (wq (aJ (.bool true) rfl) rfl (aB (cO (aC (aA ?_))))))
   refine aO rfl rfl (wq (aY rfl rfl (by omega) (by omega)) rfl (bC rfl rfl (aB ?_)))
   refine cD (k + 1, r) (bA rfl (bA (bv rfl (by show true = (_ || _); rw [g22, Bool.true_or])) (bA rfl dX))) (cL rfl (cL rfl (cL rfl gO))) ?_ ?_
   ·exact ⟨⟨by omega, hr.rd M3 (bJ (i := 1) rfl), (fun _ => hr)⟩, M3.keep [false, true]⟩
   ·(show 4 - (k + 1) < 4 - k; omega)
  ·refine wq (aH (.bool _) rfl) rfl (wq (bM false (.bool _) rfl rfl) rfl (wq (aJ (.bool _) rfl) rfl (aB (cO (aC (aA ?_))))))
   refine aO rfl rfl (wq (aY rfl rfl (by omega) (by omega)) rfl (bC rfl rfl (aB ?_)))
   refine cD (k + 1, r) (bA rfl (bA (bv rfl (by show _ = (_ || _); rw [g22, Bool.false_or])) (bA rfl dX))) (cL rfl (cL rfl (cL rfl gO))) ?_ ?_
   ·exact ⟨⟨by omega, hr.rd M3 (bJ (i := 1) rfl), (fun _ => hr)⟩, M3.keep [false, true]⟩
   ·(show 4 - (k + 1) < 4 - k; omega)
 ·have hk4 : k = 4 := by omega
  rw [hk4] at hq
  refine cV (dD (dK (eO (aC (aE (aA (dN rfl rfl ?_)))))))
  refine wq (aH (.bool _) rfl) rfl (eN rfl rfl (wq (aJ (.bool _) rfl) rfl (aB (aC (aP (gA (.slice _ _ _) (.bool _) rfl rfl ?_))))))
  exact ⟨q, rN rfl (congrArg Value.bool (by rw [hk4])), hq (by omega), hM2⟩
set_option maxHeartbeats 4000000 in
theorem aGz (w : World) (c : Con) (a b : Body) (hc : Okn c) (ha : Okb a) (hb : Okb b) :
  Calls Tryz.prog 117 #[.agg (cG c).toArray, (.agg (aF a).toArray), (.agg (aF b).toArray)] w (fun ex w' => ∃ v, ex = .returned v ∧ (fun v w' => v = .int .i64 (nW c a b) ∧ Below w.heap.size w w') v w') := by
 have hdp := hc.d
 have hm1 := ha.m
 have hm2 := hb.m
 refine aI #[.tmp 6] 24 Tryz.func117 rfl Tryz.results117 Tryz.ntmps117 rfl ?_
 have M0 := Mem.refl w
 refine aE (aA (bP (.agg (List.toArray _)) M0 rfl rfl rfl (fun b1 w1 M1 => (bP (.agg (List.toArray _)) M1 rfl rfl rfl (fun b2 w2 M2 => (bP (.agg (List.toArray _)) M2 rfl rfl rfl (fun b3 w3 M3 => (bC rfl rfl (aB (aC (aE (aE (aA ?_)))))))))))))
 refine wq (aD 4 aCn rfl) rfl (wq (aM 0 (.int _ _) aR M3 rfl rfl rfl) rfl (cX rfl rfl rfl rfl (wq (aH (.bool (decide _)) rfl) rfl ?_)))
 refine dI 10 rfl (fun g10 => ?_) (fun g10 => ?_)
 ·refine aN rfl rfl (aN rfl rfl (aN rfl rfl (aN rfl rfl (aN rfl rfl (aN rfl rfl ?_)))))
  refine wq (bM true (.bool true) rfl rfl) rfl (aB (aC (cC rfl (aE (aA (bC rfl rfl (aB (aC (aP (cH ?_))))))))))
  refine cE (.int _ _) rfl ?_
  exact ⟨iE (by unfold nW; rw [if_pos (by omega)]), M3.below⟩
 ·refine wq (aD 4 eC rfl) rfl (wq (aM 1 (.int _ _) aR M3 rfl rfl rfl) rfl (wq (aD 4 eC rfl) rfl (wq (aM 2 (.int _ _) aR M3 rfl rfl rfl) rfl (wq (iO rfl rfl (iP _ (by omega) (by omega))) rfl (cX rfl rfl rfl rfl ?_)))))
  refine wq (bM false (.bool (decide _)) rfl rfl) rfl (aB (aC ?_))
  refine aS rfl (fun h17 => ?_) (fun h17 => ?_)
  ·refine aE (aA (bC rfl rfl (aB (aC (aP (cH (cE (.int _ _) rfl ?_)))))))
   exact ⟨iE (by unfold nW; rw [if_pos (by omega)]), M3.below⟩
  ·refine aL (aC (aE (aA (wq (aD 4 aCn rfl) rfl (wq (aM 0 (.int _ _) aR M3 rfl rfl rfl) rfl (wq (aZ dO Tryz.underlying2 rfl (fC _ (by omega) (by omega))) rfl (wq (fX rfl rfl (by omega) (by omega)) rfl (wq (eS rfl rfl (by omega) (by omega)) rfl ?_))))))))
   refine bZ nH rfl rfl (eT _ ((c.depth - 1024) * 26214) 65536 (by decide) (by omega) (by omega)) ?_
   rintro v4 w4 ⟨rfl, hb4⟩
   have M4 := M3.callB hb4
   refine bC rfl rfl (aB (aC (aP (cE (.int _ _) rfl ?_))))
   exact ⟨iE (by unfold nW; rw [if_neg (by omega)]), M4.below⟩
set_option maxHeartbeats 4000000 in
theorem yY (w : World) (c : Con) (a b : Body) (hc : Okn c) (ha : Okb a) (hb : Okb b) (m : Int) (hm : 0 ≤ m ∧ m ≤ 1048576) :
  Calls Tryz.prog 79 #[.agg (cG c).toArray, (.agg (aF a).toArray), (.agg (aF b).toArray), .int .i32 m] w (fun ex w' => ∃ v, ex = .returned v ∧ (fun v w' => v = .int .i64 (pK c a b m) ∧ Below w.heap.size w w') v w') := by
 have hdp := hc.d
 have hm1 := ha.m
 have hm2 := hb.m
 have hsr := aRe (a := a) (b := b) hc hm
 have har := aAr (a := a) (b := b) hc
 refine aI #[.tmp 8] 28 Tryz.func79 rfl Tryz.results79 Tryz.ntmps79 rfl ?_
 have M0 := Mem.refl w
 refine aE (aA (bP (.agg (List.toArray _)) M0 rfl rfl rfl (fun b1 w1 M1 => (bP (.agg (List.toArray _)) M1 rfl rfl rfl (fun b2 w2 M2 => (bP (.agg (List.toArray _)) M2 rfl rfl rfl (fun b3 w3 M3 => (bC rfl rfl (aB (aC (aE (aA ?_))))))))))))
 refine wq (aU 0 eL M3 rfl rfl rfl) rfl (wq (aU 1 bK M3 rfl rfl rfl) rfl (wq (aU 2 bK M3 rfl rfl rfl) rfl (bZ bIh rfl rfl (aGz _ c a b hc ha hb) ?_)))
 rintro v4 w4 ⟨rfl, hb4⟩
 have M4 := M3.callB hb4
 refine bC rfl rfl (aB (aC (aE (aE (aA (aO rfl rfl (cX rfl rfl rfl rfl (aB (aC ?_)))))))))
 refine aS rfl (fun h15 => ?_) (fun h15 => ?_)
 ·refine aE (aA (bC rfl rfl (aB (aC (aP (cH (cE (.int _ _) rfl ?_)))))))
  exact ⟨iE (by unfold pK; rw [h15]; simp), M4.below⟩
 ·have hsp : 0 < a.mass + b.mass := by unfold nW at h15; split at h15 <;> omega
  have hmx : max 1 (a.mass + b.mass) = a.mass + b.mass := by omega
  refine aL (aC (aE (aA (aO rfl rfl (aO rfl rfl (wq (aZ dO Tryz.underlying2 rfl (fC _ (by omega) (by omega))) rfl (wq (eS rfl rfl (by omega) (by omega)) rfl (wq (aD 4 eC rfl) rfl ?_))))))))
  refine wq (aM 1 (.int _ _) aR M4 rfl rfl rfl) rfl (wq (aZ dO Tryz.underlying2 rfl (fC _ (by omega) (by omega))) rfl (wq (aD 4 eC rfl) rfl (wq (aM 2 (.int _ _) aR M4 rfl rfl rfl) rfl (wq (aZ dO Tryz.underlying2 rfl (fC _ (by omega) (by omega))) rfl (wq (aY rfl rfl (by omega) (by omega)) rfl ?_)))))
  refine bZ nH rfl rfl (eT _ (nW c a b * m) (a.mass + b.mass) hsp (by omega) (by omega)) ?_
  rintro v5 w5 ⟨rfl, hb5⟩
  have M5 := M4.callB hb5
  refine bC rfl rfl (aB (aC (aP (cE (.int _ _) rfl ?_))))
  exact ⟨iE (by unfold pK; rw [hmx]), M5.below⟩
set_option maxHeartbeats 16000000 in
theorem aHl (w : World) (A : Option Addr) (n c : Nat) (xs : List Body) (R : Rd w 10 A n (xs.map aF)) (hs : cS xs) (hb : ∀ b ∈ xs, Okb b) (hn : n ≤ 1048576) (B : Option Addr) (mc c' : Nat) (cs : List Con) (R' : Rd w 5 B mc (cs.map cG)) (hcs : ∀ c ∈ cs, OkC xs c) (hmc : mc ≤ 1073741824) :
  Calls Tryz.prog 48 #[.slice A n c, .slice B mc c'] w (fun ex w' => ∃ v, ex = .returned v ∧ (fun v w' => ∃ r : Row, v = .slice r.A r.n r.c ∧ bH 126 2 r.A r.n r.c ((xs.map (jG xs cs)).map cI) r.e ∧ Mem w [] [r.e] w') v w') := by
 have hlen : xs.length = n := by simpa using R.len
 have hbd := R.bound
 have hclen : cs.length = mc := by simpa using R'.len
 have hbd' := R'.bound
 refine aI #[.tmp 4] 118 Tryz.func48 rfl Tryz.results48 Tryz.ntmps48 rfl ?_
 have M0 := Mem.refl w
 refine aE (aA (eN rfl rfl (aB (aC (aE (aA (eN rfl rfl ?_)))))))
 have M1 := M0.dummy default
 refine aB (aC (aE (aE (aA (bC rfl rfl (aB (aC (aQ (dQ (σ := Nat × Row) [0, 1, 4] (fun (i, q) => [(5, .slice q.A q.n q.c), (6, .int .i64 (i : Int))]) (fun (i, q) w' => (i ≤ n ∧ bH 126 2 q.A q.n q.c (((xs.take i).map (jG xs cs)).map cI) q.e) ∧ Mem w [] [q.e] w') (fun (i, q) => n - i) (0, hJ) (bA rfl (bA rfl dX)) (⟨⟨by omega, bH.nil _ _ _⟩, M1⟩) ?_)))))))))
 rintro ⟨i, q⟩ ρ2 w2 ⟨⟨hi, hq⟩, hM2⟩
 have htl := List.length_take_le i xs
 have hqn : (xs.take i).length = q.n := by simpa using hq.1
 refine aE (aE (aA (aO rfl rfl (dN rfl rfl (wq (dB Tryz.underlying22 rfl) rfl (cX rfl rfl rfl rfl (aB (aC ?_))))))))
 refine aS rfl (fun h18 => ?_) (fun h18 => ?_)
 ·obtain ⟨xb, hxb⟩ := cT (xs := xs) (k := i) hlen (by omega)
  have hbi := List.mem_of_getElem? hxb
  refine aL (aC (aE (aQ (aE (aA (aV bBf hM2 rfl rfl (fun b3 w3 M3 => (aB (aC (aE (aE (aA (bC rfl rfl (aB (aC (aQ (dQ (σ := Nat) [0, 1, 4, 5, 6, 7] (fun k2 => [(8, .int .i64 (k2 : Int))]) (fun k2 w' => k2 ≤ mc ∧ Mem w [] [q.e, (some b3, bc [.int .i64 (tQ xs (cs.take k2) (·.nx) xb), .int .i64 (tQ xs (cs.take k2) (·.ny) xb)] 126)] w') (fun k2 => mc - k2) 0 (bA rfl dX) (⟨by omega, by rw [tI, tI]; exact M3⟩) ?_)))))))))))))))))
  rintro k2 ρ4 w4 ⟨hk2, hM4⟩
  have hsb := zY hs hb hcs hclen hmc k2 hbi
  unfold jG at hsb
  simp only at hsb
  refine aE (aE (aA (aO rfl rfl (dN rfl rfl (wq (dB Tryz.underlying82 rfl) rfl (cX rfl rfl rfl rfl (aB (aC ?_))))))))
  refine aS rfl (fun h24 => ?_) (fun h24 => ?_)
  ·obtain ⟨cn, hcn⟩ := cT (xs := cs) (k := k2) hclen (by omega)
   have hc := hcs cn (List.mem_of_getElem? hcn)
   have hne := hc.ne
   have hnx := hc.n.x
   have hny := hc.n.y
   obtain ⟨pa, xa, hxa, hka, hfa⟩ := sW hc.l
   obtain ⟨pb, xb2, hxb2, hkb, hfb⟩ := sW hc.h
   have hba := xG hxa hfa
   have hbb := xG hxb2 hfb
   have hma := List.mem_of_getElem? hxa
   have hmb := List.mem_of_getElem? hxb2
   have hoa := hb xa hma
   have hob := hb xb2 hmb
   have qa := hoa.m
   have qb := hob.m
   refine aL (aC (aE (aQ (aE (aA (dN rfl rfl (aO rfl rfl (wq (bN (k2) zN rfl rfl rfl ((R'.mem hM4).below_len (aG cG hcn)) ((R'.mem hM4).someK (aG cG hcn))) rfl (wq (dJ _ eL (R'.mem hM4) (aG cG hcn) rfl) rfl (aV lT hM4 rfl rfl (fun b5 w5 M5 => ?_)))))))))))
   refine bG 2 _ eL M5 rfl rfl rfl rfl rfl (aT rfl) rfl (fun w6 M6 => (aB (aC (aE (aE (bR [(0, 0), (1, 0), (2, 1), (3, 0), (4, 0), (5, 1), (6, 1), (7, 1), (8, 0), (9, 0), (10, 0), (11, 0), (12, 1), (13, 0), (14, 0), (15, 1), (16, 1), (17, 1), (18, 0), (19, 0)] mixed rfl (by kernel_rfl) (fun w7 hb7 hh7 => ?_)))))))
   have M7 := M6.drew hb7 hh7
   refine aX rfl rfl rfl (fun _ => aD 0 fI rfl) (aX rfl rfl rfl (fun _ => aD 0 gB rfl) (bV rfl rfl rfl (aM 2 (.int _ _) bU M7 rfl rfl rfl) (kQ rfl rfl rfl (eF rfl rfl rfl (bV rfl rfl rfl (bN (i) dF rfl rfl rfl ((R.mem M7).below_len (aG aF hxb)) ((R.mem M7).someK (aG aF hxb))) ?_)))))
   refine bV rfl rfl rfl (bE 0 dH (R.mem M7) (Nat.lt_of_le_of_lt (Nat.zero_le _) ((R.mem M7).below_len (aG aF hxb))) rfl) (bV rfl rfl rfl (dV (o := 0) (.int _ _) bU (R.mem M7) (aG aF hxb) rfl rfl) (aX rfl rfl rfl (fun _ => cA (.bool (decide _)) rfl rfl rfl) (aX rfl rfl rfl (fun _ => aH (.bool (decide _)) rfl) ?_)))
   refine aDy 40 rfl (fun g40 => ?_) (fun g40 => ?_)
   ·refine aX rfl rfl rfl (fun _ => aD 0 fI rfl) (aX rfl rfl rfl (fun _ => aD 1 jJ rfl) (bV rfl rfl rfl (aM 2 (.int _ _) bU M7 rfl rfl rfl) (kQ rfl rfl rfl (eF rfl rfl rfl (bV rfl rfl rfl (bN (i) dF rfl rfl rfl ((R.mem M7).below_len (aG aF hxb)) ((R.mem M7).someK (aG aF hxb))) ?_)))))
    refine bV rfl rfl rfl (bE 0 dH (R.mem M7) (Nat.lt_of_le_of_lt (Nat.zero_le _) ((R.mem M7).below_len (aG aF hxb))) rfl) (bV rfl rfl rfl (dV (o := 0) (.int _ _) bU (R.mem M7) (aG aF hxb) rfl rfl) (aX rfl rfl rfl (fun _ => cA (.bool (decide _)) rfl rfl rfl) (aX rfl rfl rfl (fun _ => bM true (.bool (decide _)) rfl rfl) ?_)))
    refine bY (aC ?_)
    refine aS rfl (fun h50 => ?_) (fun h50 => ?_)
    ·refine cV (dD (eO (aC (aA (aO rfl rfl (wq (aY rfl rfl (by omega) (by omega)) rfl ?_))))))
     refine bC rfl rfl (aB ?_)
     refine cD (k2 + 1) (bA rfl dX) (cL rfl (cL rfl (cL rfl (cL rfl (cL rfl (cL rfl gO)))))) ?_ ?_
     ·exact ⟨by omega, by rw [iG hcn, iG hcn]; unfold tT; (have n1 : ¬ cn.low = xb.key := by omega); (have n2 : ¬ cn.high = xb.key := by omega); rw [if_neg n1, if_neg n2, if_neg n1, if_neg n2, Int.add_zero, Int.add_zero]; exact M7.keep [true, true, false]⟩
     ·(show mc - (k2 + 1) < mc - k2; omega)
    ·refine aL (aC (aE (aA (dN rfl rfl (dN rfl rfl (wq (aD 0 fI rfl) rfl (wq (aD 0 gB rfl) rfl (wq (aM 2 (.int _ _) bU M7 rfl rfl rfl) rfl ?_))))))))
     refine bZ rA rfl rfl (gM _ cn.low _ _ _ xs (R.mem M7)) ?_
     rintro v8 w8 ⟨rfl, hb8⟩
     have M8 := M7.callB hb8
     refine wq (bN (pa) dF rfl rfl hfa ((R.mem M8).below_len (aG aF hxa)) ((R.mem M8).someK (aG aF hxa))) rfl (wq (dJ _ bK (R.mem M8) (aG aF hxa) rfl) rfl (aV fJ M8 rfl rfl (fun b9 w9 M9 => (bG 3 _ bK M9 rfl rfl rfl rfl rfl (aT rfl) rfl (fun w10 M10 => ?_)))))
     refine aB (aC (aE (aA (dN rfl rfl (dN rfl rfl (wq (aD 0 fI rfl) rfl (wq (aD 1 jJ rfl) rfl (wq (aM 2 (.int _ _) bU M10 rfl rfl rfl) rfl ?_))))))))
     refine bZ rA rfl rfl (gM _ cn.high _ _ _ xs (R.mem M10)) ?_
     rintro v11 w11 ⟨rfl, hb11⟩
     have M11 := M10.callB hb11
     refine wq (bN (pb) dF rfl rfl hfb ((R.mem M11).below_len (aG aF hxb2)) ((R.mem M11).someK (aG aF hxb2))) rfl (wq (dJ _ bK (R.mem M11) (aG aF hxb2) rfl) rfl (aV fJ M11 rfl rfl (fun b12 w12 M12 => (bG 4 _ bK M12 rfl rfl rfl rfl rfl (aT rfl) rfl (fun w13 M13 => ?_)))))
     refine aB (aC (aE (bR [(0, 1), (1, 1), (2, 1), (3, 0), (4, 0), (5, 1), (6, 1), (7, 1), (8, 2), (9, 0)] mixed rfl (by kernel_rfl) (fun w14 hb14 hh14 => ?_))))
     have M14 := M13.drew hb14 hh14
     refine bV rfl rfl rfl (aU 2 eL M14 rfl rfl rfl) (bV rfl rfl rfl (aU 3 bK M14 rfl rfl rfl) (bV rfl rfl rfl (aU 4 bK M14 rfl rfl rfl) (kQ rfl rfl rfl (eF rfl rfl rfl (bV rfl rfl rfl (bN (i) dF rfl rfl rfl ((R.mem M14).below_len (aG aF hxb)) ((R.mem M14).someK (aG aF hxb))) ?_)))))
     refine bV rfl rfl rfl (bE 4 eC (R.mem M14) (Nat.lt_of_le_of_lt (Nat.zero_le _) ((R.mem M14).below_len (aG aF hxb))) rfl) (bV rfl rfl rfl (dV (o := 4) (.int _ _) aR (R.mem M14) (aG aF hxb) rfl rfl) (dS [true, true, true, true, true, true] rfl (by kernel_rfl) (uN bFy rfl rfl rfl ?_)))
     have hbm : 0 ≤ xb.mass ∧ xb.mass ≤ xa.mass + xb2.mass := ⟨(hb xb hbi).m.1, tO hs hma hmb hbi qa.1 qb.1 (by omega)⟩
     have hmq := (hb xb hbi).m
     have hsl := yI hc.n hbm
     have r1 := lB hsl hnx
     have r2 := lB hsl hny
     refine (yY _ cn xa xb2 hc.n hoa hob xb.mass hmq).mono ?_
     rintro _ w15 ⟨v15, rfl, ⟨rfl, hb15⟩⟩
     refine ⟨_, rfl, ?_⟩
     have M15 := M14.callB hb15
     refine aB (aC ⟨dT, ?_⟩)
     refine lM rfl rfl rfl (bY (aC (aE (aA (aO rfl rfl (wq (aD 2 gP rfl) rfl (wq (aD 0 cQ rfl) rfl ?_)))))))
     refine wq (aM 2 (.int _ _) aR M15 rfl rfl rfl) rfl (wq (aZ dO Tryz.underlying2 rfl (fC _ (by omega) (by omega))) rfl (wq (eS rfl rfl (by omega) (by omega)) rfl (bZ nH rfl rfl (eT _ _ 65536 (by decide) (by omega) (by omega)) ?_)))
     rintro v16 w16 ⟨rfl, hb16⟩
     have M16 := M15.callB hb16
     refine bC rfl rfl (aB (aC (aE (aA (aO rfl rfl (wq (aD 2 gP rfl) rfl (wq (aD 1 cK rfl) rfl (wq (aM 2 (.int _ _) aR M16 rfl rfl rfl) rfl ?_))))))))
     refine wq (aZ dO Tryz.underlying2 rfl (fC _ (by omega) (by omega))) rfl (wq (eS rfl rfl (by omega) (by omega)) rfl (bZ nH rfl rfl (eT _ _ 65536 (by decide) (by omega) (by omega)) ?_))
     rintro v17 w17 ⟨rfl, hb17⟩
     have M17 := M16.callB hb17
     refine bC rfl rfl (aB (aC (aE (aE (bR [(0, 0), (1, 0), (2, 1), (3, 0), (4, 0), (5, 1), (6, 1), (7, 1), (8, 0)] mixed rfl (by kernel_rfl) (fun w18 hb18 hh18 => ?_))))))
     have M18 := M17.drew hb18 hh18
     refine aX rfl rfl rfl (fun _ => aD 0 fI rfl) (aX rfl rfl rfl (fun _ => aD 0 gB rfl) (bV rfl rfl rfl (aM 2 (.int _ _) bU M18 rfl rfl rfl) (kQ rfl rfl rfl (eF rfl rfl rfl (bV rfl rfl rfl (bN (i) dF rfl rfl rfl ((R.mem M18).below_len (aG aF hxb)) ((R.mem M18).someK (aG aF hxb))) ?_)))))
     refine bV rfl rfl rfl (bE 0 dH (R.mem M18) (Nat.lt_of_le_of_lt (Nat.zero_le _) ((R.mem M18).below_len (aG aF hxb))) rfl) (bV rfl rfl rfl (dV (o := 0) (.int _ _) bU (R.mem M18) (aG aF hxb) rfl rfl) (aX rfl rfl rfl (fun _ => cA (.bool (decide _)) rfl rfl rfl) ?_))
     refine bY (aC ?_)
     refine aS rfl (fun h98 => ?_) (fun h98 => ?_)
     ·refine aE (aA (aO rfl rfl (wq (pG rfl (fC _ (by omega) (by omega))) rfl (bC rfl rfl (aB (aC (aA (aO rfl rfl ?_))))))))
      refine wq (pG rfl (fC _ (by omega) (by omega))) rfl (bC rfl rfl (aB (aC (aE (aA (wq (aD 0 kN rfl) rfl (wq (aM 1 (.int _ _) iR M18 rfl rfl rfl) rfl (aO rfl rfl ?_))))))))
      refine wq (aY rfl rfl (by omega) (by omega)) rfl (wq (aD 0 kN rfl) rfl (cZ 1 (.int _ _) iR M18 rfl rfl rfl rfl rfl rfl (fun w19 M19 => (aB (aC (aA (wq (aD 1 kP rfl) rfl (wq (aM 1 (.int _ _) iR M19 rfl rfl rfl) rfl ?_))))))))
      refine aO rfl rfl (wq (aY rfl rfl (by omega) (by omega)) rfl (wq (aD 1 kP rfl) rfl (cZ 1 (.int _ _) iR M19 rfl rfl rfl rfl rfl rfl (fun w20 M20 => (aB (cO ?_))))))
      refine aC (aA (aO rfl rfl (wq (aY rfl rfl (by omega) (by omega)) rfl (bC rfl rfl (aB ?_)))))
      refine cD (k2 + 1) (bA rfl dX) (cL rfl (cL rfl (cL rfl (cL rfl (cL rfl (cL rfl gO)))))) ?_ ?_
      ·exact ⟨by omega, by rw [iG hcn, iG hcn]; unfold tT; (have n1 : cn.low = xb.key := by omega); rw [if_pos n1, if_pos n1, hba, hbb]; exact M20.keep [true, true, false, false, false]⟩
      ·(show mc - (k2 + 1) < mc - k2; omega)
     ·refine aL (aC (aE (aA (wq (aD 0 kN rfl) rfl (wq (aM 1 (.int _ _) iR M18 rfl rfl rfl) rfl (aO rfl rfl (wq (aY rfl rfl (by omega) (by omega)) rfl (wq (aD 0 kN rfl) rfl ?_))))))))
      refine cZ 1 (.int _ _) iR M18 rfl rfl rfl rfl rfl rfl (fun w21 M21 => (aB (aC (aA (wq (aD 1 kP rfl) rfl (wq (aM 1 (.int _ _) iR M21 rfl rfl rfl) rfl (aO rfl rfl (wq (aY rfl rfl (by omega) (by omega)) rfl ?_))))))))
      refine wq (aD 1 kP rfl) rfl (cZ 1 (.int _ _) iR M21 rfl rfl rfl rfl rfl rfl (fun w22 M22 => (aB (cO (aC (aA (aO rfl rfl ?_)))))))
      refine wq (aY rfl rfl (by omega) (by omega)) rfl (bC rfl rfl (aB ?_))
      refine cD (k2 + 1) (bA rfl dX) (cL rfl (cL rfl (cL rfl (cL rfl (cL rfl (cL rfl gO)))))) ?_ ?_
      ·exact ⟨by omega, by rw [iG hcn, iG hcn]; unfold tT; (have n1 : ¬ cn.low = xb.key := by omega); (have n2 : cn.high = xb.key := by omega); rw [if_neg n1, if_pos n2, if_neg n1, if_pos n2, hba, hbb]; exact M22.keep [true, true, false, false, false]⟩
      ·(show mc - (k2 + 1) < mc - k2; omega)
   ·refine D_s rfl rfl rfl (D_s rfl rfl rfl (xJ rfl rfl rfl (D_s rfl rfl rfl (D_s rfl rfl rfl (xJ rfl rfl rfl ?_)))))
    refine xJ rfl rfl rfl (xJ rfl rfl rfl (D_s rfl rfl rfl (aX rfl rfl rfl (fun _ => bM false (.bool false) rfl rfl) (bY (aC ?_)))))
    refine cM rfl (aL (aC (aE (aA (dN rfl rfl (dN rfl rfl (wq (aD 0 fI rfl) rfl (wq (aD 0 gB rfl) rfl ?_))))))))
    refine wq (aM 2 (.int _ _) bU M7 rfl rfl rfl) rfl (bZ rA rfl rfl (gM _ cn.low _ _ _ xs (R.mem M7)) ?_)
    rintro v23 w23 ⟨rfl, hb23⟩
    have M23 := M7.callB hb23
    refine wq (bN (pa) dF rfl rfl hfa ((R.mem M23).below_len (aG aF hxa)) ((R.mem M23).someK (aG aF hxa))) rfl (wq (dJ _ bK (R.mem M23) (aG aF hxa) rfl) rfl (aV fJ M23 rfl rfl (fun b24 w24 M24 => (bG 3 _ bK M24 rfl rfl rfl rfl rfl (aT rfl) rfl (fun w25 M25 => ?_)))))
    refine aB (aC (aE (aA (dN rfl rfl (dN rfl rfl (wq (aD 0 fI rfl) rfl (wq (aD 1 jJ rfl) rfl (wq (aM 2 (.int _ _) bU M25 rfl rfl rfl) rfl ?_))))))))
    refine bZ rA rfl rfl (gM _ cn.high _ _ _ xs (R.mem M25)) ?_
    rintro v26 w26 ⟨rfl, hb26⟩
    have M26 := M25.callB hb26
    refine wq (bN (pb) dF rfl rfl hfb ((R.mem M26).below_len (aG aF hxb2)) ((R.mem M26).someK (aG aF hxb2))) rfl (wq (dJ _ bK (R.mem M26) (aG aF hxb2) rfl) rfl (aV fJ M26 rfl rfl (fun b27 w27 M27 => (bG 4 _ bK M27 rfl rfl rfl rfl rfl (aT rfl) rfl (fun w28 M28 => ?_)))))
    refine aB (aC (aE (bR [(0, 1), (1, 1), (2, 1), (3, 0), (4, 0), (5, 1), (6, 1), (7, 1), (8, 2), (9, 0)] mixed rfl (by kernel_rfl) (fun w29 hb29 hh29 => ?_))))
    have M29 := M28.drew hb29 hh29
    refine bV rfl rfl rfl (aU 2 eL M29 rfl rfl rfl) (bV rfl rfl rfl (aU 3 bK M29 rfl rfl rfl) (bV rfl rfl rfl (aU 4 bK M29 rfl rfl rfl) (kQ rfl rfl rfl (eF rfl rfl rfl (bV rfl rfl rfl (bN (i) dF rfl rfl rfl ((R.mem M29).below_len (aG aF hxb)) ((R.mem M29).someK (aG aF hxb))) ?_)))))
    refine bV rfl rfl rfl (bE 4 eC (R.mem M29) (Nat.lt_of_le_of_lt (Nat.zero_le _) ((R.mem M29).below_len (aG aF hxb))) rfl) (bV rfl rfl rfl (dV (o := 4) (.int _ _) aR (R.mem M29) (aG aF hxb) rfl rfl) (dS [true, true, true, true, true, true] rfl (by kernel_rfl) (uN bFy rfl rfl rfl ?_)))
    have hbm : 0 ≤ xb.mass ∧ xb.mass ≤ xa.mass + xb2.mass := ⟨(hb xb hbi).m.1, tO hs hma hmb hbi qa.1 qb.1 (by omega)⟩
    have hmq := (hb xb hbi).m
    have hsl := yI hc.n hbm
    have r1 := lB hsl hnx
    have r2 := lB hsl hny
    refine (yY _ cn xa xb2 hc.n hoa hob xb.mass hmq).mono ?_
    rintro _ w30 ⟨v30, rfl, ⟨rfl, hb30⟩⟩
    refine ⟨_, rfl, ?_⟩
    have M30 := M29.callB hb30
    refine aB (aC ⟨dT, ?_⟩)
    refine lM rfl rfl rfl (bY (aC (aE (aA (aO rfl rfl (wq (aD 2 gP rfl) rfl (wq (aD 0 cQ rfl) rfl ?_)))))))
    refine wq (aM 2 (.int _ _) aR M30 rfl rfl rfl) rfl (wq (aZ dO Tryz.underlying2 rfl (fC _ (by omega) (by omega))) rfl (wq (eS rfl rfl (by omega) (by omega)) rfl (bZ nH rfl rfl (eT _ _ 65536 (by decide) (by omega) (by omega)) ?_)))
    rintro v31 w31 ⟨rfl, hb31⟩
    have M31 := M30.callB hb31
    refine bC rfl rfl (aB (aC (aE (aA (aO rfl rfl (wq (aD 2 gP rfl) rfl (wq (aD 1 cK rfl) rfl (wq (aM 2 (.int _ _) aR M31 rfl rfl rfl) rfl ?_))))))))
    refine wq (aZ dO Tryz.underlying2 rfl (fC _ (by omega) (by omega))) rfl (wq (eS rfl rfl (by omega) (by omega)) rfl (bZ nH rfl rfl (eT _ _ 65536 (by decide) (by omega) (by omega)) ?_))
    rintro v32 w32 ⟨rfl, hb32⟩
    have M32 := M31.callB hb32
    refine bC rfl rfl (aB (aC (aE (aE (bR [(0, 0), (1, 0), (2, 1), (3, 0), (4, 0), (5, 1), (6, 1), (7, 1), (8, 0)] mixed rfl (by kernel_rfl) (fun w33 hb33 hh33 => ?_))))))
    have M33 := M32.drew hb33 hh33
    refine aX rfl rfl rfl (fun _ => aD 0 fI rfl) (aX rfl rfl rfl (fun _ => aD 0 gB rfl) (bV rfl rfl rfl (aM 2 (.int _ _) bU M33 rfl rfl rfl) (kQ rfl rfl rfl (eF rfl rfl rfl (bV rfl rfl rfl (bN (i) dF rfl rfl rfl ((R.mem M33).below_len (aG aF hxb)) ((R.mem M33).someK (aG aF hxb))) ?_)))))
    refine bV rfl rfl rfl (bE 0 dH (R.mem M33) (Nat.lt_of_le_of_lt (Nat.zero_le _) ((R.mem M33).below_len (aG aF hxb))) rfl) (bV rfl rfl rfl (dV (o := 0) (.int _ _) bU (R.mem M33) (aG aF hxb) rfl rfl) (aX rfl rfl rfl (fun _ => cA (.bool (decide _)) rfl rfl rfl) ?_))
    refine bY (aC ?_)
    refine aS rfl (fun h98 => ?_) (fun h98 => ?_)
    ·refine aE (aA (aO rfl rfl (wq (pG rfl (fC _ (by omega) (by omega))) rfl (bC rfl rfl (aB (aC (aA (aO rfl rfl ?_))))))))
     refine wq (pG rfl (fC _ (by omega) (by omega))) rfl (bC rfl rfl (aB (aC (aE (aA (wq (aD 0 kN rfl) rfl (wq (aM 1 (.int _ _) iR M33 rfl rfl rfl) rfl (aO rfl rfl ?_))))))))
     refine wq (aY rfl rfl (by omega) (by omega)) rfl (wq (aD 0 kN rfl) rfl (cZ 1 (.int _ _) iR M33 rfl rfl rfl rfl rfl rfl (fun w34 M34 => (aB (aC (aA (wq (aD 1 kP rfl) rfl (wq (aM 1 (.int _ _) iR M34 rfl rfl rfl) rfl ?_))))))))
     refine aO rfl rfl (wq (aY rfl rfl (by omega) (by omega)) rfl (wq (aD 1 kP rfl) rfl (cZ 1 (.int _ _) iR M34 rfl rfl rfl rfl rfl rfl (fun w35 M35 => (aB (cO ?_))))))
     refine aC (aA (aO rfl rfl (wq (aY rfl rfl (by omega) (by omega)) rfl (bC rfl rfl (aB ?_)))))
     refine cD (k2 + 1) (bA rfl dX) (cL rfl (cL rfl (cL rfl (cL rfl (cL rfl (cL rfl gO)))))) ?_ ?_
     ·exact ⟨by omega, by rw [iG hcn, iG hcn]; unfold tT; (have n1 : cn.low = xb.key := by omega); rw [if_pos n1, if_pos n1, hba, hbb]; exact M35.keep [true, true, false, false, false]⟩
     ·(show mc - (k2 + 1) < mc - k2; omega)
    ·refine aL (aC (aE (aA (wq (aD 0 kN rfl) rfl (wq (aM 1 (.int _ _) iR M33 rfl rfl rfl) rfl (aO rfl rfl (wq (aY rfl rfl (by omega) (by omega)) rfl (wq (aD 0 kN rfl) rfl ?_))))))))
     refine cZ 1 (.int _ _) iR M33 rfl rfl rfl rfl rfl rfl (fun w36 M36 => (aB (aC (aA (wq (aD 1 kP rfl) rfl (wq (aM 1 (.int _ _) iR M36 rfl rfl rfl) rfl (aO rfl rfl (wq (aY rfl rfl (by omega) (by omega)) rfl ?_))))))))
     refine wq (aD 1 kP rfl) rfl (cZ 1 (.int _ _) iR M36 rfl rfl rfl rfl rfl rfl (fun w37 M37 => (aB (cO (aC (aA (aO rfl rfl ?_)))))))
     refine wq (aY rfl rfl (by omega) (by omega)) rfl (bC rfl rfl (aB ?_))
     refine cD (k2 + 1) (bA rfl dX) (cL rfl (cL rfl (cL rfl (cL rfl (cL rfl (cL rfl gO)))))) ?_ ?_
     ·exact ⟨by omega, by rw [iG hcn, iG hcn]; unfold tT; (have n1 : ¬ cn.low = xb.key := by omega); (have n2 : cn.high = xb.key := by omega); rw [if_neg n1, if_pos n2, if_neg n1, if_pos n2, hba, hbb]; exact M37.keep [true, true, false, false, false]⟩
     ·(show mc - (k2 + 1) < mc - k2; omega)
  ·have hkn : k2 = mc := by omega
   rw [hkn, List.take_of_length_le (by omega)] at hM4
   refine cV (dD (dK (eO (aC (aA (dN rfl rfl ?_))))))
   refine wq (aU 1 bJd hM4 rfl rfl rfl) rfl (cU [.agg (List.toArray _)] [cI (jG xs cs xb)] rfl aTs hM4 rfl rfl rfl rfl (dE rfl) (by decide) (fun b38 w38 M38 => (dL 0 [cI (jG xs cs xb)] aTs M38 rfl rfl rfl rfl rfl hq rfl (by simp [cI, Go.Bil.one]) (dR.ofMem 2 M38 rfl) (by omega) (fun A39 c39 e39 w39 M39 hR39 => ?_))))
   refine eN rfl rfl (aB (cO (aC (aA (aO rfl rfl (wq (aY rfl rfl (by omega) (by omega)) rfl ?_))))))
   refine bC rfl rfl (aB ?_)
   refine cD (i + 1, ⟨A39, q.n + 1, c39, e39⟩) (bA rfl (bA rfl dX)) (cL rfl (cL rfl (cL rfl gO))) ?_ ?_
   ·exact ⟨⟨by omega, by rw [cR hxb, List.map_append, List.map_append]; exact hR39⟩, M39.keep [true, false, false]⟩
   ·(show n - (i + 1) < n - i; omega)
 ·have hin : i = n := by omega
  rw [List.take_of_length_le (by omega)] at hq
  refine cV (dD (dK (eO (aC (aE (aA (dN rfl rfl ?_)))))))
  refine eN rfl rfl (aB (aC (aP (cE (.slice _ _ _) rfl ?_))))
  exact ⟨q, rfl, hq, hM2⟩
set_option maxHeartbeats 4000000 in
theorem aEr (w : World) (A : Option Addr) (n c : Nat) (xs : List Body) (R : Rd w 10 A n (xs.map aF)) (hb : ∀ b ∈ xs, Okb b) (hn : n ≤ 1048576) :
  Calls Tryz.prog 45 #[.slice A n c] w (fun ex w' => ∃ v, ex = .returned v ∧ (fun v w' => ∃ r : Row, v = .tuple #[.slice r.A r.n r.c, .bool (xs.any lF)] ∧ bH 40 10 r.A r.n r.c ((oY xs).map aF) r.e ∧ Mem w [] [r.e] w') v w') := by
 have hlen : xs.length = n := by simpa using R.len
 have hbd := R.bound
 refine aI #[.tmp 2, .tmp 3] 47 Tryz.func45 rfl Tryz.results45 Tryz.ntmps45 rfl ?_
 have M0 := Mem.refl w
 refine aE (aA (eN rfl rfl (wq (aJ (.bool false) rfl) rfl (aB (aC (aE (aA (eN rfl rfl ?_))))))))
 have M1 := M0.dummy default
 refine aB (aC (aE (aA (wq (aJ (.bool false) rfl) rfl (aB (aC (aE (aE (aA (bC rfl rfl (aB (aC (aQ (dQ (σ := Nat × Row) [0, 2, 3] (fun (k, q) => [(4, .slice q.A q.n q.c), (5, .bool ((xs.take k).any lF)), (6, .int .i64 (k : Int))]) (fun (k, q) w' => (k ≤ n ∧ bH 40 10 q.A q.n q.c (((xs.take k).map nG).map aF) q.e) ∧ Mem w [] [q.e] w') (fun (k, q) => n - k) (0, hJ) (bA rfl (bA (bv rfl rfl) (bA rfl dX))) (⟨⟨by omega, bH.nil _ _ _⟩, M1⟩) ?_))))))))))))))
 rintro ⟨k, q⟩ ρ2 w2 ⟨⟨hk, hq⟩, hM2⟩
 have htl := List.length_take_le k xs
 have hqn : (xs.take k).length = q.n := by simpa using hq.1
 refine aE (aE (aA (aO rfl rfl (dN rfl rfl (wq (dB Tryz.underlying22 rfl) rfl (cX rfl rfl rfl rfl (aB (aC ?_))))))))
 refine aS rfl (fun h12 => ?_) (fun h12 => ?_)
 ·obtain ⟨xb, hxb⟩ := cT (xs := xs) (k := k) hlen (by omega)
  have hob := hb xb (List.mem_of_getElem? hxb)
  have hm := hob.m
  have hv := hob.v
  have hly := eJ (xb.vy - 1024) (l := 16777216) (by decide)
  refine aL (aC (aE (aQ (aE (aA (dN rfl rfl (aO rfl rfl (wq (bN (k) dF rfl rfl rfl ((R.mem hM2).below_len (aG aF hxb)) ((R.mem hM2).someK (aG aF hxb))) rfl (wq (dJ _ bK (R.mem hM2) (aG aF hxb) rfl) rfl (aV fJ hM2 rfl rfl (fun b3 w3 M3 => ?_)))))))))))
  refine bG 1 _ bK M3 rfl rfl rfl rfl rfl (aT rfl) rfl (fun w4 M4 => (aB (aC (aE (aE (aA (wq (aD 4 eC rfl) rfl (wq (aM 1 (.int _ _) aR M4 rfl rfl rfl) rfl (cX rfl rfl rfl rfl (aB (aC ?_)))))))))))
  refine aS rfl (fun h21 => ?_) (fun h21 => ?_)
  ·have hms : xb.mass ≠ 0 := by omega
   have hgb : nG xb = { xb with vy := iI (xb.vy - 1024) 16777216 } := by unfold nG; rw [if_neg hms]
   refine aE (aA (wq (aD 8 dP rfl) rfl (wq (aD 1 cK rfl) rfl (wq (aM 1 (.int _ _) aR M4 rfl rfl rfl) rfl (wq (aZ dO Tryz.underlying2 rfl (fC _ (by omega) (by omega))) rfl (wq (fX rfl rfl (by omega) (by omega)) rfl ?_))))))
   refine bC rfl rfl (aB (aC (aE (aA (aO rfl rfl (bZ aBs rfl rfl (jR _ (xb.vy - 1024) 16777216 ⟨by decide, by decide⟩) ?_))))))
   rintro v5 w5 ⟨rfl, hb5⟩
   have M5 := M4.callB hb5
   refine wq (aZ lK Tryz.underlying21 rfl (iP _ (by omega) (by omega))) rfl (wq (aD 8 dP rfl) rfl (wq (aD 1 cK rfl) rfl (cZ 1 (.int _ _) aR M5 rfl rfl rfl rfl rfl rfl (fun w6 M6 => (aB (aC (aA (wq (aH (.bool _) rfl) rfl ?_))))))))
   refine wq (aH (.bool _) rfl) rfl ?_
   refine jI 33 _ rfl (fun g33 => ?_) (fun g33 => ?_)
   ·refine aN rfl rfl (aN rfl rfl (aN rfl rfl (aN rfl rfl (aN rfl rfl (aN rfl rfl ?_)))))
    refine wq (bM true (.bool true) rfl rfl) rfl (wq (aJ (.bool true) rfl) rfl (aB (aC (aA (dN rfl rfl (wq (aU 1 bK M6 rfl rfl rfl) rfl (cU [.agg (List.toArray _)] [aF { xb with vy := iI (xb.vy - 1024) 16777216 }] rfl dF M6 rfl rfl rfl rfl (dE rfl) (by decide) (fun b7 w7 M7 => ?_))))))))
    refine dL 0 [aF { xb with vy := iI (xb.vy - 1024) 16777216 }] dF M7 rfl rfl rfl rfl rfl hq rfl (by simp [aF, Go.Bil.one]) (dR.ofMem 2 M7 rfl) (by omega) (fun A8 c8 e8 w8 M8 hR8 => ?_)
    rw [← hgb] at hR8
    refine eN rfl rfl (aB (cO (aC (aA (aO rfl rfl (wq (aY rfl rfl (by omega) (by omega)) rfl ?_))))))
    refine bC rfl rfl (aB ?_)
    refine cD (k + 1, ⟨A8, q.n + 1, c8, e8⟩) (bA rfl (bA (bv rfl (by rw [cR hxb, List.any_append, List.any_cons, List.any_nil, Bool.or_false]; rw [show lF xb = decide (iI (xb.vy - 1024) 16777216 ≠ xb.vy - 1024) by unfold lF; rw [decide_eq_true hms, Bool.true_and]]; rw [g33]; first | exact (Bool.true_or _).symm | exact (Bool.false_or _).symm)) (bA rfl dX))) (cL rfl (cL rfl (cL rfl gO))) ?_ ?_
    ·exact ⟨⟨by omega, by rw [cR hxb, List.map_append, List.map_append]; exact hR8⟩, M8.keep [true, false, false]⟩
    ·(show n - (k + 1) < n - k; omega)
   ·refine wq (aD 8 dP rfl) rfl (wq (aD 1 cK rfl) rfl (wq (aM 1 (.int _ _) aR M6 rfl rfl rfl) rfl (wq (aZ dO Tryz.underlying2 rfl (fC _ (by omega) (by omega))) rfl (aO rfl rfl (cX rfl rfl rfl rfl ?_)))))
    refine wq (bM false (.bool (decide _)) rfl rfl) rfl (wq (aJ (.bool (decide _)) rfl) rfl (aB (aC (aA (dN rfl rfl (wq (aU 1 bK M6 rfl rfl rfl) rfl (cU [.agg (List.toArray _)] [aF { xb with vy := iI (xb.vy - 1024) 16777216 }] rfl dF M6 rfl rfl rfl rfl (dE rfl) (by decide) (fun b9 w9 M9 => ?_))))))))
    refine dL 0 [aF { xb with vy := iI (xb.vy - 1024) 16777216 }] dF M9 rfl rfl rfl rfl rfl hq rfl (by simp [aF, Go.Bil.one]) (dR.ofMem 2 M9 rfl) (by omega) (fun A10 c10 e10 w10 M10 hR10 => ?_)
    rw [← hgb] at hR10
    refine eN rfl rfl (aB (cO (aC (aA (aO rfl rfl (wq (aY rfl rfl (by omega) (by omega)) rfl ?_))))))
    refine bC rfl rfl (aB ?_)
    refine cD (k + 1, ⟨A10, q.n + 1, c10, e10⟩) (bA rfl (bA (bv rfl (by rw [cR hxb, List.any_append, List.any_cons, List.any_nil, Bool.or_false]; rw [show lF xb = decide (iI (xb.vy - 1024) 16777216 ≠ xb.vy - 1024) by unfold lF; rw [decide_eq_true hms, Bool.true_and]]; rw [g33]; first | exact (Bool.true_or _).symm | exact (Bool.false_or _).symm)) (bA rfl dX))) (cL rfl (cL rfl (cL rfl gO))) ?_ ?_
    ·exact ⟨⟨by omega, by rw [cR hxb, List.map_append, List.map_append]; exact hR10⟩, M10.keep [true, false, false]⟩
    ·(show n - (k + 1) < n - k; omega)
  ·have hms : ¬ xb.mass ≠ 0 := by omega
   have hgb : nG xb = xb := by unfold nG; rw [if_pos (by omega)]
   refine aL (aC (aA (dN rfl rfl (wq (aU 1 bK M4 rfl rfl rfl) rfl (cU [.agg (List.toArray _)] [aF xb] rfl dF M4 rfl rfl rfl rfl (dE rfl) (by decide) (fun b11 w11 M11 => (dL 0 [aF xb] dF M11 rfl rfl rfl rfl rfl hq rfl (by simp [aF, Go.Bil.one]) (dR.ofMem 2 M11 rfl) (by omega) (fun A12 c12 e12 w12 M12 hR12 => ?_))))))))
   rw [← hgb] at hR12
   refine eN rfl rfl (aB (cO (aC (aA (aO rfl rfl (wq (aY rfl rfl (by omega) (by omega)) rfl ?_))))))
   refine bC rfl rfl (aB ?_)
   refine cD (k + 1, ⟨A12, q.n + 1, c12, e12⟩) (bA rfl (bA (bv rfl (by rw [cR hxb, List.any_append, List.any_cons, List.any_nil, Bool.or_false]; rw [show lF xb = false by unfold lF; rw [decide_eq_false hms, Bool.false_and], Bool.or_false])) (bA rfl dX))) (cL rfl (cL rfl (cL rfl gO))) ?_ ?_
   ·exact ⟨⟨by omega, by rw [cR hxb, List.map_append, List.map_append]; exact hR12⟩, M12.keep [true, false, false]⟩
   ·(show n - (k + 1) < n - k; omega)
 ·have hkn : k = n := by omega
  rw [List.take_of_length_le (by omega)] at hq
  refine cV (dD (dK (eO (aC (aE (aA (dN rfl rfl ?_)))))))
  refine wq (aH (.bool _) rfl) rfl (eN rfl rfl (wq (aJ (.bool _) rfl) rfl (aB (aC (aP (gA (.slice _ _ _) (.bool _) rfl rfl ?_))))))
  exact ⟨q, rN rfl (congrArg Value.bool (by rw [List.take_of_length_le (by omega)])), hq, hM2⟩
theorem bGj {a b c a' b' c' : Value} (h1 : a = a') (h2 : b = b') (h3 : c = c') : Value.tuple #[a, b, c] = Value.tuple #[a', b', c'] := by rw [h1, h2, h3]
theorem aBq (xs : List Body) : uH xs = ((xs.any lF || (gL (oY xs) (lL xs) 4).2) || aRr xs (lL xs) (kV xs)) := rfl
set_option maxHeartbeats 8000000 in
theorem aOa (w : World) (A : Option Addr) (n c : Nat) (xs : List Body) (R : Rd w 10 A n (xs.map aF)) (hb : ∀ b ∈ xs, Okb b) (hn : n ≤ 1048576) (G : Body → Int × Int) (hG : ∀ b ∈ xs, (-1152921504606846976 ≤ (G b).1 ∧ (G b).1 ≤ 1152921504606846976) ∧ -1152921504606846976 ≤ (G b).2 ∧ (G b).2 ≤ 1152921504606846976) (C : Option Addr) (cm : Nat) (RS : Rd w 2 C n ((xs.map G).map cI)) :
  Calls Tryz.prog 47 #[.slice A n c, .slice C n cm] w (fun ex w' => ∃ v, ex = .returned v ∧ (fun v w' => ∃ r : Row, v = .tuple #[.slice r.A r.n r.c, .bool (xs.any (fun b => aFf b (G b).1 (G b).2))] ∧ bH 40 10 r.A r.n r.c ((xs.map (fun b => sE b (G b).1 (G b).2)).map aF) r.e ∧ Mem w [] [r.e] w') v w') := by
 have hlen : xs.length = n := by simpa using R.len
 have hbd := R.bound
 refine aI #[.tmp 4, .tmp 5] 85 Tryz.func47 rfl Tryz.results47 Tryz.ntmps47 rfl ?_
 have M0 := Mem.refl w
 refine aE (aA (eN rfl rfl (wq (aJ (.bool false) rfl) rfl (aB (aC (aE (aA (eN rfl rfl ?_))))))))
 have M1 := M0.dummy default
 refine aB (aC (aE (aA (wq (aJ (.bool false) rfl) rfl (aB (aC (aE (aE (aA (bC rfl rfl (aB (aC (aQ (dQ (σ := Nat × Row) [0, 1, 4, 5] (fun (k, q) => [(6, .slice q.A q.n q.c), (7, .bool ((xs.take k).any (fun b => aFf b (G b).1 (G b).2))), (8, .int .i64 (k : Int))]) (fun (k, q) w' => (k ≤ n ∧ bH 40 10 q.A q.n q.c (((xs.take k).map (fun b => sE b (G b).1 (G b).2)).map aF) q.e) ∧ Mem w [] [q.e] w') (fun (k, q) => n - k) (0, hJ) (bA rfl (bA (bv rfl rfl) (bA rfl dX))) (⟨⟨by omega, bH.nil _ _ _⟩, M1⟩) ?_))))))))))))))
 rintro ⟨k, q⟩ ρ2 w2 ⟨⟨hk, hq⟩, hM2⟩
 have htl := List.length_take_le k xs
 have hqn : (xs.take k).length = q.n := by simpa using hq.1
 refine aE (aE (aA (aO rfl rfl (dN rfl rfl (wq (dB Tryz.underlying22 rfl) rfl (cX rfl rfl rfl rfl (aB (aC ?_))))))))
 refine aS rfl (fun h15 => ?_) (fun h15 => ?_)
 ·obtain ⟨xb, hxb⟩ := cT (xs := xs) (k := k) hlen (by omega)
  have hxm := List.mem_of_getElem? hxb
  have hob := hb xb hxm
  have hv := hob.v
  have hpx := hob.p
  have hgb := hG xb hxm
  have hlx := eJ (aFd xb (G xb).1) (l := 1073741824) (by decide)
  have hly := eJ (aEk xb (G xb).2) (l := 1073741824) (by decide)
  refine aL (aC (aE (aQ (aE (aA (dN rfl rfl (aO rfl rfl (wq (bN (k) dF rfl rfl rfl ((R.mem hM2).below_len (aG aF hxb)) ((R.mem hM2).someK (aG aF hxb))) rfl (wq (dJ _ bK (R.mem hM2) (aG aF hxb) rfl) rfl (aV fJ hM2 rfl rfl (fun b3 w3 M3 => ?_)))))))))))
  refine bG 1 _ bK M3 rfl rfl rfl rfl rfl (aT rfl) rfl (fun w4 M4 => (aB (aC (aE (bR [(0, 0), (1, 0), (2, 1), (3, 0), (4, 0), (5, 0), (6, 1), (7, 1), (8, 1), (9, 0), (10, 0), (11, 0), (12, 1), (13, 0), (14, 2), (15, 0), (16, 0)] mixed rfl (by kernel_rfl) (fun w5 hb5 hh5 => ?_))))))
  have M5 := M4.drew hb5 hh5
  refine aX rfl rfl rfl (fun _ => aD 6 fD rfl) (aX rfl rfl rfl (fun _ => aD 0 cQ rfl) (bV rfl rfl rfl (aM 1 (.int _ _) aR M5 rfl rfl rfl) (aX rfl rfl rfl (fun _ => aZ dO Tryz.underlying2 rfl (fC _ (by omega) (by omega))) (kQ rfl rfl rfl (eF rfl rfl rfl ?_)))))
  refine bV rfl rfl rfl (bN (k) aTs rfl rfl rfl ((RS.mem M5).below_len (aG cI (aG G hxb))) ((RS.mem M5).someK (aG cI (aG G hxb)))) (bV rfl rfl rfl (bE 0 kN (RS.mem M5) (Nat.lt_of_le_of_lt (Nat.zero_le _) ((RS.mem M5).below_len (aG cI (aG G hxb)))) rfl) ?_)
  refine bV rfl rfl rfl (dV (o := 0) (.int _ _) iR (RS.mem M5) (aG cI (aG G hxb)) rfl rfl) (aX rfl rfl rfl (fun _ => aY rfl rfl (by omega) (by omega)) (aX rfl rfl rfl (fun _ => aD 8 dP rfl) (aX rfl rfl rfl (fun _ => aD 0 cQ rfl) (bV rfl rfl rfl (aM 1 (.int _ _) aR M5 rfl rfl rfl) ?_))))
  refine aX rfl rfl rfl (fun _ => aZ dO Tryz.underlying2 rfl (fC _ (by omega) (by omega))) (dS [true, false, false, false, false] rfl (by kernel_rfl) (bZ nH rfl rfl (eT _ xb.vx 64 (by decide) (by omega) (by omega)) ?_))
  rintro v6 w6 ⟨rfl, hb6⟩
  have M6 := M5.callB hb6
  refine aB (aC ⟨(eD (bL rfl (dV (o := 0) (.int _ _) iR (RS.mem M6) (aG cI (aG G hxb)) rfl rfl)) (eD (bL rfl (bE 0 kN (RS.mem M6) (Nat.lt_of_le_of_lt (Nat.zero_le _) ((RS.mem M6).below_len (aG cI (aG G hxb)))) rfl)) (eD (bL rfl (bN (k) aTs rfl rfl rfl ((RS.mem M6).below_len (aG cI (aG G hxb))) ((RS.mem M6).someK (aG cI (aG G hxb))))) (eD (bL rfl (aM 1 (.int _ _) aR M6 rfl rfl rfl)) dT)))), ?_⟩)
  refine aX rfl rfl rfl (fun _ => aY rfl rfl (by omega) (by omega)) (dY 37 (.int .i64 (aFd xb (G xb).1)) rfl (lM rfl rfl rfl (bY (aC (aE (bR [(0, 0), (1, 0), (2, 1), (3, 0), (4, 0), (5, 0), (6, 1), (7, 1), (8, 1), (9, 0), (10, 0), (11, 0), (12, 1), (13, 0), (14, 2), (15, 0), (16, 0)] mixed rfl (by kernel_rfl) (fun w7 hb7 hh7 => ?_)))))))
  have M7 := M6.drew hb7 hh7
  refine aX rfl rfl rfl (fun _ => aD 6 fD rfl) (aX rfl rfl rfl (fun _ => aD 1 cK rfl) (bV rfl rfl rfl (aM 1 (.int _ _) aR M7 rfl rfl rfl) (aX rfl rfl rfl (fun _ => aZ dO Tryz.underlying2 rfl (fC _ (by omega) (by omega))) (kQ rfl rfl rfl (eF rfl rfl rfl ?_)))))
  refine bV rfl rfl rfl (bN (k) aTs rfl rfl rfl ((RS.mem M7).below_len (aG cI (aG G hxb))) ((RS.mem M7).someK (aG cI (aG G hxb)))) (bV rfl rfl rfl (bE 1 kP (RS.mem M7) (Nat.lt_of_le_of_lt (Nat.zero_le _) ((RS.mem M7).below_len (aG cI (aG G hxb)))) rfl) ?_)
  refine bV rfl rfl rfl (dV (o := 1) (.int _ _) iR (RS.mem M7) (aG cI (aG G hxb)) rfl rfl) (aX rfl rfl rfl (fun _ => aY rfl rfl (by omega) (by omega)) (aX rfl rfl rfl (fun _ => aD 8 dP rfl) (aX rfl rfl rfl (fun _ => aD 1 cK rfl) (bV rfl rfl rfl (aM 1 (.int _ _) aR M7 rfl rfl rfl) ?_))))
  refine aX rfl rfl rfl (fun _ => aZ dO Tryz.underlying2 rfl (fC _ (by omega) (by omega))) (dS [true, false, false, false, false] rfl (by kernel_rfl) (bZ nH rfl rfl (eT _ xb.vy 64 (by decide) (by omega) (by omega)) ?_))
  rintro v8 w8 ⟨rfl, hb8⟩
  have M8 := M7.callB hb8
  refine aB (aC ⟨(eD (bL rfl (dV (o := 1) (.int _ _) iR (RS.mem M8) (aG cI (aG G hxb)) rfl rfl)) (eD (bL rfl (bE 1 kP (RS.mem M8) (Nat.lt_of_le_of_lt (Nat.zero_le _) ((RS.mem M8).below_len (aG cI (aG G hxb)))) rfl)) (eD (bL rfl (bN (k) aTs rfl rfl rfl ((RS.mem M8).below_len (aG cI (aG G hxb))) ((RS.mem M8).someK (aG cI (aG G hxb))))) (eD (bL rfl (aM 1 (.int _ _) aR M8 rfl rfl rfl)) dT)))), ?_⟩)
  refine aX rfl rfl rfl (fun _ => aY rfl rfl (by omega) (by omega)) (dY 53 (.int .i64 (aEk xb (G xb).2)) rfl (lM rfl rfl rfl (bY (aC (aE (aA (aO rfl rfl ?_)))))))
  refine bZ aBs rfl rfl (jR _ (aFd xb (G xb).1) 1073741824 ⟨by decide, by decide⟩) ?_
  rintro v9 w9 ⟨rfl, hb9⟩
  have M9 := M8.callB hb9
  refine wq (aZ lK Tryz.underlying21 rfl (iP _ (by omega) (by omega))) rfl (aO rfl rfl (bZ aBs rfl rfl (jR _ (aEk xb (G xb).2) 1073741824 ⟨by decide, by decide⟩) ?_))
  rintro v10 w10 ⟨rfl, hb10⟩
  have M10 := M9.callB hb10
  refine wq (aZ lK Tryz.underlying21 rfl (iP _ (by omega) (by omega))) rfl (wq (cP [(0, .int _ _), (1, .int _ _)] _ eG rfl rfl) rfl (wq (aD 6 fD rfl) rfl (qP 1 _ bI M10 rfl rfl rfl rfl rfl (aT rfl) (Nat.le_of_ble_eq_true rfl) (fun w11 M11 => (aB (aC (aE (aA ?_))))))))
  refine wq (aH (.bool _) rfl) rfl (wq (aH (.bool _) rfl) rfl ?_)
  refine jI 63 _ rfl (fun g63 => ?_) (fun g63 => ?_)
  ·refine aN rfl rfl (aN rfl rfl (aN rfl rfl (aN rfl rfl (aN rfl rfl (aN rfl rfl ?_)))))
   refine wq (bM true (.bool true) rfl rfl) rfl (wq (aH (.bool true) rfl) rfl (aN rfl rfl (aN rfl rfl (aN rfl rfl (aN rfl rfl ?_)))))
   refine aN rfl rfl (aN rfl rfl (wq (bM true (.bool true) rfl rfl) rfl (wq (aJ (.bool true) rfl) rfl (aB (aC (aA (dN rfl rfl ?_)))))))
   refine wq (aU 1 bK M11 rfl rfl rfl) rfl (cU [.agg (List.toArray _)] [aF (sE xb (G xb).1 (G xb).2)] rfl dF M11 rfl rfl rfl rfl (dE rfl) (by decide) (fun b12 w12 M12 => (dL 0 [aF (sE xb (G xb).1 (G xb).2)] dF M12 rfl rfl rfl rfl rfl hq rfl (by simp [aF, Go.Bil.one]) (dR.ofMem 2 M12 rfl) (by omega) (fun A13 c13 e13 w13 M13 hR13 => ?_))))
   refine eN rfl rfl (aB (cO (aC (aA (aO rfl rfl (wq (aY rfl rfl (by omega) (by omega)) rfl ?_))))))
   refine bC rfl rfl (aB ?_)
   refine cD (k + 1, ⟨A13, q.n + 1, c13, e13⟩) (bA rfl (bA (bv rfl (by rw [cR hxb, List.any_append, List.any_cons, List.any_nil, Bool.or_false]; rw [g63, Bool.true_or])) (bA rfl dX))) (cL rfl (cL rfl (cL rfl (cL rfl gO)))) ?_ ?_
   ·exact ⟨⟨by omega, by rw [cR hxb, List.map_append, List.map_append]; exact hR13⟩, M13.keep [true, false, false]⟩
   ·(show n - (k + 1) < n - k; omega)
  ·refine wq (aD 6 fD rfl) rfl (wq (aD 0 cQ rfl) rfl (wq (aM 1 (.int _ _) aR M11 rfl rfl rfl) rfl (wq (aZ dO Tryz.underlying2 rfl (fC _ (by omega) (by omega))) rfl (aO rfl rfl (cX rfl rfl rfl rfl ?_)))))
   refine wq (bM false (.bool (decide _)) rfl rfl) rfl (wq (aH (.bool (decide _)) rfl) rfl ?_)
   refine dI 71 rfl (fun g71 => ?_) (fun g71 => ?_)
   ·refine aN rfl rfl (aN rfl rfl (aN rfl rfl (aN rfl rfl (aN rfl rfl (aN rfl rfl ?_)))))
    refine wq (bM true (.bool true) rfl rfl) rfl (wq (aJ (.bool true) rfl) rfl (aB (aC (aA (dN rfl rfl (wq (aU 1 bK M11 rfl rfl rfl) rfl (cU [.agg (List.toArray _)] [aF (sE xb (G xb).1 (G xb).2)] rfl dF M11 rfl rfl rfl rfl (dE rfl) (by decide) (fun b14 w14 M14 => ?_))))))))
    refine dL 0 [aF (sE xb (G xb).1 (G xb).2)] dF M14 rfl rfl rfl rfl rfl hq rfl (by simp [aF, Go.Bil.one]) (dR.ofMem 2 M14 rfl) (by omega) (fun A15 c15 e15 w15 M15 hR15 => (eN rfl rfl (aB (cO (aC (aA (aO rfl rfl ?_)))))))
    refine wq (aY rfl rfl (by omega) (by omega)) rfl (bC rfl rfl (aB ?_))
    refine cD (k + 1, ⟨A15, q.n + 1, c15, e15⟩) (bA rfl (bA (bv rfl (by rw [cR hxb, List.any_append, List.any_cons, List.any_nil, Bool.or_false]; rw [g63]; simp [aFf, g71])) (bA rfl dX))) (cL rfl (cL rfl (cL rfl (cL rfl gO)))) ?_ ?_
    ·exact ⟨⟨by omega, by rw [cR hxb, List.map_append, List.map_append]; exact hR15⟩, M15.keep [true, false, false]⟩
    ·(show n - (k + 1) < n - k; omega)
   ·refine wq (aD 6 fD rfl) rfl (wq (aD 1 cK rfl) rfl (wq (aM 1 (.int _ _) aR M11 rfl rfl rfl) rfl (wq (aZ dO Tryz.underlying2 rfl (fC _ (by omega) (by omega))) rfl (aO rfl rfl (cX rfl rfl rfl rfl ?_)))))
    refine wq (bM false (.bool (decide _)) rfl rfl) rfl (wq (aJ (.bool (decide _)) rfl) rfl (aB (aC (aA (dN rfl rfl (wq (aU 1 bK M11 rfl rfl rfl) rfl (cU [.agg (List.toArray _)] [aF (sE xb (G xb).1 (G xb).2)] rfl dF M11 rfl rfl rfl rfl (dE rfl) (by decide) (fun b16 w16 M16 => ?_))))))))
    refine dL 0 [aF (sE xb (G xb).1 (G xb).2)] dF M16 rfl rfl rfl rfl rfl hq rfl (by simp [aF, Go.Bil.one]) (dR.ofMem 2 M16 rfl) (by omega) (fun A17 c17 e17 w17 M17 hR17 => (eN rfl rfl (aB (cO (aC (aA (aO rfl rfl ?_)))))))
    refine wq (aY rfl rfl (by omega) (by omega)) rfl (bC rfl rfl (aB ?_))
    refine cD (k + 1, ⟨A17, q.n + 1, c17, e17⟩) (bA rfl (bA (bv rfl (by rw [cR hxb, List.any_append, List.any_cons, List.any_nil, Bool.or_false]; rw [g63]; simp [aFf, g71])) (bA rfl dX))) (cL rfl (cL rfl (cL rfl (cL rfl gO)))) ?_ ?_
    ·exact ⟨⟨by omega, by rw [cR hxb, List.map_append, List.map_append]; exact hR17⟩, M17.keep [true, false, false]⟩
    ·(show n - (k + 1) < n - k; omega)
 ·have hkn : k = n := by omega
  rw [List.take_of_length_le (by omega)] at hq
  refine cV (dD (dK (eO (aC (aE (aA (dN rfl rfl ?_)))))))
  refine wq (aH (.bool _) rfl) rfl (eN rfl rfl (wq (aJ (.bool _) rfl) rfl (aB (aC (aP (gA (.slice _ _ _) (.bool _) rfl rfl ?_))))))
  exact ⟨q, rN rfl (congrArg Value.bool (by rw [List.take_of_length_le (by omega)])), hq, hM2⟩
set_option maxHeartbeats 8000000 in
theorem aPe (w : World) (A : Option Addr) (n c : Nat) (xs : List Body) (R : Rd w 10 A n (xs.map aF)) (hb : ∀ b ∈ xs, Okb b) (hs : cS xs) (hn : n ≤ 4096) :
  Calls Tryz.prog 17 #[.slice A n c] w (fun ex w' => ∃ v, ex = .returned v ∧ (fun v w' => ∃ r : Row, v = .tuple #[.slice r.A r.n r.c, .int .i64 ((lL xs).length : Int), .bool (uH xs)] ∧ bH 40 10 r.A r.n r.c ((rM xs).map aF) r.e ∧ Mem w [] [r.e] w') v w') := by
 have hlen : xs.length = n := by simpa using R.len
 have hnn : xs.length * xs.length ≤ 4096 * 4096 := Nat.mul_le_mul (by omega) (by omega)
 have hcl := aBf xs
 have hsq := aRf (xs := xs)
 refine aI #[.tmp 2, .tmp 3, .tmp 4] 43 Tryz.func17 rfl Tryz.results17 Tryz.ntmps17 rfl ?_
 have M0 := Mem.refl w
 refine aE (aA (eN rfl rfl (bC rfl rfl (wq (aJ (.bool false) rfl) rfl (aB (aC (aE (aA (dN rfl rfl ?_)))))))))
 refine bZ bMg rfl rfl (aUq _ _ _ _ xs (R.mem M0) hb hs (by first | decide | omega)) ?_
 rintro v1 w1 ⟨r, rfl, hr, hM1⟩
 have M1 : Mem _ _ [_] _ := M0.call0 hM1
 have hrn : (lL xs).length = r.n := by simpa using hr.1
 refine eN rfl rfl (aB (aC (aE (aA (dN rfl rfl (bZ bLc rfl rfl (aEr _ A n c xs (R.mem M1) hb (by omega)) ?_))))))
 rintro v2 w2 ⟨g, rfl, hg, hM2⟩
 have M2 : Mem _ _ [_, _] _ := M1.call0 hM2
 have hgn : (oY xs).length = g.n := by simpa using hg.1
 have hgl := (jX xs).len
 refine wq (aH (.tuple (List.toArray _)) rfl) rfl (wq (bO (.slice _ _ _) rfl rfl) rfl (wq (bO (.bool _) rfl rfl) rfl (eN rfl rfl (wq (aJ (.bool _) rfl) rfl (aB (aC (aE (aA ?_))))))))
 refine dN rfl rfl (dN rfl rfl (bZ bKe rfl rfl (aKr _ g.A g.n g.c (oY xs) (hg.rd M2 (bJ (i := 1) rfl)) ((jX xs).sorted hs) (wA hb) (by omega) r.A r.n r.c (lL xs) (hr.rd M2 (bJ (i := 0) rfl)) (fun c h => (jX xs).okc (pW hs hb c h)) (by omega)) ?_))
 rintro v3 w3 ⟨⟨sA, sn, sc, se⟩, rfl, hsv, hM3⟩
 have hsn : (kV xs).length = sn := by have h := hsv.1; rwa [List.length_map] at h
 have hlk : Like xs (kV xs) := (jX xs).trans (iQ _ _ 4)
 have hsl := hlk.len
 obtain rfl : n = sn := by omega
 have M3 : Mem _ _ [_, _, _] _ := M2.call0 hM3
 refine wq (aH (.tuple (List.toArray _)) rfl) rfl (wq (bO (.slice _ _ _) rfl rfl) rfl (wq (bO (.bool _) rfl rfl) rfl (eN rfl rfl (wq (aJ (.bool _) rfl) rfl (aB (aC (aE (aA ?_))))))))
 refine dN rfl rfl (dN rfl rfl (dN rfl rfl (bZ bKd rfl rfl (aHl _ A n c xs (R.mem M3) hs hb (by omega) r.A r.n r.c (lL xs) (hr.rd M3 (bJ (i := 0) rfl)) (pW hs hb) (by omega)) ?_)))
 rintro v4 w4 ⟨⟨qA, qn, qc, qe⟩, rfl, hq, hM4⟩
 have hqn : xs.length = qn := by simpa using hq.1
 obtain rfl : n = qn := by omega
 rw [aBi hlk] at hq
 have M4 : Mem _ _ [_, _, _, _] _ := M3.call0 hM4
 refine bZ bKg rfl rfl (aOa _ sA n sc (kV xs) (hsv.rd M4 (bJ (i := 2) rfl)) (pX (wA hb) 4) (by omega) (jG xs (lL xs)) (aRj hs hb (pW hs hb) (by omega) hlk) qA qc (hq.rd M4 (bJ (i := 3) rfl))) ?_
 rintro v5 w5 ⟨m, rfl, hm, hM5⟩
 have M5 : Mem _ _ [_, _, _, _, _] _ := M4.call0 hM5
 refine wq (aH (.tuple (List.toArray _)) rfl) rfl (wq (bO (.slice _ _ _) rfl rfl) rfl (wq (bO (.bool _) rfl rfl) rfl (eN rfl rfl (wq (aJ (.bool _) rfl) rfl (aB (aC (aE (aA ?_))))))))
 refine dN rfl rfl (dN rfl rfl (wq (dB Tryz.underlying82 rfl) rfl (wq (aH (.bool _) rfl) rfl (wq (aH (.bool _) rfl) rfl ?_))))
 refine jI 37 _ rfl (fun g37 => ?_) (fun g37 => ?_)
 ·refine aN rfl rfl (wq (bM true (.bool true) rfl rfl) rfl (wq (aH (.bool true) rfl) rfl (aN rfl rfl (wq (bM true (.bool true) rfl rfl) rfl (eN rfl rfl ?_)))))
  refine bC rfl rfl (wq (aJ (.bool true) rfl) rfl (aB (aC (aP (bAp (.slice _ _ _) (.int _ _) (.bool true) rfl rfl rfl ?_)))))
  exact ⟨m, bGj rfl (iE (by rw [hrn])) (congrArg Value.bool (by rw [aBq]; first | (simp only [g37, Bool.true_or]; done) | (simp only [g37, g40, Bool.false_or, Bool.true_or]; done) | (rw [g37, g40]; rfl))), hm, M5.keep [false, false, false, false, true]⟩
 ·refine wq (aH (.bool _) rfl) rfl (wq (bM false (.bool _) rfl rfl) rfl (wq (aH (.bool _) rfl) rfl ?_))
  refine jI 40 _ rfl (fun g40 => ?_) (fun g40 => ?_)
  ·refine aN rfl rfl (wq (bM true (.bool true) rfl rfl) rfl (eN rfl rfl (bC rfl rfl (wq (aJ (.bool true) rfl) rfl (aB (aC (aP ?_)))))))
   refine bAp (.slice _ _ _) (.int _ _) (.bool true) rfl rfl rfl ?_
   exact ⟨m, bGj rfl (iE (by rw [hrn])) (congrArg Value.bool (by rw [aBq]; first | (simp only [g37, Bool.true_or]; done) | (simp only [g37, g40, Bool.false_or, Bool.true_or]; done) | (rw [g37, g40]; rfl))), hm, M5.keep [false, false, false, false, true]⟩
  ·refine wq (aH (.bool _) rfl) rfl (wq (bM false (.bool _) rfl rfl) rfl (eN rfl rfl (bC rfl rfl (wq (aJ (.bool _) rfl) rfl (aB (aC (aP ?_)))))))
   refine bAp (.slice _ _ _) (.int _ _) (.bool _) rfl rfl rfl ?_
   exact ⟨m, bGj rfl (iE (by rw [hrn])) (congrArg Value.bool (by rw [aBq]; first | (simp only [g37, Bool.true_or]; done) | (simp only [g37, g40, Bool.false_or, Bool.true_or]; done) | (rw [g37, g40]; rfl))), hm, M5.keep [false, false, false, false, true]⟩
end Go.Proofs.YtlmcphcgiclanaaGreatDoor
