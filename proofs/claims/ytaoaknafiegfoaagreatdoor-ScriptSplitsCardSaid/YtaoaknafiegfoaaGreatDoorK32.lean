/- Part of the proof of the laws of this seat: S20i, S20j, S20k, S20l, S20m, S20n, R20a, R20b, R20c, R20d, R20e, R20f. No conditions. -/
import Derived.Test.YtaoaknafiegfoaaGreatDoorK2
import Derived.Test.YtaoaknafiegfoaaGreatDoorK5
import Derived.Test.YtaoaknafiegfoaaGreatDoorK27
import Derived.Test.YtaoaknafiegfoaaGreatDoorK31
import Derived.Test.YtaoaknafiegfoaaGreatDoorK30
import Derived.Test.YtaoaknafiegfoaaGreatDoorK28
set_option linter.unusedVariables false
set_option linter.unusedSimpArgs false
set_option linter.unnecessarySimpa false
namespace Go.Proofs.YtaoaknafiegfoaaGreatDoor
open Go.Bil
open Go.RowKit (Below)
open Go.Proofs
set_option maxHeartbeats 4000000 in
theorem nJ (w : World) (a l : Int) (hl : 0 ≤ l ∧ l ≤ 2147483647) (bf : Nat) (fl : Bool) (F : Option Addr) (cf : Nat) (RF : Rd w 1 F 1 [[.pointer (some ⟨bf, 0, none⟩)]]) (hdF : 0 < 1 → ∀ q off, F = some ⟨q, off, none⟩ → q ∉ cB [(some bf, bc [.bool fl] 4)]) (hO : Own [(some bf, bc [.bool fl] 4)] w) :
  Calls Tryz.prog 112 #[.int .i64 a, .int .i64 l, .slice F 1 cf] w (fun ex w' => ∃ v, ex = .returned v ∧ (fun v w' => v = .int .i32 (iS a l) ∧ Mem w (cB [(some bf, bc [.bool fl] 4)]) [(some bf, bc [.bool (fl || decide (iS a l ≠ a))] 4)] w') v w') := by
 have hr := eO a hl.1
 refine aI #[.tmp 6] 34 Tryz.func112 rfl Tryz.results112 Tryz.ntmps112 rfl ?_
 have M0 := hO.mem
 refine aE (aA (bH rfl rfl (aB (aC (aE (aA (aP rfl rfl (aP rfl rfl (bY aPo rfl rfl (aDq _ a l (by omega)) ?_)))))))))
 rintro v1 w1 ⟨rfl, hb1⟩
 have M1 := M0.callB hb1
 refine wq (aH (.tuple (List.toArray _)) rfl) rfl (wq (bN (.int _ _) rfl rfl) rfl (wq (bN (.bool (decide _)) rfl rfl) rfl (bH rfl rfl (wq (aJ (.bool (decide _)) rfl) rfl (aB (aC (aE (aE (aA ?_)))))))))
 refine dH rfl rfl (wq (cZ Tryz.underlying201 rfl) rfl (aK 18 (.int .i64 1) (iE rfl) (aP rfl rfl (aB (aC (aQ (iU 2 (fI ?_))))))))
 refine aE (aA (cY rfl rfl rfl rfl (kH 20 rfl (by first | decide | omega) (aB (aC (aE (cE rfl (aL (aC (aE (aQ (aE (aA ?_)))))))))))))
 refine wq (bO (0) aHo rfl rfl rfl ((RF.memY M1 hdF).below_len ((show ([[.pointer (some ⟨bf, 0, none⟩)]] : List (List Value))[0]? = some [.pointer (some ⟨bf, 0, none⟩)] from rfl))) ((RF.memY M1 hdF).someK ((show ([[.pointer (some ⟨bf, 0, none⟩)]] : List (List Value))[0]? = some [.pointer (some ⟨bf, 0, none⟩)] from rfl)))) rfl ?_
 refine wq (iW (.pointer _) bNh (RF.memY M1 hdF) ((show ([[.pointer (some ⟨bf, 0, none⟩)]] : List (List Value))[0]? = some [.pointer (some ⟨bf, 0, none⟩)] from rfl)) rfl) rfl (wq (aJ (.pointer _) rfl) rfl (aB (aC (aA (wq (aH (.pointer _) rfl) rfl (wq (aH (.pointer _) rfl) rfl ?_))))))
 refine wq (bE rfl) rfl (wq (aM 0 (.bool _) pG M1 rfl rfl rfl) rfl (wq (aH (.bool _) rfl) rfl ?_))
 refine jS 27 _ rfl (fun g27 => ?_) (fun g27 => ?_)
 ·refine aN rfl rfl (wq (bQ true (.bool true) rfl rfl) rfl (wq (bE rfl) rfl (dB 0 (.bool true) pG M1 rfl rfl rfl rfl rfl rfl (fun w2 M2 => (aB (cT ?_))))))
  refine aC (aA (wq (aY rfl rfl (by first | decide | omega) (by first | decide | omega)) rfl (aK 31 (.int .i64 1) (iE (by first | decide | omega)) (aP rfl rfl (aB (aC (fI ?_)))))))
  refine aE (aA (cY rfl rfl rfl rfl (oG 20 rfl (by first | decide | omega) (aB (aC (aE (cJ rfl (cW ?_))))))))
  refine dE (dE (eS (aC (aE (aA (aP rfl rfl (wq (bA lW Tryz.underlying21 rfl (jC _ (by omega) (by omega))) rfl (bH rfl rfl ?_))))))))
  refine aB (aC (aO (cG (.int _ _) rfl ?_)))
  first | exact ⟨rfl, by rw [(by simp only [g27, Bool.true_or] : (fl || decide (iS a l ≠ a)) = true)]; exact M2⟩ | exact ⟨rfl, by rw [(by simp only [g27, Bool.false_or] : (fl || decide (iS a l ≠ a)) = decide (iS a l ≠ a))]; exact M2⟩
 ·refine wq (aH (.bool (decide _)) rfl) rfl (wq (bQ false (.bool (decide _)) rfl rfl) rfl (wq (bE rfl) rfl (dB 0 (.bool (decide _)) pG M1 rfl rfl rfl rfl rfl rfl (fun w3 M3 => (aB (cT ?_))))))
  refine aC (aA (wq (aY rfl rfl (by first | decide | omega) (by first | decide | omega)) rfl (aK 31 (.int .i64 1) (iE (by first | decide | omega)) (aP rfl rfl (aB (aC (fI ?_)))))))
  refine aE (aA (cY rfl rfl rfl rfl (oG 20 rfl (by first | decide | omega) (aB (aC (aE (cJ rfl (cW ?_))))))))
  refine dE (dE (eS (aC (aE (aA (aP rfl rfl (wq (bA lW Tryz.underlying21 rfl (jC _ (by omega) (by omega))) rfl (bH rfl rfl ?_))))))))
  refine aB (aC (aO (cG (.int _ _) rfl ?_)))
  first | exact ⟨rfl, by rw [(by simp only [g27, Bool.true_or] : (fl || decide (iS a l ≠ a)) = true)]; exact M3⟩ | exact ⟨rfl, by rw [(by simp only [g27, Bool.false_or] : (fl || decide (iS a l ≠ a)) = decide (iS a l ≠ a))]; exact M3⟩
set_option maxHeartbeats 4000000 in
theorem aXt (w : World) (i : Int) (b : Body) (hb : Okb b) (bf : Nat) (fl : Bool) (hO : Own [(some bf, bc [.bool fl] 4)] w) :
  Calls Tryz.prog 110 #[.int .i64 i, (.agg (aF b).toArray), .pointer (some ⟨bf, 0, none⟩)] w (fun ex w' => ∃ v, ex = .returned v ∧ (fun v w' => v = (.agg (aF (oA b)).toArray) ∧ Mem w (cB [(some bf, bc [.bool fl] 4)]) [(some bf, bc [.bool (fl || lN b)] 4)] w') v w') := by
 have hv := hb.v
 refine aI #[.cell 5 39] 19 Tryz.func110 rfl Tryz.results110 Tryz.ntmps110 rfl ?_
 have M0 := hO.mem
 refine aE (aA (bJ (.agg (List.toArray _)) M0 rfl rfl rfl (fun b1 w1 M1 => (aT fO M1 rfl rfl (fun b2 w2 M2 => (aB (aC (aE (aE (aA (wq (aX 1 bP M2 rfl rfl rfl) rfl (bY bMk rfl rfl (aGd _ b) ?_))))))))))))
 rintro v3 w3 ⟨rfl, hb3⟩
 have M3 := M2.callB hb3
 refine wq (oO rfl) rfl (aB (aC ?_))
 refine aW rfl (fun h8 => ?_) (fun h8 => ?_)
 ·refine aA (wq (aD 8 dW rfl) rfl (wq (aD 1 cN rfl) rfl (wq (aM 1 (.int _ _) aV M3 rfl rfl rfl) rfl (wq (bA dP Tryz.underlying2 rfl (fG _ (by omega) (by omega))) rfl (wq (fR rfl rfl (by omega) (by omega)) rfl ?_)))))
  refine cR [.pointer _] [[.pointer (some ⟨bf, 0, none⟩)]] rfl aHo M3 rfl rfl rfl rfl (dD rfl) (by decide) (fun b4 w4 M4 => ?_)
  have hlit14 := kB (T := 174) (sz := 1) (b := b4) (nn := 1) [[.pointer (some ⟨bf, 0, none⟩)]] (by simp) rfl (by decide)
  refine bY aDt rfl rfl (nJ _ (b.vy - 1024) 16777216 ⟨by decide, by decide⟩ bf _ _ 1 (hlit14.rd M4 (aZ (i := 3) rfl)) (hlit14.awayB M4 3 0 rfl rfl rfl) (M4.ownSeg 0 1)) ?_
  rintro v5 w5 ⟨rfl, hM5⟩
  have M5 : Mem _ _ [_, _, _, _] _ := M4.seg 0 1 hM5
  refine wq (aD 8 dW rfl) rfl (wq (aD 1 cN rfl) rfl (dB 1 (.int _ _) aV M5 rfl rfl rfl rfl rfl rfl (fun w6 M6 => (aB (aC (aE (aA (wq (aX 1 bP M6 rfl rfl rfl) rfl (bI 2 _ bP M6 rfl rfl rfl rfl rfl (aR rfl) rfl (fun w7 M7 => ?_))))))))))
  refine aB (aC (aO (eL 2 bP M7 rfl rfl rfl ?_)))
  exact ⟨by unfold oA; rw [if_neg h8]; rfl, by rw [show lN b = decide (iS (b.vy - 1024) 16777216 ≠ b.vy - 1024) by unfold lN; rw [decide_eq_true h8, Bool.true_and]]; exact M7.keep [true, false, false, false]⟩
 ·refine aL (aC (aE (aA (wq (aX 1 bP M3 rfl rfl rfl) rfl (bI 2 _ bP M3 rfl rfl rfl rfl rfl (aR rfl) rfl (fun w8 M8 => (aB (aC (aO (eL 2 bP M8 rfl rfl rfl ?_))))))))))
  exact ⟨by unfold oA; rw [if_pos (Decidable.not_not.1 h8)]; rfl, by rw [show lN b = false by unfold lN; rw [decide_eq_false h8, Bool.false_and], Bool.or_false]; exact M8.keep [true, false, false]⟩
set_option maxHeartbeats 4000000 in
theorem aQt (w : World) (A : Option Addr) (n c : Nat) (xs : List Body) (R : Rd w 10 A n (xs.map aF)) (hb : ∀ b ∈ xs, Okb b) (hn : n ≤ 1048576) (bf : Nat) (hO : Own [(some bf, bc [.bool false] 4)] w) (hdA : 0 < n → ∀ q off, A = some ⟨q, off, none⟩ → q ∉ cB [(some bf, bc [.bool false] 4)]) :
  Calls Tryz.prog 109 #[.slice A n c, .func (.func 110) #[] #[.pointer (some ⟨bf, 0, none⟩)]] w (fun ex w' => ∃ v, ex = .returned v ∧ (fun v w' => ∃ r : Row, v = .slice r.A r.n r.c ∧ bC 39 10 r.A r.n r.c ((pM xs).map aF) r.e ∧ Mem w (cB [(some bf, bc [.bool false] 4)]) [(some bf, bc [.bool (xs.any lN)] 4), r.e] w') v w') := by
 have hlen : xs.length = n := by simpa using R.len
 have hbd := R.bound
 refine aI #[.tmp 4] 24 Tryz.func109 rfl Tryz.results109 Tryz.ntmps109 rfl ?_
 have M0 := hO.mem
 refine aE (aA (eI rfl rfl (aB (aC (aE (aA (eI rfl rfl ?_)))))))
 have M1 := M0.dummy default
 refine aB (aC (aE (aE (aA (dH rfl rfl (wq (cZ Tryz.underlying29 rfl) rfl (aP rfl rfl (aB (aC (aQ (dS (σ := Nat × Row) [1, 4, 8, 9] (fun (k, q) => [(5, .slice q.A q.n q.c), (10, .int .i64 (k : Int))]) (fun (k, q) w' => (k ≤ n ∧ bC 39 10 q.A q.n q.c (((xs.take k).map oA).map aF) q.e) ∧ Mem w (cB [(some bf, bc [.bool false] 4)]) [(some bf, bc [.bool ((xs.take k).any lN)] 4), q.e] w') (fun (k, q) => n - k) (0, fV) (bB rfl (bB rfl dZ)) (⟨⟨by omega, bC.nil _ _ _⟩, M1⟩) ?_)))))))))))
 rintro ⟨k, q⟩ ρ2 w2 ⟨⟨hk, hq⟩, hM2⟩
 have htl := List.length_take_le k xs
 have hqn : (xs.take k).length = q.n := by simpa using hq.1
 refine aE (aA (cY rfl rfl rfl rfl (aB (aC (aE ?_)))))
 refine aW rfl (fun h11 => ?_) (fun h11 => ?_)
 ·obtain ⟨xb, hxb⟩ := cV (xs := xs) (k := k) hlen (by omega)
  refine aL (aC (aE (aQ (aE (aA (aP rfl rfl (wq (bO (k) dK rfl rfl rfl ((R.memY hM2 hdA).below_len (aG aF hxb)) ((R.memY hM2 hdA).someK (aG aF hxb))) rfl (wq (dI _ bP (R.memY hM2 hdA) (aG aF hxb) rfl) rfl (aT fO hM2 rfl rfl (fun b3 w3 M3 => ?_))))))))))
  refine bH rfl rfl (bI 2 _ bP M3 rfl rfl rfl rfl rfl (aR rfl) rfl (fun w4 M4 => (aB (aC (aA (dH rfl rfl (wq (aH (.func _ _ _) rfl) rfl (aP rfl rfl ?_))))))))
  refine wq (aX 2 bP M4 rfl rfl rfl) rfl (bY bOo rfl rfl (aXt _ _ xb (hb xb (List.mem_of_getElem? hxb)) bf _ (M4.ownSeg 0 1)) ?_)
  rintro v5 w5 ⟨rfl, hM5⟩
  have M5 : Mem _ _ [_, _, _] _ := M4.seg 0 1 hM5
  refine cR [.agg (List.toArray _)] [aF (oA xb)] rfl dK M5 rfl rfl rfl rfl (dD rfl) (by decide) (fun b6 w6 M6 => (dG 1 [aF (oA xb)] dK M6 rfl rfl rfl rfl rfl hq rfl (by simp [aF, Go.Bil.one]) (dV.ofMem 3 M6 rfl) (by omega) (fun A7 c7 e7 w7 M7 hR7 => (eI rfl rfl ?_))))
  refine aB (cT (aC (aA (wq (aY rfl rfl (by omega) (by omega)) rfl (aP rfl rfl (aB ?_))))))
  refine cD (k + 1, ⟨A7, q.n + 1, c7, e7⟩) (bB rfl (bB rfl dZ)) (cK rfl (cK rfl (cK rfl (cK rfl gW)))) ?_ ?_
  ·exact ⟨⟨by omega, by rw [cP hxb, List.map_append, List.map_append]; exact hR7⟩, by rw [cP hxb, List.any_append, List.any_cons, List.any_nil, Bool.or_false]; exact M7.keep [true, true, false, false]⟩
  ·(show n - (k + 1) < n - k; omega)
 ·have hkn : k = n := by omega
  rw [List.take_of_length_le (by omega)] at hq
  rw [List.take_of_length_le (by omega)] at hM2
  refine cW (dE (dL (eS (aC (aE (aA (dH rfl rfl ?_)))))))
  refine eI rfl rfl (aB (aC (aO (cG (.slice _ _ _) rfl ?_))))
  exact ⟨q, rfl, hq, hM2⟩
set_option maxHeartbeats 4000000 in
theorem aLo (w : World) (A : Option Addr) (n c : Nat) (xs : List Body) (R : Rd w 10 A n (xs.map aF)) (hb : ∀ b ∈ xs, Okb b) (hn : n ≤ 1048576) :
  Calls Tryz.prog 66 #[.slice A n c] w (fun ex w' => ∃ v, ex = .returned v ∧ (fun v w' => ∃ r : Row, v = .tuple #[.slice r.A r.n r.c, .bool (xs.any lN)] ∧ bC 39 10 r.A r.n r.c ((pM xs).map aF) r.e ∧ Mem w [] [r.e] w') v w') := by
 refine aI #[.tmp 2, .tmp 3] 11 Tryz.func66 rfl Tryz.results66 Tryz.ntmps66 rfl ?_
 have M0 := Mem.refl w
 refine aE (aA (eI rfl rfl (wq (aJ (.bool false) rfl) rfl (aB (aC (aE (aA (aT aUn M0 rfl rfl (fun b1 w1 M1 => (dB 0 (.bool false) pG M1 rfl rfl rfl rfl rfl rfl (fun w2 M2 => ?_)))))))))))
 refine aB (aC (aE (aA (dH rfl rfl (wq (dR [] [.pointer _] rfl rfl) rfl (bY bAv rfl rfl (aQt _ A n c xs (R.mem M2) hb hn b1 (M2.ownSeg 0 1) (M2.away 0 1 R (by simp))) ?_))))))
 rintro v3 w3 ⟨r, rfl, hr, hM3⟩
 have M3 : Mem _ _ [_, _] _ := M2.seg 0 1 hM3
 refine eI rfl rfl (aB (aC (aE (bR [(0, 0), (1, 1), (2, 0), (3, 0)] mixed rfl (by kernel_rfl) (fun w4 hb4 hh4 => ?_)))))
 have M4 := M3.drew hb4 hh4
 refine kN rfl rfl rfl (bS rfl rfl rfl (aM 0 (.bool _) pG M4 rfl rfl rfl) (aU rfl rfl rfl (fun _ => aJ (.slice _ _ _) rfl) (aU rfl rfl rfl (fun _ => aJ (.bool _) rfl) (bX (aC (aO ?_))))))
 refine fY (.slice _ _ _) (.bool _) rfl rfl ?_
 exact ⟨r, rfl, hr, M4.keep [false, true]⟩
set_option maxHeartbeats 4000000 in
theorem aXn (w : World) (i : Nat) (b : Body) (hb : Okb b) (bf bl : Nat) (fl : Bool) (C : Option Addr) (m cm : Nat) (l : List (Int × Int)) (RS : Rd w 2 C m (l.map cL)) (s : Int × Int) (hs : l[i]? = some s) (hsb : (-1152921504606846976 ≤ s.1 ∧ s.1 ≤ 1152921504606846976) ∧ -1152921504606846976 ≤ s.2 ∧ s.2 ≤ 1152921504606846976) (hO : Own [(some bf, bc [.bool fl] 4), (some bl, bc [.slice C m cm] 127)] w) (hdS : 0 < m → ∀ q off, C = some ⟨q, off, none⟩ → q ∉ cB [(some bf, bc [.bool fl] 4), (some bl, bc [.slice C m cm] 127)]) :
  Calls Tryz.prog 113 #[.int .i64 (i : Int), (.agg (aF b).toArray), .pointer (some ⟨bl, 0, none⟩), .pointer (some ⟨bf, 0, none⟩)] w (fun ex w' => ∃ v, ex = .returned v ∧ (fun v w' => v = (.agg (aF (sQ b s.1 s.2)).toArray) ∧ Mem w (cB [(some bf, bc [.bool fl] 4), (some bl, bc [.slice C m cm] 127)]) [(some bf, bc [.bool (fl || aFw b s.1 s.2)] 4), (some bl, bc [.slice C m cm] 127)] w') v w') := by
 have hv := hb.v
 have hpp := hb.p
 have hlm : l.length = m := by simpa using RS.len
 have hil := (List.getElem?_eq_some_iff.1 hs).1
 refine aI #[.cell 6 39] 50 Tryz.func113 rfl Tryz.results113 Tryz.ntmps113 rfl ?_
 have M0 := hO.mem
 refine aE (aA (bJ (.agg (List.toArray _)) M0 rfl rfl rfl (fun b1 w1 M1 => (aT fO M1 rfl rfl (fun b2 w2 M2 => (aB (aC (aE (bR [(0, 0), (1, 0), (2, 1), (3, 0), (4, 1), (5, 0), (6, 1), (7, 1), (8, 1), (9, 0), (10, 0), (11, 0), (12, 1), (13, 0), (14, 0), (15, 0), (16, 0)] mixed rfl (by kernel_rfl) (fun w3 hb3 hh3 => ?_))))))))))
 have M3 := M2.drew hb3 hh3
 refine aU rfl rfl rfl (fun _ => aD 6 fK rfl) (aU rfl rfl rfl (fun _ => aD 0 cS rfl) (bS rfl rfl rfl (aM 2 (.int _ _) aV M3 rfl rfl rfl) (aU rfl rfl rfl (fun _ => bA dP Tryz.underlying2 rfl (fG _ (by omega) (by omega))) (bS rfl rfl rfl (aM 1 (.slice _ _ _) yP M3 rfl rfl rfl) ?_))))
 refine eB rfl rfl rfl (bS rfl rfl rfl (bO (i) aDn rfl rfl rfl ((RS.memY M3 hdS).below_len (aG cL hs)) ((RS.memY M3 hdS).someK (aG cL hs))) (bS rfl rfl rfl (bG 0 aFa (RS.memY M3 hdS) (Nat.lt_of_le_of_lt (Nat.zero_le _) ((RS.memY M3 hdS).below_len (aG cL hs))) rfl) ?_))
 refine bS rfl rfl rfl (dX (o := 0) (.int _ _) iZ (RS.memY M3 hdS) (aG cL hs) rfl rfl) (aU rfl rfl rfl (fun _ => aY rfl rfl (by omega) (by omega)) (aU rfl rfl rfl (fun _ => aD 8 dW rfl) (aU rfl rfl rfl (fun _ => aD 0 cS rfl) (bS rfl rfl rfl (aM 2 (.int _ _) aV M3 rfl rfl rfl) ?_))))
 refine aU rfl rfl rfl (fun _ => jT rfl rfl (by decide)) (dQ 22 (.int .i32 (b.vx / 64)) (iE (aLr _)) (aU rfl rfl rfl (fun _ => bA dP Tryz.underlying2 rfl (fG _ (by omega) (by omega))) (aU rfl rfl rfl (fun _ => aY rfl rfl (by omega) (by omega)) (dQ 24 (.int .i64 (aGu b s.1)) rfl (mG rfl rfl rfl ?_)))))
 refine bX (aC (aE (bR [(0, 0), (1, 0), (2, 1), (3, 0), (4, 1), (5, 0), (6, 1), (7, 1), (8, 1), (9, 0), (10, 0), (11, 0), (12, 1), (13, 0), (14, 0), (15, 0), (16, 0)] mixed rfl (by kernel_rfl) (fun w4 hb4 hh4 => ?_))))
 have M4 := M3.drew hb4 hh4
 refine aU rfl rfl rfl (fun _ => aD 6 fK rfl) (aU rfl rfl rfl (fun _ => aD 1 cN rfl) (bS rfl rfl rfl (aM 2 (.int _ _) aV M4 rfl rfl rfl) (aU rfl rfl rfl (fun _ => bA dP Tryz.underlying2 rfl (fG _ (by omega) (by omega))) (bS rfl rfl rfl (aM 1 (.slice _ _ _) yP M4 rfl rfl rfl) ?_))))
 refine eB rfl rfl rfl (bS rfl rfl rfl (bO (i) aDn rfl rfl rfl ((RS.memY M4 hdS).below_len (aG cL hs)) ((RS.memY M4 hdS).someK (aG cL hs))) (bS rfl rfl rfl (bG 1 aFb (RS.memY M4 hdS) (Nat.lt_of_le_of_lt (Nat.zero_le _) ((RS.memY M4 hdS).below_len (aG cL hs))) rfl) ?_))
 refine bS rfl rfl rfl (dX (o := 1) (.int _ _) iZ (RS.memY M4 hdS) (aG cL hs) rfl rfl) (aU rfl rfl rfl (fun _ => aY rfl rfl (by omega) (by omega)) (aU rfl rfl rfl (fun _ => aD 8 dW rfl) (aU rfl rfl rfl (fun _ => aD 1 cN rfl) (bS rfl rfl rfl (aM 2 (.int _ _) aV M4 rfl rfl rfl) ?_))))
 refine aU rfl rfl rfl (fun _ => jT rfl rfl (by decide)) (dQ 38 (.int .i32 (b.vy / 64)) (iE (aLr _)) (aU rfl rfl rfl (fun _ => bA dP Tryz.underlying2 rfl (fG _ (by omega) (by omega))) (aU rfl rfl rfl (fun _ => aY rfl rfl (by omega) (by omega)) (dQ 40 (.int .i64 (aGo b s.2)) rfl (mG rfl rfl rfl ?_)))))
 refine bX (aC (aE (aA (aP rfl rfl (cR [.pointer _] [[.pointer (some ⟨bf, 0, none⟩)]] rfl aHo M4 rfl rfl rfl rfl (dD rfl) (by decide) (fun b5 w5 M5 => ?_))))))
 have hlit42 := kB (T := 174) (sz := 1) (b := b5) (nn := 1) [[.pointer (some ⟨bf, 0, none⟩)]] (by simp) rfl (by decide)
 refine bY aDt rfl rfl (nJ _ (aGu b s.1) 1073741824 ⟨by decide, by decide⟩ bf _ _ 1 (hlit42.rd M5 (aZ (i := 4) rfl)) (hlit42.awayB M5 4 0 rfl rfl rfl) (M5.ownSeg 0 1)) ?_
 rintro v6 w6 ⟨rfl, hM6⟩
 have M6 : Mem _ _ [_, _, _, _, _] _ := M5.seg 0 1 hM6
 refine aP rfl rfl (cR [.pointer _] [[.pointer (some ⟨bf, 0, none⟩)]] rfl aHo M6 rfl rfl rfl rfl (dD rfl) (by decide) (fun b7 w7 M7 => ?_))
 have hlit45 := kB (T := 174) (sz := 1) (b := b7) (nn := 1) [[.pointer (some ⟨bf, 0, none⟩)]] (by simp) rfl (by decide)
 refine bY aDt rfl rfl (nJ _ (aGo b s.2) 1073741824 ⟨by decide, by decide⟩ bf _ _ 1 (hlit45.rd M7 (aZ (i := 5) rfl)) (hlit45.awayB M7 5 0 rfl rfl rfl) (M7.ownSeg 0 1)) ?_
 rintro v8 w8 ⟨rfl, hM8⟩
 have M8 : Mem _ _ [_, _, _, _, _, _] _ := M7.seg 0 1 hM8
 refine wq (cF [(0, .int _ _), (1, .int _ _)] _ fA rfl rfl) rfl (wq (aD 6 fK rfl) rfl (tN 2 _ bM M8 rfl rfl rfl rfl rfl (aR rfl) (Nat.le_of_ble_eq_true rfl) (fun w9 M9 => (aB (aC (aE (aA (wq (aX 2 bP M9 rfl rfl rfl) rfl (bI 3 _ bP M9 rfl rfl rfl rfl rfl (aR rfl) rfl (fun w10 M10 => ?_))))))))))
 refine aB (aC (aO (eL 3 bP M10 rfl rfl rfl ?_)))
 exact ⟨rfl, by rw [show (fl || aFw b s.1 s.2) = ((fl || decide (iS (aGu b s.1) 1073741824 ≠ aGu b s.1)) || decide (iS (aGo b s.2) 1073741824 ≠ aGo b s.2)) from (Bool.or_assoc _ _ _).symm]; exact M10.keep [true, true, false, false, false, false]⟩
set_option maxHeartbeats 4000000 in
theorem aPt (w : World) (A : Option Addr) (n c : Nat) (xs : List Body) (R : Rd w 10 A n (xs.map aF)) (hb : ∀ b ∈ xs, Okb b) (hn : n ≤ 1048576) (bf bl : Nat) (G : Body → Int × Int) (hG : ∀ b ∈ xs, (-1152921504606846976 ≤ (G b).1 ∧ (G b).1 ≤ 1152921504606846976) ∧ -1152921504606846976 ≤ (G b).2 ∧ (G b).2 ≤ 1152921504606846976) (C : Option Addr) (cm : Nat) (RS : Rd w 2 C n ((xs.map G).map cL)) (hO : Own [(some bf, bc [.bool false] 4), (some bl, bc [.slice C n cm] 127)] w) (hdA : 0 < n → ∀ q off, A = some ⟨q, off, none⟩ → q ∉ cB [(some bf, bc [.bool false] 4), (some bl, bc [.slice C n cm] 127)]) (hdS : 0 < n → ∀ q off, C = some ⟨q, off, none⟩ → q ∉ cB [(some bf, bc [.bool false] 4), (some bl, bc [.slice C n cm] 127)]) :
  Calls Tryz.prog 109 #[.slice A n c, .func (.func 113) #[] #[.pointer (some ⟨bl, 0, none⟩), .pointer (some ⟨bf, 0, none⟩)]] w (fun ex w' => ∃ v, ex = .returned v ∧ (fun v w' => ∃ r : Row, v = .slice r.A r.n r.c ∧ bC 39 10 r.A r.n r.c ((xs.map (fun b => sQ b (G b).1 (G b).2)).map aF) r.e ∧ Mem w (cB [(some bf, bc [.bool false] 4), (some bl, bc [.slice C n cm] 127)]) [(some bf, bc [.bool (xs.any (fun b => aFw b (G b).1 (G b).2))] 4), (some bl, bc [.slice C n cm] 127), r.e] w') v w') := by
 have hlen : xs.length = n := by simpa using R.len
 have hbd := R.bound
 refine aI #[.tmp 4] 24 Tryz.func109 rfl Tryz.results109 Tryz.ntmps109 rfl ?_
 have M0 := hO.mem
 refine aE (aA (eI rfl rfl (aB (aC (aE (aA (eI rfl rfl ?_)))))))
 have M1 := M0.dummy default
 refine aB (aC (aE (aE (aA (dH rfl rfl (wq (cZ Tryz.underlying29 rfl) rfl (aP rfl rfl (aB (aC (aQ (dS (σ := Nat × Row) [1, 4, 8, 9] (fun (k, q) => [(5, .slice q.A q.n q.c), (10, .int .i64 (k : Int))]) (fun (k, q) w' => (k ≤ n ∧ bC 39 10 q.A q.n q.c (((xs.take k).map (fun b => sQ b (G b).1 (G b).2)).map aF) q.e) ∧ Mem w (cB [(some bf, bc [.bool false] 4), (some bl, bc [.slice C n cm] 127)]) [(some bf, bc [.bool ((xs.take k).any (fun b => aFw b (G b).1 (G b).2))] 4), (some bl, bc [.slice C n cm] 127), q.e] w') (fun (k, q) => n - k) (0, fV) (bB rfl (bB rfl dZ)) (⟨⟨by omega, bC.nil _ _ _⟩, M1⟩) ?_)))))))))))
 rintro ⟨k, q⟩ ρ2 w2 ⟨⟨hk, hq⟩, hM2⟩
 have htl := List.length_take_le k xs
 have hqn : (xs.take k).length = q.n := by simpa using hq.1
 refine aE (aA (cY rfl rfl rfl rfl (aB (aC (aE ?_)))))
 refine aW rfl (fun h11 => ?_) (fun h11 => ?_)
 ·obtain ⟨xb, hxb⟩ := cV (xs := xs) (k := k) hlen (by omega)
  refine aL (aC (aE (aQ (aE (aA (aP rfl rfl (wq (bO (k) dK rfl rfl rfl ((R.memY hM2 hdA).below_len (aG aF hxb)) ((R.memY hM2 hdA).someK (aG aF hxb))) rfl (wq (dI _ bP (R.memY hM2 hdA) (aG aF hxb) rfl) rfl (aT fO hM2 rfl rfl (fun b3 w3 M3 => ?_))))))))))
  refine bH rfl rfl (bI 3 _ bP M3 rfl rfl rfl rfl rfl (aR rfl) rfl (fun w4 M4 => (aB (aC (aA (dH rfl rfl (wq (aH (.func _ _ _) rfl) rfl (aP rfl rfl ?_))))))))
  refine wq (aX 3 bP M4 rfl rfl rfl) rfl (bY bKd rfl rfl (aXn _ k xb (hb xb (List.mem_of_getElem? hxb)) bf bl _ C n cm (xs.map G) (RS.memY M4 hdS) (G xb) (aG G hxb) (hG xb (List.mem_of_getElem? hxb)) (M4.ownSeg 0 2) (M4.away 0 2 RS hdS)) ?_)
  rintro v5 w5 ⟨rfl, hM5⟩
  have M5 : Mem _ _ [_, _, _, _] _ := M4.seg 0 2 hM5
  refine cR [.agg (List.toArray _)] [aF (sQ xb (G xb).1 (G xb).2)] rfl dK M5 rfl rfl rfl rfl (dD rfl) (by decide) (fun b6 w6 M6 => (dG 2 [aF (sQ xb (G xb).1 (G xb).2)] dK M6 rfl rfl rfl rfl rfl hq rfl (by simp [aF, Go.Bil.one]) (dV.ofMem 4 M6 rfl) (by omega) (fun A7 c7 e7 w7 M7 hR7 => ?_)))
  refine eI rfl rfl (aB (cT (aC (aA (wq (aY rfl rfl (by omega) (by omega)) rfl (aP rfl rfl ?_))))))
  refine aB ?_
  refine cD (k + 1, ⟨A7, q.n + 1, c7, e7⟩) (bB rfl (bB rfl dZ)) (cK rfl (cK rfl (cK rfl (cK rfl gW)))) ?_ ?_
  ·exact ⟨⟨by omega, by rw [cP hxb, List.map_append, List.map_append]; exact hR7⟩, by rw [cP hxb, List.any_append, List.any_cons, List.any_nil, Bool.or_false]; exact M7.keep [true, true, true, false, false]⟩
  ·(show n - (k + 1) < n - k; omega)
 ·have hkn : k = n := by omega
  rw [List.take_of_length_le (by omega)] at hq
  rw [List.take_of_length_le (by omega)] at hM2
  refine cW (dE (dL (eS (aC (aE (aA (dH rfl rfl ?_)))))))
  refine eI rfl rfl (aB (aC (aO (cG (.slice _ _ _) rfl ?_))))
  exact ⟨q, rfl, hq, hM2⟩
set_option maxHeartbeats 4000000 in
theorem bEl (w : World) (A : Option Addr) (n c : Nat) (xs : List Body) (R : Rd w 10 A n (xs.map aF)) (hb : ∀ b ∈ xs, Okb b) (hn : n ≤ 1048576) (G : Body → Int × Int) (hG : ∀ b ∈ xs, (-1152921504606846976 ≤ (G b).1 ∧ (G b).1 ≤ 1152921504606846976) ∧ -1152921504606846976 ≤ (G b).2 ∧ (G b).2 ≤ 1152921504606846976) (C : Option Addr) (cm : Nat) (RS : Rd w 2 C n ((xs.map G).map cL)) :
  Calls Tryz.prog 67 #[.slice A n c, .slice C n cm] w (fun ex w' => ∃ v, ex = .returned v ∧ (fun v w' => ∃ r : Row, v = .tuple #[.slice r.A r.n r.c, .bool (xs.any (fun b => aFw b (G b).1 (G b).2))] ∧ bC 39 10 r.A r.n r.c ((xs.map (fun b => sQ b (G b).1 (G b).2)).map aF) r.e ∧ Mem w [] [r.e] w') v w') := by
 refine aI #[.tmp 4, .tmp 5] 13 Tryz.func67 rfl Tryz.results67 Tryz.ntmps67 rfl ?_
 have M0 := Mem.refl w
 refine aE (aA (bJ (.slice _ _ _) M0 rfl rfl rfl (fun b1 w1 M1 => (eI rfl rfl (wq (aJ (.bool false) rfl) rfl (aB (aC (aE (aA (aT aUn M1 rfl rfl (fun b2 w2 M2 => ?_)))))))))))
 refine dB 1 (.bool false) pG M2 rfl rfl rfl rfl rfl rfl (fun w3 M3 => (aB (aC (aE (aA ?_)))))
 have M4 : Mem _ _ [_, _] _ := Mem.swap2 M3
 refine dH rfl rfl (wq (dR [] [.pointer _, .pointer _] rfl rfl) rfl (bY bAv rfl rfl (aPt _ A n c xs (R.mem M4) hb hn b2 b1 G hG C cm (RS.mem M4) (M4.ownSeg 0 2) (M4.away 0 2 R (by simp)) (M4.away 0 2 RS (by simp))) ?_))
 rintro v5 w5 ⟨r, rfl, hr, hM5⟩
 have M5 : Mem _ _ [_, _, _] _ := M4.seg 0 2 hM5
 refine eI rfl rfl (aB (aC (aE (bR [(0, 0), (1, 1), (2, 0), (3, 0)] mixed rfl (by kernel_rfl) (fun w6 hb6 hh6 => ?_)))))
 have M6 := M5.drew hb6 hh6
 refine kN rfl rfl rfl (bS rfl rfl rfl (aM 0 (.bool _) pG M6 rfl rfl rfl) (aU rfl rfl rfl (fun _ => aJ (.slice _ _ _) rfl) (aU rfl rfl rfl (fun _ => aJ (.bool _) rfl) (bX (aC (aO ?_))))))
 refine fY (.slice _ _ _) (.bool _) rfl rfl ?_
 exact ⟨r, rfl, hr, M6.keep [false, false, true]⟩
set_option maxHeartbeats 4000000 in
theorem aQl (w : World) (bs : Nat) (vr lr : Row) (tt mm : Int) (cl : Bool) (A : Option Addr) (n c : Nat) (q : Row) (c2 : Bool) (hO : Own [(some bs, bc [.slice A n c, .slice vr.A vr.n vr.c, .slice lr.A lr.n lr.c, .int .i64 tt, .int .i64 mm, .bool cl] 168)] w) :
  Calls Tryz.prog 145 #[.pointer (some ⟨bs, 0, none⟩), .slice q.A q.n q.c, .bool c2] w (fun ex w' => ∃ v, ex = .returned v ∧ (fun v w' => v = .tuple #[] ∧ Mem w (cB [(some bs, bc [.slice A n c, .slice vr.A vr.n vr.c, .slice lr.A lr.n lr.c, .int .i64 tt, .int .i64 mm, .bool cl] 168)]) [(some bs, bc [.slice A n c, .slice q.A q.n q.c, .slice lr.A lr.n lr.c, .int .i64 tt, .int .i64 mm, .bool (cl || c2)] 168)] w') v w') := by
 refine aI #[] 22 Tryz.func145 rfl Tryz.results145 Tryz.ntmps145 rfl ?_
 have M0 := hO.mem
 refine aE (aA (wq (aH (.pointer _) rfl) rfl (dH rfl rfl (wq (bE rfl) rfl (wq (aD 1 yB rfl) rfl (dB 0 (.slice _ _ _) gA M0 rfl rfl rfl rfl rfl rfl (fun w1 M1 => ?_)))))))
 refine aB (aC (aA (wq (aH (.pointer _) rfl) rfl (wq (aH (.pointer _) rfl) rfl (wq (bE rfl) rfl (wq (aD 3 qO rfl) rfl (wq (aD 2 aBx rfl) rfl ?_)))))))
 refine wq (aM 0 (.bool _) pG M1 rfl rfl rfl) rfl (wq (aH (.bool _) rfl) rfl ?_)
 refine jS 16 _ rfl (fun g16 => ?_) (fun g16 => ?_)
 ·refine aN rfl rfl (wq (bQ true (.bool true) rfl rfl) rfl (wq (bE rfl) rfl (wq (aD 3 qO rfl) rfl (wq (aD 2 aBx rfl) rfl (dB 0 (.bool true) pG M1 rfl rfl rfl rfl rfl rfl (fun w2 M2 => ?_))))))
  refine aB (lB ?_)
  first | exact ⟨rfl, by rw [(by simp only [g16, Bool.true_or] : (cl || c2) = true)]; exact M2⟩ | exact ⟨rfl, by rw [(by simp only [g16, Bool.false_or] : (cl || c2) = c2)]; exact M2⟩
 ·refine wq (aH (.bool _) rfl) rfl (wq (bQ false (.bool _) rfl rfl) rfl (wq (bE rfl) rfl (wq (aD 3 qO rfl) rfl (wq (aD 2 aBx rfl) rfl (dB 0 (.bool _) pG M1 rfl rfl rfl rfl rfl rfl (fun w3 M3 => ?_))))))
  refine aB (lB ?_)
  first | exact ⟨rfl, by rw [(by simp only [g16, Bool.true_or] : (cl || c2) = true)]; exact M3⟩ | exact ⟨rfl, by rw [(by simp only [g16, Bool.false_or] : (cl || c2) = c2)]; exact M3⟩
set_option maxHeartbeats 4000000 in
theorem bFe (w : World) (F : Rd w 2 (some ⟨0, 0, none⟩) 1 [[.int .u32 73856093, .int .u32 19349663]]) (N : Rd w 4 (some ⟨3, 0, none⟩) 1 [eK jY]) (bs : Nat) (vr lr : Row) (tt mm : Int) (cl : Bool) (A : Option Addr) (n c : Nat) (xs : List Body) (R : Rd w 10 A n (xs.map aF)) (hb : ∀ b ∈ xs, Okb b) (hs : cU xs) (hn : n ≤ 4096) (hO : Own [(some bs, bc [.slice A n c, .slice vr.A vr.n vr.c, .slice lr.A lr.n lr.c, .int .i64 tt, .int .i64 mm, .bool cl] 168)] w) (hdA : 0 < n → ∀ q off, A = some ⟨q, off, none⟩ → q ∉ cB [(some bs, bc [.slice A n c, .slice vr.A vr.n vr.c, .slice lr.A lr.n lr.c, .int .i64 tt, .int .i64 mm, .bool cl] 168)]) (hdF : 0 < 1 → ∀ q off, (some ⟨0, 0, none⟩ : Option Addr) = some ⟨q, off, none⟩ → q ∉ cB [(some bs, bc [.slice A n c, .slice vr.A vr.n vr.c, .slice lr.A lr.n lr.c, .int .i64 tt, .int .i64 mm, .bool cl] 168)]) (hdN : 0 < 1 → ∀ q off, (some ⟨3, 0, none⟩ : Option Addr) = some ⟨q, off, none⟩ → q ∉ cB [(some bs, bc [.slice A n c, .slice vr.A vr.n vr.c, .slice lr.A lr.n lr.c, .int .i64 tt, .int .i64 mm, .bool cl] 168)]) :
  Calls Tryz.prog 105 #[.pointer (some ⟨bs, 0, none⟩)] w (fun ex w' => ∃ v, ex = .returned v ∧ (fun v w' => v = .tuple #[] ∧ ∃ (r : Row) (m : Nat), (oC xs).length ≤ m ∧ 2 * m ≤ xs.length * (xs.length - 1) ∧ bC 211 5 r.A r.n r.c ((lL xs).map cI) r.e ∧ Mem w (cB [(some bs, bc [.slice A n c, .slice vr.A vr.n vr.c, .slice lr.A lr.n lr.c, .int .i64 tt, .int .i64 mm, .bool cl] 168)]) [(some bs, bc [.slice A n c, .slice vr.A vr.n vr.c, .slice r.A r.n r.c, .int .i64 (m : Int), .int .i64 (r.n : Int), .bool cl] 168), r.e] w') v w') := by
 refine aI #[] 26 Tryz.func105 rfl Tryz.results105 Tryz.ntmps105 rfl ?_
 have M0 := hO.mem
 refine aE (aA (wq (aH (.pointer _) rfl) rfl (wq (aH (.pointer _) rfl) rfl (wq (aH (.pointer _) rfl) rfl (wq (bE rfl) rfl (wq (aD 0 aDh rfl) rfl ?_))))))
 refine wq (aM 0 (.slice _ _ _) gA M0 rfl rfl rfl) rfl (bY bNu rfl rfl (aIq _ (F.memY M0 hdF) (N.memY M0 hdN) A n c xs (R.memY M0 hdA) hb hs hn) ?_)
 rintro v1 w1 ⟨r, m, rfl, hm1, hm2, hr, hM1⟩
 have M1 : Mem _ _ [_, _] _ := M0.call0 hM1
 refine wq (aH (.tuple (List.toArray _)) rfl) rfl (wq (bN (.slice _ _ _) rfl rfl) rfl (wq (bN (.int _ _) rfl rfl) rfl (wq (bE rfl) rfl (wq (aD 2 xT rfl) rfl (dB 0 (.slice _ _ _) oM M1 rfl rfl rfl rfl rfl rfl (fun w2 M2 => ?_))))))
 refine wq (bE rfl) rfl (wq (aD 3 qO rfl) rfl (wq (aD 0 bHz rfl) rfl (dB 0 (.int _ _) iP M2 rfl rfl rfl rfl rfl rfl (fun w3 M3 => (aB (aC (aA (wq (aH (.pointer _) rfl) rfl ?_))))))))
 refine wq (aH (.pointer _) rfl) rfl (wq (bE rfl) rfl (wq (aD 2 xT rfl) rfl (wq (aM 0 (.slice _ _ _) oM M3 rfl rfl rfl) rfl (wq (cZ Tryz.underlying166 rfl) rfl (wq (bE rfl) rfl ?_)))))
 refine wq (aD 3 qO rfl) rfl (wq (aD 1 aUk rfl) rfl (dB 0 (.int _ _) iP M3 rfl rfl rfl rfl rfl rfl (fun w4 M4 => (aB (lB ?_)))))
 exact ⟨rfl, r, m, hm1, hm2, hr, M4⟩
set_option maxHeartbeats 4000000 in
theorem bFk (w : World) (bs : Nat) (vr lr : Row) (tt mm : Int) (cl : Bool) (A : Option Addr) (n c : Nat) (xs : List Body) (R : Rd w 10 A n (xs.map aF)) (hb : ∀ b ∈ xs, Okb b) (hn : n ≤ 1048576) (hO : Own [(some bs, bc [.slice A n c, .slice vr.A vr.n vr.c, .slice lr.A lr.n lr.c, .int .i64 tt, .int .i64 mm, .bool cl] 168)] w) (hdA : 0 < n → ∀ q off, A = some ⟨q, off, none⟩ → q ∉ cB [(some bs, bc [.slice A n c, .slice vr.A vr.n vr.c, .slice lr.A lr.n lr.c, .int .i64 tt, .int .i64 mm, .bool cl] 168)]) :
  Calls Tryz.prog 106 #[.pointer (some ⟨bs, 0, none⟩)] w (fun ex w' => ∃ v, ex = .returned v ∧ (fun v w' => v = .tuple #[] ∧ ∃ r : Row, bC 39 10 r.A r.n r.c ((pM xs).map aF) r.e ∧ Mem w (cB [(some bs, bc [.slice A n c, .slice vr.A vr.n vr.c, .slice lr.A lr.n lr.c, .int .i64 tt, .int .i64 mm, .bool cl] 168)]) [(some bs, bc [.slice A n c, .slice r.A r.n r.c, .slice lr.A lr.n lr.c, .int .i64 tt, .int .i64 mm, .bool (cl || xs.any lN)] 168), r.e] w') v w') := by
 refine aI #[] 11 Tryz.func106 rfl Tryz.results106 Tryz.ntmps106 rfl ?_
 have M0 := hO.mem
 refine aA (wq (aH (.pointer _) rfl) rfl (wq (aH (.pointer _) rfl) rfl (wq (bE rfl) rfl (wq (aD 0 aDh rfl) rfl (wq (aM 0 (.slice _ _ _) gA M0 rfl rfl rfl) rfl ?_)))))
 refine bY bPv rfl rfl (aLo _ A n c xs (R.memY M0 hdA) hb hn) ?_
 rintro v1 w1 ⟨r, rfl, hr, hM1⟩
 have M1 : Mem _ _ [_, _] _ := M0.call0 hM1
 refine wq (bN (.slice _ _ _) rfl rfl) rfl (wq (bN (.bool _) rfl rfl) rfl (bY aRt rfl rfl (aQl _ bs vr lr tt mm cl A n c r _ (M1.ownSeg 0 1)) ?_))
 rintro v2 w2 ⟨rfl, hM2⟩
 have M2 : Mem _ _ [_, _] _ := M1.seg 0 1 hM2
 refine aB (lB ?_)
 exact ⟨rfl, r, hr, M2⟩
set_option maxHeartbeats 4000000 in
theorem bCj (w : World) (bs : Nat) (vr lr : Row) (tt mm : Int) (cl : Bool) (A : Option Addr) (n c : Nat) (ys : List Body) (cs : List Con) (RV : Rd w 10 vr.A vr.n (ys.map aF)) (RL : Rd w 5 lr.A lr.n (cs.map cI)) (hs : cU ys) (hb : ∀ b ∈ ys, Okb b) (hn : vr.n ≤ 1048576) (hcs : ∀ c ∈ cs, OkC ys c) (hmc : lr.n ≤ 8589934592) (hO : Own [(some bs, bc [.slice A n c, .slice vr.A vr.n vr.c, .slice lr.A lr.n lr.c, .int .i64 tt, .int .i64 mm, .bool cl] 168)] w) (hdV : 0 < vr.n → ∀ q off, vr.A = some ⟨q, off, none⟩ → q ∉ cB [(some bs, bc [.slice A n c, .slice vr.A vr.n vr.c, .slice lr.A lr.n lr.c, .int .i64 tt, .int .i64 mm, .bool cl] 168)]) (hdL : 0 < lr.n → ∀ q off, lr.A = some ⟨q, off, none⟩ → q ∉ cB [(some bs, bc [.slice A n c, .slice vr.A vr.n vr.c, .slice lr.A lr.n lr.c, .int .i64 tt, .int .i64 mm, .bool cl] 168)]) :
  Calls Tryz.prog 107 #[.pointer (some ⟨bs, 0, none⟩)] w (fun ex w' => ∃ v, ex = .returned v ∧ (fun v w' => v = .tuple #[] ∧ ∃ r : Row, bC 39 10 r.A r.n r.c (((gU ys cs 4).1).map aF) r.e ∧ Mem w (cB [(some bs, bc [.slice A n c, .slice vr.A vr.n vr.c, .slice lr.A lr.n lr.c, .int .i64 tt, .int .i64 mm, .bool cl] 168)]) [(some bs, bc [.slice A n c, .slice r.A r.n r.c, .slice lr.A lr.n lr.c, .int .i64 tt, .int .i64 mm, .bool (cl || (gU ys cs 4).2)] 168), r.e] w') v w') := by
 refine aI #[] 15 Tryz.func107 rfl Tryz.results107 Tryz.ntmps107 rfl ?_
 have M0 := hO.mem
 refine bR [(0, 0), (1, 0), (2, 0), (3, 0), (4, 1), (5, 0), (6, 0), (7, 0), (8, 1), (9, 2), (10, 0), (11, 0), (12, 2)] mixed rfl (by kernel_rfl) (fun w1 hb1 hh1 => ?_)
 have M1 := M0.drew hb1 hh1
 refine aU rfl rfl rfl (fun _ => aH (.pointer _) rfl) (aU rfl rfl rfl (fun _ => aH (.pointer _) rfl) (aU rfl rfl rfl (fun _ => bE rfl) (aU rfl rfl rfl (fun _ => aD 1 yB rfl) (bS rfl rfl rfl (aM 0 (.slice _ _ _) gA M1 rfl rfl rfl) (aU rfl rfl rfl (fun _ => aH (.pointer _) rfl) ?_)))))
 refine aU rfl rfl rfl (fun _ => bE rfl) (aU rfl rfl rfl (fun _ => aD 2 xT rfl) (bS rfl rfl rfl (aM 0 (.slice _ _ _) oM M1 rfl rfl rfl) (dU [true, true] rfl (by kernel_rfl) (bY bLy rfl rfl (aWw _ vr.A vr.n vr.c ys (RV.memY M1 hdV) hs hb hn lr.A lr.n lr.c cs (RL.memY M1 hdL) hcs hmc) ?_))))
 rintro v2 w2 ⟨r, rfl, hr, hM2⟩
 have M2 : Mem _ _ [_, _] _ := M1.call0 hM2
 refine aB (aC ⟨dT, ?_⟩)
 refine aU rfl rfl rfl (fun _ => bN (.slice _ _ _) rfl rfl) (aU rfl rfl rfl (fun _ => bN (.bool _) rfl rfl) (dU [] rfl (by kernel_rfl) (bY aRt rfl rfl (aQl _ bs vr lr tt mm cl A n c r _ (M2.ownSeg 0 1)) ?_)))
 rintro v3 w3 ⟨rfl, hM3⟩
 have M3 : Mem _ _ [_, _] _ := M2.seg 0 1 hM3
 refine aB (aC ⟨dT, ?_⟩)
 refine bX (lB ?_)
 exact ⟨rfl, r, hr, M3⟩
set_option maxHeartbeats 4000000 in
theorem bFv (w : World) (bs : Nat) (vr lr : Row) (tt mm : Int) (cl : Bool) (A : Option Addr) (n c : Nat) (xs : List Body) (R : Rd w 10 A n (xs.map aF)) (ys : List Body) (cs : List Con) (RV : Rd w 10 vr.A vr.n (ys.map aF)) (RL : Rd w 5 lr.A lr.n (cs.map cI)) (hs : cU xs) (hb : ∀ b ∈ xs, Okb b) (hb2 : ∀ b ∈ ys, Okb b) (hn : n ≤ 1048576) (hvn : vr.n = n) (hcs : ∀ c ∈ cs, OkC xs c) (hmc : lr.n ≤ 1073741824) (hsh : xs.map (jR xs cs) = ys.map (jR xs cs)) (hG : ∀ b ∈ ys, (-1152921504606846976 ≤ (jR xs cs b).1 ∧ (jR xs cs b).1 ≤ 1152921504606846976) ∧ -1152921504606846976 ≤ (jR xs cs b).2 ∧ (jR xs cs b).2 ≤ 1152921504606846976) (hO : Own [(some bs, bc [.slice A n c, .slice vr.A vr.n vr.c, .slice lr.A lr.n lr.c, .int .i64 tt, .int .i64 mm, .bool cl] 168)] w) (hdA : 0 < n → ∀ q off, A = some ⟨q, off, none⟩ → q ∉ cB [(some bs, bc [.slice A n c, .slice vr.A vr.n vr.c, .slice lr.A lr.n lr.c, .int .i64 tt, .int .i64 mm, .bool cl] 168)]) (hdV : 0 < vr.n → ∀ q off, vr.A = some ⟨q, off, none⟩ → q ∉ cB [(some bs, bc [.slice A n c, .slice vr.A vr.n vr.c, .slice lr.A lr.n lr.c, .int .i64 tt, .int .i64 mm, .bool cl] 168)]) (hdL : 0 < lr.n → ∀ q off, lr.A = some ⟨q, off, none⟩ → q ∉ cB [(some bs, bc [.slice A n c, .slice vr.A vr.n vr.c, .slice lr.A lr.n lr.c, .int .i64 tt, .int .i64 mm, .bool cl] 168)]) :
  Calls Tryz.prog 108 #[.pointer (some ⟨bs, 0, none⟩)] w (fun ex w' => ∃ v, ex = .returned v ∧ (fun v w' => v = .tuple #[] ∧ ∃ r : Row, bC 39 10 r.A r.n r.c ((aSr xs cs ys).map aF) r.e ∧ Mem w (cB [(some bs, bc [.slice A n c, .slice vr.A vr.n vr.c, .slice lr.A lr.n lr.c, .int .i64 tt, .int .i64 mm, .bool cl] 168)]) [(some bs, bc [.slice A n c, .slice r.A r.n r.c, .slice lr.A lr.n lr.c, .int .i64 tt, .int .i64 mm, .bool (cl || aUg xs cs ys)] 168), r.e] w') v w') := by
 have hlen : xs.length = n := by simpa using R.len
 refine aI #[] 20 Tryz.func108 rfl Tryz.results108 Tryz.ntmps108 rfl ?_
 have M0 := hO.mem
 refine bR [(0, 0), (1, 0), (2, 0), (3, 0), (4, 1), (5, 0), (6, 0), (7, 0), (8, 1), (9, 0), (10, 0), (11, 0), (12, 1), (13, 2), (14, 2), (15, 0), (16, 0), (17, 2)] mixed rfl (by kernel_rfl) (fun w1 hb1 hh1 => ?_)
 have M1 := M0.drew hb1 hh1
 refine aU rfl rfl rfl (fun _ => aH (.pointer _) rfl) (aU rfl rfl rfl (fun _ => aH (.pointer _) rfl) (aU rfl rfl rfl (fun _ => bE rfl) (aU rfl rfl rfl (fun _ => aD 1 yB rfl) (bS rfl rfl rfl (aM 0 (.slice _ _ _) gA M1 rfl rfl rfl) (aU rfl rfl rfl (fun _ => aH (.pointer _) rfl) ?_)))))
 refine aU rfl rfl rfl (fun _ => bE rfl) (aU rfl rfl rfl (fun _ => aD 0 aDh rfl) (bS rfl rfl rfl (aM 0 (.slice _ _ _) gA M1 rfl rfl rfl) (aU rfl rfl rfl (fun _ => aH (.pointer _) rfl) (aU rfl rfl rfl (fun _ => bE rfl) (aU rfl rfl rfl (fun _ => aD 2 xT rfl) ?_)))))
 refine bS rfl rfl rfl (aM 0 (.slice _ _ _) oM M1 rfl rfl rfl) (dU [true, true, false] rfl (by kernel_rfl) (bY bKm rfl rfl (aQz _ A n c xs (R.memY M1 hdA) hs hb hn lr.A lr.n lr.c cs (RL.memY M1 hdL) hcs hmc) ?_))
 rintro v2 w2 ⟨⟨qA, qn, qc, qe⟩, rfl, hq, hM2⟩
 have hqn : xs.length = qn := by simpa using hq.1
 obtain rfl : qn = vr.n := by omega
 rw [hsh] at hq
 have M2 : Mem _ _ [_, _] _ := M1.call0 hM2
 refine aB (aC ⟨(eD (bL rfl (aM 0 (.slice _ _ _) gA M2 rfl rfl rfl)) dT), ?_⟩)
 refine dU [true] rfl (by kernel_rfl) (bY bPw rfl rfl (bEl _ vr.A vr.n vr.c ys (RV.memY M2 hdV) hb2 (by omega) (jR xs cs) hG qA qc (hq.rd M2 (aZ (i := 1) rfl))) ?_)
 rintro v3 w3 ⟨r, rfl, hr, hM3⟩
 have M3 : Mem _ _ [_, _, _] _ := M2.call0 hM3
 refine aB (aC ⟨dT, ?_⟩)
 refine aU rfl rfl rfl (fun _ => bN (.slice _ _ _) rfl rfl) (aU rfl rfl rfl (fun _ => bN (.bool _) rfl rfl) (dU [] rfl (by kernel_rfl) (bY aRt rfl rfl (aQl _ bs vr lr tt mm cl A n c r _ (M3.ownSeg 0 1)) ?_)))
 rintro v4 w4 ⟨rfl, hM4⟩
 have M4 : Mem _ _ [_, _, _] _ := M3.seg 0 1 hM4
 refine aB (aC ⟨dT, ?_⟩)
 refine bX (lB ?_)
 exact ⟨rfl, r, hr, M4.keep [true, false, true]⟩
theorem aWp {xs : List Body} {cs : List Con} {b b' : Body} (h : SameB b b') : jR xs cs b = jR xs cs b' := by
 unfold jR vH vC
 rw [h.key, h.mass]
theorem aFf {xs ys zs : List Body} {cs : List Con} (h : Like ys zs) : ys.map (jR xs cs) = zs.map (jR xs cs) := by
 apply List.ext_getElem?
 intro i
 rw [List.getElem?_map, List.getElem?_map]
 by_cases hi : i < ys.length
 ·have h1 : ys[i]? = some ys[i] := List.getElem?_eq_getElem hi
  have h2 : zs[i]? = some (zs[i]'(by rw [h.len]; exact hi)) := List.getElem?_eq_getElem _
  rw [h1, h2]
  exact congrArg some (aWp (h.at_ i _ _ h1 h2)).symm
 ·have hl := h.len
  rw [List.getElem?_eq_none (show ys.length ≤ i by omega), List.getElem?_eq_none (show zs.length ≤ i by omega)]
theorem aTe {xs : List Body} {cs : List Con} (hs : cU xs) (hb : ∀ b ∈ xs, Okb b) (hcs : ∀ c ∈ cs, OkC xs c) (hl : cs.length ≤ 1073741824) {zs : List Body} (h : Like xs zs) : ∀ b ∈ zs, (-1152921504606846976 ≤ (jR xs cs b).1 ∧ (jR xs cs b).1 ≤ 1152921504606846976) ∧ -1152921504606846976 ≤ (jR xs cs b).2 ∧ (jR xs cs b).2 ≤ 1152921504606846976 := fun b hbm => by
 have hm : jR xs cs b ∈ zs.map (jR xs cs) := List.mem_map_of_mem hbm
 rw [← aFf h] at hm
 obtain ⟨x, hx, e⟩ := List.mem_map.1 hm
 rw [← e]
 have := aBp hs hb hcs rfl hl cs.length hx
 rwa [List.take_of_length_le (Nat.le_refl _)] at this
set_option maxHeartbeats 16000000 in
theorem aVb (w : World) (F : Rd w 2 (some ⟨0, 0, none⟩) 1 [[.int .u32 73856093, .int .u32 19349663]]) (N : Rd w 4 (some ⟨3, 0, none⟩) 1 [eK jY]) (A : Option Addr) (n c : Nat) (xs : List Body) (R : Rd w 10 A n (xs.map aF)) (hb : ∀ b ∈ xs, Okb b) (hs : cU xs) (hn : n ≤ 4096) :
  Calls Tryz.prog 65 #[.slice A n c] w (fun ex w' => ∃ v, ex = .returned v ∧ (fun v w' => ∃ (r : Row) (t : Nat), v = .tuple #[.slice r.A r.n r.c, .agg [.int .i64 (t : Int), .int .i64 ((lL xs).length : Int), .bool (tW xs)].toArray] ∧ (lL xs).length ≤ t ∧ 2 * t ≤ xs.length * (xs.length - 1) ∧ bC 39 10 r.A r.n r.c ((sE xs).map aF) r.e ∧ Mem w [] [r.e] w') v w') := by
 have hlen : xs.length = n := by simpa using R.len
 have hnn : xs.length * xs.length ≤ 4096 * 4096 := Nat.mul_le_mul (by omega) (by omega)
 have hcl := aFe xs
 have hsq := aTk (xs := xs)
 refine aI #[.tmp 2, .cell 3 58] 26 Tryz.func65 rfl Tryz.results65 Tryz.ntmps65 rfl ?_
 have M0 := Mem.refl w
 refine aE (aA (eI rfl rfl (aT aIu M0 rfl rfl (fun b1 w1 M1 => (aB (aC (aE (aA (dH rfl rfl (wq (cF [(0, .slice _ _ _)] _ aWn rfl rfl) rfl ?_))))))))))
 refine bJ (.agg (List.toArray _)) M1 rfl rfl rfl (fun b2 w2 M2 => (wq (aJ (.pointer _) rfl) rfl (aB (aC (aE (aE (aA (wq (tA [.func _ _ _, .func _ _ _, .func _ _ _, .func _ _ _] aEb bGt rfl rfl (dD rfl)) rfl (aP rfl rfl (aB (aC (aQ ?_))))))))))))
 refine iU 5 (fI (aE (aA (cY rfl rfl rfl rfl (kH 12 rfl (by first | decide | omega) (aB (aC (aE (cE rfl ?_)))))))))
 refine aL (aC (aE (aQ (aE (aA (wq (zL 0 (.func _ _ _) aEb aJz rfl rfl (by decide) (by decide) rfl rfl) rfl (wq (aJ (.func _ _ _) rfl) rfl (aB (aC (aA (wq (aH (.func _ _ _) rfl) rfl (wq (aH (.pointer _) rfl) rfl ?_))))))))))))
 refine bY bLh rfl rfl (bFe _ (F.mem M2) (N.mem M2) b2 fV fV 0 0 false A n c xs (R.mem M2) hb hs hn (M2.ownSeg 1 1) (M2.away 1 1 R (by simp)) (M2.away 1 1 F (by simp)) (M2.away 1 1 N (by simp))) ?_
 rintro v3 w3 ⟨rfl, r, tm, ht1, ht2, hr, hM3⟩
 have M3 : Mem _ _ [_, _, _] _ := M2.seg 1 1 hM3
 have hrn : (lL xs).length = r.n := by simpa using hr.1
 refine aB (cT (aC (aA (wq (aY rfl rfl (by first | decide | omega) (by first | decide | omega)) rfl (aK 17 (.int .i64 1) (iE (by first | decide | omega)) (aP rfl rfl ?_))))))
 refine aB (aC (fI (aE (aA (cY rfl rfl rfl rfl (kH 12 rfl (by first | decide | omega) (aB (aC (aE ?_)))))))))
 refine cE rfl (aL (aC (aE (aQ (aE (aA (wq (zL 1 (.func _ _ _) aEb aJz rfl rfl (by decide) (by decide) rfl rfl) rfl (wq (aJ (.func _ _ _) rfl) rfl (aB (aC (aA (wq (aH (.func _ _ _) rfl) rfl ?_))))))))))))
 refine wq (aH (.pointer _) rfl) rfl (bY bKw rfl rfl (bFk _ b2 fV r (tm : Int) (r.n : Int) false A n c xs (R.mem M3) hb (by omega) (M3.ownSeg 1 1) (M3.away 1 1 R (by simp))) ?_)
 rintro v4 w4 ⟨rfl, g, hg, hM4⟩
 have M4 : Mem _ _ [_, _, _, _] _ := M3.seg 1 1 hM4
 have hgn : (pM xs).length = g.n := by simpa using hg.1
 have hgl := (kR xs).len
 refine aB (cT (aC (aA (wq (aY rfl rfl (by first | decide | omega) (by first | decide | omega)) rfl (aK 17 (.int .i64 2) (iE (by first | decide | omega)) (aP rfl rfl ?_))))))
 refine aB (aC (fI (aE (aA (cY rfl rfl rfl rfl (kH 12 rfl (by first | decide | omega) (aB (aC (aE ?_)))))))))
 refine cE rfl (aL (aC (aE (aQ (aE (aA (wq (zL 2 (.func _ _ _) aEb aJz rfl rfl (by decide) (by decide) rfl rfl) rfl (wq (aJ (.func _ _ _) rfl) rfl (aB (aC (aA (wq (aH (.func _ _ _) rfl) rfl ?_))))))))))))
 refine wq (aH (.pointer _) rfl) rfl (bY bMm rfl rfl (bCj _ b2 g r (tm : Int) (r.n : Int) _ A n c (pM xs) (lL xs) (hg.rd M4 (aZ (i := 3) rfl)) (hr.rd M4 (aZ (i := 2) rfl)) ((kR xs).sorted hs) (xF hb) (by omega) (fun c h => (kR xs).okc (qH hs hb c h)) (by omega) (M4.ownSeg 1 1) (hg.awayB M4 3 1 rfl rfl rfl) (hr.awayB M4 2 1 rfl rfl rfl)) ?_)
 rintro v5 w5 ⟨rfl, s, hsv, hM5⟩
 have M5 : Mem _ _ [_, _, _, _, _] _ := M4.seg 1 1 hM5
 have hsn : (lF xs).length = s.n := by have h := hsv.1; rwa [List.length_map] at h
 have hlk : Like xs (lF xs) := (kR xs).trans (iX _ _ 4)
 have hsl := hlk.len
 refine aB (cT (aC (aA (wq (aY rfl rfl (by first | decide | omega) (by first | decide | omega)) rfl (aK 17 (.int .i64 3) (iE (by first | decide | omega)) (aP rfl rfl ?_))))))
 refine aB (aC (fI (aE (aA (cY rfl rfl rfl rfl (kH 12 rfl (by first | decide | omega) (aB (aC (aE ?_)))))))))
 refine cE rfl (aL (aC (aE (aQ (aE (aA (wq (zL 3 (.func _ _ _) aEb aJz rfl rfl (by decide) (by decide) rfl rfl) rfl (wq (aJ (.func _ _ _) rfl) rfl (aB (aC (aA (wq (aH (.func _ _ _) rfl) rfl ?_))))))))))))
 refine wq (aH (.pointer _) rfl) rfl (bY bNs rfl rfl (bFv _ b2 s r (tm : Int) (r.n : Int) _ A n c xs (R.mem M5) (lF xs) (lL xs) (hsv.rd M5 (aZ (i := 4) rfl)) (hr.rd M5 (aZ (i := 2) rfl)) hs hb (qS (xF hb) 4) (by omega) (by omega) (qH hs hb) (by omega) (aFf hlk) (aTe hs hb (qH hs hb) (by omega) hlk) (M5.ownSeg 1 1) (M5.away 1 1 R (by simp)) (hsv.awayB M5 4 1 rfl rfl rfl) (hr.awayB M5 2 1 rfl rfl rfl)) ?_)
 rintro v6 w6 ⟨rfl, m, hm, hM6⟩
 have M6 : Mem _ _ [_, _, _, _, _, _] _ := M5.seg 1 1 hM6
 refine aB (cT (aC (aA (wq (aY rfl rfl (by first | decide | omega) (by first | decide | omega)) rfl (aK 17 (.int .i64 4) (iE (by first | decide | omega)) (aP rfl rfl ?_))))))
 refine aB (aC (fI (aE (aA (cY rfl rfl rfl rfl (oG 12 rfl (by first | decide | omega) (aB (aC (aE ?_)))))))))
 refine cJ rfl (cW (dE (dE (eS (aC (aE (bR [(0, 0), (1, 0), (2, 0), (3, 1), (4, 0), (5, 0), (6, 0), (7, 1), (8, 0), (9, 2)] mixed rfl (by kernel_rfl) (fun w7 hb7 hh7 => ?_))))))))
 have M7 := M6.drew hb7 hh7
 refine aU rfl rfl rfl (fun _ => aH (.pointer _) rfl) (aU rfl rfl rfl (fun _ => bE rfl) (aU rfl rfl rfl (fun _ => aD 1 yB rfl) (bS rfl rfl rfl (aM 1 (.slice _ _ _) gA M7 rfl rfl rfl) (aU rfl rfl rfl (fun _ => aH (.pointer _) rfl) (aU rfl rfl rfl (fun _ => bE rfl) ?_)))))
 refine aU rfl rfl rfl (fun _ => aD 3 qO rfl) (bS rfl rfl rfl (oQ 1 _ zV M7 rfl rfl rfl rfl) (aU rfl rfl rfl (fun _ => aJ (.slice _ _ _) rfl) (dU [true, true] rfl (by kernel_rfl) (bI 0 _ zV M7 rfl rfl rfl rfl rfl (aR rfl) rfl (fun w8 M8 => ?_)))))
 refine aB (aC ⟨dT, ?_⟩)
 refine bX (aC (aO (aTq (.slice _ _ _) 0 zV M8 rfl rfl rfl rfl ?_)))
 exact ⟨m, tm, sL rfl (by rw [hrn]; show Value.agg _ = _; rw [show tW xs = (((false || xs.any lN) || (gU (pM xs) (lL xs) 4).2) || aUg xs (lL xs) (lF xs)) by unfold tW; rw [Bool.false_or]]; rfl), by omega, ht2, hm, M8.keep [false, false, false, false, false, true]⟩
theorem aYf {a b : Int} {p : Nat} (ha : 0 ≤ a) (hp : a.natAbs * b.natAbs = p) : (if decide (b < 0) = true then (if 0 < p % 65536 then -((p / 65536 : Nat) : Int) - 1 else -((p / 65536 : Nat) : Int)) else ((p / 65536 : Nat) : Int)) = a * b / 65536 := by
 have e : a.natAbs * b.natAbs = (a * b).natAbs := (Int.natAbs_mul a b).symm
 rw [e] at hp
 by_cases h : b < 0
 ·have hs : a * b ≤ 0 := Int.mul_nonpos_of_nonneg_of_nonpos ha (by omega)
  rw [if_pos (decide_eq_true h)]
  split <;> omega
 ·have hs : 0 ≤ a * b := Int.mul_nonneg ha (by omega)
  rw [if_neg (by rw [decide_eq_true_eq]; exact h)]
  omega
set_option maxHeartbeats 4000000 in
theorem kE (w : World) (a l : Int) (hl : 0 ≤ l ∧ l ≤ 2147483648) :
  Calls Tryz.prog 153 #[.int .i64 a, .int .i64 l] w (fun ex w' => ∃ v, ex = .returned v ∧ (fun v w' => v = .int .i64 (iS a l) ∧ Below w.heap.size w w') v w') := by
 refine aI #[.tmp 4] 16 Tryz.func153 rfl Tryz.results153 Tryz.ntmps153 rfl ?_
 have M0 := Mem.refl w
 refine aE (aA (bH rfl rfl (aB (aC (aE (aE (aA (aP rfl rfl (aP rfl rfl (cY rfl rfl rfl rfl ?_))))))))))
 refine aB (aC ?_)
 refine aW rfl (fun h7 => ?_) (fun h7 => ?_)
 ·refine aE (aA (aP rfl rfl (bH rfl rfl (aB (aC (aO (cO (cG (.int _ _) rfl ?_))))))))
  exact ⟨iE (by unfold iS; omega), M0.below⟩
 ·refine aL (aC (aE (aE (aA (aP rfl rfl (aP rfl rfl (wq (qB rfl (fG _ (by omega) (by omega))) rfl (cY rfl rfl rfl rfl (aB (aC ?_))))))))))
  refine aW rfl (fun h12 => ?_) (fun h12 => ?_)
  ·refine aE (aA (aP rfl rfl (wq (qB rfl (fG _ (by omega) (by omega))) rfl (bH rfl rfl (aB (aC (aO (cO (cG (.int _ _) rfl ?_)))))))))
   exact ⟨iE (by unfold iS; omega), M0.below⟩
  ·refine aL (aC (aE (aA (aP rfl rfl (bH rfl rfl (aB (aC (aO (cG (.int _ _) rfl ?_)))))))))
   exact ⟨iE (by unfold iS; omega), M0.below⟩
set_option maxHeartbeats 8000000 in
theorem tE (w : World) (a b : Int) (ha : 0 ≤ a) (ha2 : a ≤ 4611686018427387904) (hb0 : -4611686018427387904 ≤ b) (hb1 : b ≤ 4611686018427387904) (hp : -8796093022208 ≤ a * b ∧ a * b ≤ 8796093022208) :
  Calls Tryz.prog 228 #[.int .i64 a, .int .i64 b, .int .i64 16] w (fun ex w' => ∃ v, ex = .returned v ∧ (fun v w' => v = .tuple #[.int .i64 (a * b / 65536), .int .i64 0] ∧ Below w.heap.size w w') v w') := by
 obtain ⟨p, hpp⟩ : ∃ p, a.natAbs * b.natAbs = p := ⟨_, rfl⟩
 have hpl : p ≤ 8796093022208 := by have e := Int.natAbs_mul a b; omega
 refine aI #[.tmp 6, .tmp 7] 52 Tryz.func228 rfl Tryz.results228 Tryz.ntmps228 rfl ?_
 have M0 := Mem.refl w
 refine aE (aA (bH rfl rfl (bH rfl rfl (aB (aC (aE (aE (aA (aP rfl rfl (cY rfl rfl rfl rfl ?_))))))))))
 refine oG 16 rfl (by first | decide | omega) (wq (aH (.bool false) rfl) rfl (aP rfl rfl (cY rfl rfl rfl rfl (oG 19 rfl (by first | decide | omega) (wq (bQ false (.bool false) rfl rfl) rfl ?_)))))
 refine aB (aC (cJ rfl (aL (aC (aE (aA (bH rfl rfl (aB (aC (aE (aE (aA (bH rfl rfl ?_)))))))))))))
 refine aB (aC (aQ (dS (σ := Nat) [0, 1, 2, 6, 7] (fun k => [(8, .int .u64 ((2 ^ k : Nat) : Int)), (9, .int .i64 (k : Int))]) (fun k w' => k ≤ 16 ∧ Mem w [] [] w') (fun k => 16 - k) 0 (bB (iE rfl) (bB rfl dZ)) (⟨by omega, M0⟩) ?_)))
 rintro k ρ1 w1 ⟨hk, hM1⟩
 refine aE (aE (aA (aP rfl rfl (aP rfl rfl (cY rfl rfl rfl rfl (aB (aC ?_)))))))
 refine aW rfl (fun h23 => ?_) (fun h23 => ?_)
 ·have hpw : 2 ^ k ≤ 2 ^ 15 := Nat.pow_le_pow_right (by omega) (by omega)
  refine aL (aC (aE (aQ (aA (aP rfl rfl (wq (cA (.int _ _) rfl rfl rfl) rfl (aK 27 (.int .u64 ((2 ^ (k + 1) : Nat) : Int)) (iE (by rw [gD, Nat.pow_succ]; omega)) (bH rfl rfl (aB ?_)))))))))
  refine cT (aC (aA (aP rfl rfl (wq (aY rfl rfl (by omega) (by omega)) rfl (bH rfl rfl (aB ?_))))))
  refine cD (k + 1) (bB (iE rfl) (bB rfl dZ)) (cK rfl (cK rfl (cK rfl (cK rfl (cK rfl gW))))) ?_ ?_
  ·exact ⟨by omega, hM1⟩
  ·omega
 ·have hk16 : k = 16 := by omega
  subst hk16
  refine cW (dE (dL (eS (aC (aE (aA (aP rfl rfl ?_)))))))
  refine aP rfl rfl (bY bBq rfl rfl (vI _ a b (by omega) (by omega) (by omega) (by omega)) ?_)
  rintro v2 w2 ⟨D, rfl, hD8, hDd, hDv, hb2⟩
  have M2 := hM1.callB hb2
  obtain ⟨d0, d1, d2, d3, d4, d5, d6, d7, rfl⟩ := bJf hD8
  rw [hpp] at hDv
  refine aP rfl rfl (bY bEn rfl rfl (wY _ d0 d1 d2 d3 d4 d5 d6 d7 hDd 65536 (by omega) (by omega) (by rw [hDv]; omega) (by rw [hDv]; omega)) ?_)
  rintro v3 w3 ⟨rfl, hb3⟩
  have M3 := M2.callB hb3
  refine wq (aH (.tuple (List.toArray _)) rfl) rfl (wq (bN (.int _ _) rfl rfl) rfl (aK 34 (.int .u64 ((p / 65536 : Nat) : Int)) (iE (by rw [hDv])) (wq (bN (.int _ _) rfl rfl) rfl (aK 35 (.int .u64 ((p % 65536 : Nat) : Int)) (iE (by rw [hDv])) (wq (bN (.bool true) rfl rfl) rfl ?_)))))
  refine bH rfl rfl (bH rfl rfl (wq (aJ (.bool true) rfl) rfl (aB (aC (aE (aA (aP rfl rfl (aP rfl rfl ?_))))))))
  refine wq (aH (.bool true) rfl) rfl (aP rfl rfl (cY rfl rfl rfl rfl (oG 42 rfl (by omega) (aP rfl rfl (cY rfl rfl rfl rfl ?_)))))
  refine wq (rP _ Tryz.underlying4 rfl rfl rfl) rfl (aK 45 (.bool (decide (b < 0))) (bv rfl (by simp)) (bY bBv rfl rfl (aAc _ (p / 65536) (p % 65536) (decide (b < 0)) (by omega)) ?_))
  rintro v4 w4 ⟨rfl, hb4⟩
  have M4 := M3.callB hb4
  refine wq (aH (.tuple (List.toArray _)) rfl) rfl (wq (bN (.int _ _) rfl rfl) rfl (wq (bN (.bool true) rfl rfl) rfl (bH rfl rfl (wq (aJ (.bool true) rfl) rfl (aB (aC (aE (aE (aA ?_)))))))))
  refine wq (aH (.bool true) rfl) rfl (wq (gI false rfl rfl) rfl (aB (aC (cJ rfl (aL (aC (aE (aA (aP rfl rfl ?_)))))))))
  refine bH rfl rfl (bH rfl rfl (aB (aC (aO (fY (.int _ _) (.int _ _) rfl rfl ?_)))))
  exact ⟨sL (iE (aYf ha hpp)) rfl, M4.below⟩
set_option maxHeartbeats 4000000 in
theorem aDy (w : World) (c : Con) (a b : Body) (hc : Okn c) (ha : Okb a) (hb : Okb b) :
  Calls Tryz.prog 227 #[.agg (cI c).toArray, (.agg (aF a).toArray), (.agg (aF b).toArray)] w (fun ex w' => ∃ v, ex = .returned v ∧ (fun v w' => v = .int .i64 (vX c a b) ∧ Below w.heap.size w w') v w') := by
 have hr := wS hc ha hb
 have hv1 := ha.v
 have hv2 := hb.v
 have hx := hc.x
 have hy := hc.y
 refine aI #[.tmp 6] 41 Tryz.func227 rfl Tryz.results227 Tryz.ntmps227 rfl ?_
 have M0 := Mem.refl w
 refine aE (aA (bJ (.agg (List.toArray _)) M0 rfl rfl rfl (fun b1 w1 M1 => (bJ (.agg (List.toArray _)) M1 rfl rfl rfl (fun b2 w2 M2 => (bJ (.agg (List.toArray _)) M2 rfl rfl rfl (fun b3 w3 M3 => (bH rfl rfl (aB (aC (aE (aA ?_))))))))))))
 refine wq (aD 8 dW rfl) rfl (wq (aD 0 cS rfl) rfl (wq (aM 2 (.int _ _) aV M3 rfl rfl rfl) rfl (wq (bA dP Tryz.underlying2 rfl (fG _ (by omega) (by omega))) rfl (wq (aD 8 dW rfl) rfl (wq (aD 0 cS rfl) rfl ?_)))))
 refine wq (aM 1 (.int _ _) aV M3 rfl rfl rfl) rfl (wq (bA dP Tryz.underlying2 rfl (fG _ (by omega) (by omega))) rfl (wq (fR rfl rfl (by omega) (by omega)) rfl (wq (aD 2 gZ rfl) rfl (wq (aD 0 cS rfl) rfl (wq (aM 0 (.int _ _) aV M3 rfl rfl rfl) rfl ?_)))))
 refine wq (bA dP Tryz.underlying2 rfl (fG _ (by omega) (by omega))) rfl (wq (fC rfl rfl (by omega) (by omega)) rfl (bH rfl rfl (aB (aC (aE (aA (wq (aD 8 dW rfl) rfl (wq (aD 1 cN rfl) rfl ?_))))))))
 refine wq (aM 2 (.int _ _) aV M3 rfl rfl rfl) rfl (wq (bA dP Tryz.underlying2 rfl (fG _ (by omega) (by omega))) rfl (wq (aD 8 dW rfl) rfl (wq (aD 1 cN rfl) rfl (wq (aM 1 (.int _ _) aV M3 rfl rfl rfl) rfl (wq (bA dP Tryz.underlying2 rfl (fG _ (by omega) (by omega))) rfl ?_)))))
 refine wq (fR rfl rfl (by omega) (by omega)) rfl (wq (aD 2 gZ rfl) rfl (wq (aD 1 cN rfl) rfl (wq (aM 0 (.int _ _) aV M3 rfl rfl rfl) rfl (wq (bA dP Tryz.underlying2 rfl (fG _ (by omega) (by omega))) rfl (wq (fC rfl rfl (by omega) (by omega)) rfl ?_)))))
 refine bH rfl rfl (aB (aC (aE (aA (aP rfl rfl (aP rfl rfl (wq (aY rfl rfl (by omega) (by omega)) rfl (bY kW rfl rfl (fB _ _ 65536 (by decide) (by omega) (by omega)) ?_))))))))
 rintro v4 w4 ⟨rfl, hb4⟩
 have M4 := M3.callB hb4
 refine bH rfl rfl (aB (aC (aO (cG (.int _ _) rfl ?_))))
 exact ⟨rfl, M4.below⟩
set_option maxHeartbeats 4000000 in
theorem tM (w : World) (c : Con) (a b : Body) (hc : Okn c) (ha : Okb a) (hb : Okb b) :
  Calls Tryz.prog 201 #[.agg (cI c).toArray, (.agg (aF a).toArray), (.agg (aF b).toArray)] w (fun ex w' => ∃ v, ex = .returned v ∧ (fun v w' => v = .int .i64 (kO c a b) ∧ Below w.heap.size w w') v w') := by
 have hr := wS hc ha hb
 have hm1 := ha.m
 have hm2 := hb.m
 have hc1 := ha.c
 have hc2 := hb.c
 refine aI #[.tmp 6] 38 Tryz.func201 rfl Tryz.results201 Tryz.ntmps201 rfl ?_
 have M0 := Mem.refl w
 refine aE (aA (bJ (.agg (List.toArray _)) M0 rfl rfl rfl (fun b1 w1 M1 => (bJ (.agg (List.toArray _)) M1 rfl rfl rfl (fun b2 w2 M2 => (bJ (.agg (List.toArray _)) M2 rfl rfl rfl (fun b3 w3 M3 => (bH rfl rfl (aB (aC (aE (aA ?_))))))))))))
 refine wq (aX 0 eV M3 rfl rfl rfl) rfl (wq (aX 1 bP M3 rfl rfl rfl) rfl (wq (aX 2 bP M3 rfl rfl rfl) rfl (bY bKc rfl rfl (aDy _ c a b hc ha hb) ?_)))
 rintro v4 w4 ⟨rfl, hb4⟩
 have M4 := M3.callB hb4
 refine bH rfl rfl (aB (aC (aE (aA (wq (aD 4 eG rfl) rfl (wq (aM 1 (.int _ _) aV M4 rfl rfl rfl) rfl (wq (bA dP Tryz.underlying2 rfl (fG _ (by omega) (by omega))) rfl (wq (aD 4 eG rfl) rfl ?_))))))))
 refine wq (aM 2 (.int _ _) aV M4 rfl rfl rfl) rfl (wq (bA dP Tryz.underlying2 rfl (fG _ (by omega) (by omega))) rfl (wq (aY rfl rfl (by omega) (by omega)) rfl (bH rfl rfl (aB (aC (aE (aE (aA (aP rfl rfl ?_)))))))))
 refine cY rfl rfl rfl rfl (wq (aH (.bool (decide _)) rfl) rfl ?_)
 refine dN 22 rfl (fun g22 => ?_) (fun g22 => ?_)
 ·refine aN rfl rfl (aN rfl rfl (wq (bQ true (.bool true) rfl rfl) rfl (aB (aC (cE rfl (aE (aA ?_)))))))
  refine bH rfl rfl (aB (aC (aO (cO (cG (.int _ _) rfl ?_)))))
  exact ⟨iE (by unfold kO; rw [if_pos (.inl (by omega))]), M4.below⟩
 ·refine aP rfl rfl (cY rfl rfl rfl rfl (wq (bQ false (.bool (decide _)) rfl rfl) rfl (aB (aC ?_))))
  refine aW rfl (fun h25 => ?_) (fun h25 => ?_)
  ·refine aE (aA (bH rfl rfl (aB (aC (aO (cO (cG (.int _ _) rfl ?_)))))))
   exact ⟨iE (by unfold kO; rw [if_pos (.inr (by omega))]), M4.below⟩
  ·have hsp := aDa hc ha hb (by omega)
   refine aL (aC (aE (aA (aP rfl rfl (wq (qB rfl (fG _ (by omega) (by omega))) rfl (wq (aD 5 nB rfl) rfl (wq (aM 1 (.int _ _) aV M4 rfl rfl rfl) rfl (wq (aD 5 nB rfl) rfl ?_))))))))
   refine wq (aM 2 (.int _ _) aV M4 rfl rfl rfl) rfl (wq (pV rfl rfl ) rfl (wq (bA dP Tryz.underlying2 rfl (fG _ (by omega) (by omega))) rfl (aK 33 (.int .i64 (max a.bounce b.bounce)) (iE (by first | rfl | omega)) (wq (aY rfl rfl (by omega) (by omega)) rfl (wq (fC rfl rfl (by omega) (by omega)) rfl ?_)))))
   refine aP rfl rfl (bY kW rfl rfl (fB _ (-vX c a b * (65536 + max a.bounce b.bounce)) (a.mass + b.mass) (by omega) (by omega) (by omega)) ?_)
   rintro v5 w5 ⟨rfl, hb5⟩
   have M5 := M4.callB hb5
   refine bH rfl rfl (aB (aC (aO (cG (.int _ _) rfl ?_))))
   exact ⟨iE (by unfold kO; rw [if_neg (fun g => by omega)]), M5.below⟩
set_option maxHeartbeats 4000000 in
theorem mX (w : World) (j m x : Int) (hj : 0 ≤ j ∧ j ≤ 8796093022208) (hm : 0 ≤ m ∧ m ≤ 1048576) (hp : 0 ≤ j * m ∧ j * m ≤ 8796093022208) (hx : -65536 ≤ x ∧ x ≤ 65536) :
  Calls Tryz.prog 202 #[.int .i64 j, .int .i32 m, .int .i32 x] w (fun ex w' => ∃ v, ex = .returned v ∧ (fun v w' => v = .int .i64 (nK j m x) ∧ Below w.heap.size w w') v w') := by
 have r1 := kL hp hx
 have hkk := r1.1
 refine aI #[.tmp 6] 26 Tryz.func202 rfl Tryz.results202 Tryz.ntmps202 rfl ?_
 have M0 := Mem.refl w
 refine aE (aA (bH rfl rfl (aB (aC (aE (aA (aP rfl rfl (aP rfl rfl (wq (bA dP Tryz.underlying2 rfl (fG _ (by omega) (by omega))) rfl ?_)))))))))
 refine bY aYh rfl rfl (tE _ j m (by omega) (by omega) (by omega) (by omega) (by omega)) ?_
 rintro v1 w1 ⟨rfl, hb1⟩
 have M1 := M0.callB hb1
 refine wq (aH (.tuple (List.toArray _)) rfl) rfl (wq (bN (.int _ _) rfl rfl) rfl (wq (bN (.int _ _) rfl rfl) rfl (bH rfl rfl (bH rfl rfl (aB (aC (aE (aA ?_))))))))
 refine aP rfl rfl (aP rfl rfl (wq (bA dP Tryz.underlying2 rfl (fG _ (by omega) (by omega))) rfl (bY aYh rfl rfl (tE _ (j * m / 65536) x (by omega) (by omega) (by omega) (by omega) r1.2.1) ?_)))
 rintro v2 w2 ⟨rfl, hb2⟩
 have M2 := M1.callB hb2
 refine wq (aH (.tuple (List.toArray _)) rfl) rfl (wq (bN (.int _ _) rfl rfl) rfl (wq (bN (.int _ _) rfl rfl) rfl (bH rfl rfl (bH rfl rfl (aB (aC (aE (aA ?_))))))))
 refine aP rfl rfl (bH rfl rfl (aB (aC (aO (cG (.int _ _) rfl ?_)))))
 exact ⟨rfl, M2.below⟩
def pX (s : Bool) (c : Con) : Int := cond s c.ny c.nx
theorem aSd {s : Bool} {c : Con} (h : Okn c) : -65536 ≤ pX s c ∧ pX s c ≤ 65536 := by cases s; exact h.x; exact h.y
theorem tZ {xs : List Body} {b xa xb : Body} (hs : cU xs) (ha : xa ∈ xs) (hb : xb ∈ xs) (h : b ∈ xs) (hm : 0 ≤ xa.mass) (hm2 : 0 ≤ xb.mass) (e : b.key = xa.key ∨ b.key = xb.key) : b.mass ≤ xa.mass + xb.mass := by
 rcases e with e | e
 ·rw [lM hs h ha e]; omega
 ·rw [lM hs h hb e]; omega
set_option maxHeartbeats 8000000 in
theorem aId (w : World) (A : Option Addr) (n c : Nat) (xs : List Body) (R : Rd w 10 A n (xs.map aF)) (hs : cU xs) (hb : ∀ b ∈ xs, Okb b) (hn : n ≤ 1048576) (B : Option Addr) (mc c' : Nat) (cs : List Con) (R' : Rd w 5 B mc (cs.map cI)) (hcs : ∀ c ∈ cs, OkC xs c) (hmc : mc ≤ 8589934592) (i : Nat) (b : Body) (hxi : xs[i]? = some b) (sec : Bool) :
  Calls Tryz.prog 178 #[.slice A n c, .slice B mc c', .int .i64 (i : Int), .bool sec] w (fun ex w' => ∃ v, ex = .returned v ∧ (fun v w' => v = .int .i64 (gY xs cs (pX sec) b) ∧ Below w.heap.size w w') v w') := by
 have hlen : xs.length = n := by simpa using R.len
 have hbd := R.bound
 have hclen : cs.length = mc := by simpa using R'.len
 have hbd' := R'.bound
 have hbi := List.mem_of_getElem? hxi
 have hil := (List.getElem?_eq_some_iff.1 hxi).1
 refine aI #[.tmp 8] 98 Tryz.func178 rfl Tryz.results178 Tryz.ntmps178 rfl ?_
 have M0 := Mem.refl w
 refine aE (aA (bH rfl rfl (aB (aC (aE (aA (bH rfl rfl (aB (aC (aE (aE (aA (bH rfl rfl ?_)))))))))))))
 refine aB (aC (aQ (dS (σ := Nat) [0, 1, 2, 3, 8] (fun k => [(9, .int .i64 (gY xs (cs.take k) (pX sec) b)), (10, .int .i64 (k : Int))]) (fun k w' => k ≤ mc ∧ Mem w [] [] w') (fun k => mc - k) 0 (bB (iE (aIg _ _ _ _).symm) (bB rfl dZ)) (⟨by omega, M0⟩) ?_)))
 rintro k ρ1 w1 ⟨hk, hM1⟩
 refine aE (aE (aA (aP rfl rfl (dH rfl rfl (wq (cZ Tryz.underlying166 rfl) rfl (cY rfl rfl rfl rfl (aB (aC ?_))))))))
 refine aW rfl (fun h20 => ?_) (fun h20 => ?_)
 ·obtain ⟨cn, hcn⟩ := cV (xs := cs) (k := k) hclen (by omega)
  have hc := hcs cn (List.mem_of_getElem? hcn)
  have hne := hc.ne
  have hg := aSd (s := sec) hc.n
  have hsr := sZ (cs := cs.take k) (g := pX sec) hs hb (fun c h => hcs c (List.mem_of_mem_take h)) (fun c h => aSd (hcs c (List.mem_of_mem_take h)).n) hbi
  have htl := List.length_take_le k cs
  obtain ⟨pa, xa, hxa, hka, hfa⟩ := uZ hc.l
  obtain ⟨pb, xb, hxb, hkb, hfb⟩ := uZ hc.h
  have hba := zS hxa hfa
  have hbb := zS hxb hfb
  have hma := List.mem_of_getElem? hxa
  have hmb := List.mem_of_getElem? hxb
  have hoa := hb xa hma
  have hob := hb xb hmb
  have qa := hoa.m
  have qb := hob.m
  refine aL (aC (aE (aQ (aE (aA (dH rfl rfl (aP rfl rfl (wq (bO (k) sD rfl rfl rfl ((R'.mem hM1).below_len (aG cI hcn)) ((R'.mem hM1).someK (aG cI hcn))) rfl (wq (dI _ eV (R'.mem hM1) (aG cI hcn) rfl) rfl (aT mC hM1 rfl rfl (fun b2 w2 M2 => ?_)))))))))))
  refine bI 0 _ eV M2 rfl rfl rfl rfl rfl (aR rfl) rfl (fun w3 M3 => (aB (aC (aE (aE (bR [(0, 0), (1, 0), (2, 1), (3, 0), (4, 0), (5, 1), (6, 1), (7, 1), (8, 0), (9, 0), (10, 0), (11, 0), (12, 1), (13, 0), (14, 0), (15, 1), (16, 1), (17, 1), (18, 0), (19, 0)] mixed rfl (by kernel_rfl) (fun w4 hb4 hh4 => ?_)))))))
  have M4 := M3.drew hb4 hh4
  refine aU rfl rfl rfl (fun _ => aD 0 fL rfl) (aU rfl rfl rfl (fun _ => aD 0 gE rfl) (bS rfl rfl rfl (aM 0 (.int _ _) bW M4 rfl rfl rfl) (kN rfl rfl rfl (eB rfl rfl rfl (bS rfl rfl rfl (bO (i) dK rfl rfl rfl ((R.mem M4).below_len (aG aF hxi)) ((R.mem M4).someK (aG aF hxi))) ?_)))))
  refine bS rfl rfl rfl (bG 0 dM (R.mem M4) (Nat.lt_of_le_of_lt (Nat.zero_le _) ((R.mem M4).below_len (aG aF hxi))) rfl) (bS rfl rfl rfl (dX (o := 0) (.int _ _) bW (R.mem M4) (aG aF hxi) rfl rfl) (aU rfl rfl rfl (fun _ => cA (.bool (decide _)) rfl rfl rfl) (aU rfl rfl rfl (fun _ => aH (.bool (decide _)) rfl) ?_)))
  refine wW 36 rfl (fun g36 => ?_) (fun g36 => ?_)
  ·refine aU rfl rfl rfl (fun _ => aD 0 fL rfl) (aU rfl rfl rfl (fun _ => aD 1 jQ rfl) (bS rfl rfl rfl (aM 0 (.int _ _) bW M4 rfl rfl rfl) (kN rfl rfl rfl (eB rfl rfl rfl (bS rfl rfl rfl (bO (i) dK rfl rfl rfl ((R.mem M4).below_len (aG aF hxi)) ((R.mem M4).someK (aG aF hxi))) ?_)))))
   refine bS rfl rfl rfl (bG 0 dM (R.mem M4) (Nat.lt_of_le_of_lt (Nat.zero_le _) ((R.mem M4).below_len (aG aF hxi))) rfl) (bS rfl rfl rfl (dX (o := 0) (.int _ _) bW (R.mem M4) (aG aF hxi) rfl rfl) (aU rfl rfl rfl (fun _ => cA (.bool (decide _)) rfl rfl rfl) (aU rfl rfl rfl (fun _ => bQ true (.bool (decide _)) rfl rfl) ?_)))
   refine bX (aC ?_)
   refine aW rfl (fun h46 => ?_) (fun h46 => ?_)
   ·refine cW (dE (eS (aC (aA (aP rfl rfl (wq (aY rfl rfl (by omega) (by omega)) rfl ?_))))))
    refine bH rfl rfl (aB ?_)
    refine cD (k + 1) (bB (iE (by rw [jU hcn]; unfold ctr; rw [if_neg (by omega), if_neg (by omega)]; omega)) (bB rfl dZ)) (cK rfl (cK rfl (cK rfl (cK rfl (cK rfl gW))))) ?_ ?_
    ·exact ⟨by omega, M4.keep [false]⟩
    ·(show mc - (k + 1) < mc - k; omega)
   ·refine aL (aC (aE (aA (dH rfl rfl (dH rfl rfl (wq (aD 0 fL rfl) rfl (wq (aD 0 gE rfl) rfl (wq (aM 0 (.int _ _) bW M4 rfl rfl rfl) rfl ?_))))))))
    refine bY sH rfl rfl (gS _ cn.low _ _ _ xs (R.mem M4)) ?_
    rintro v5 w5 ⟨rfl, hb5⟩
    have M5 := M4.callB hb5
    refine wq (bO (pa) dK rfl rfl hfa ((R.mem M5).below_len (aG aF hxa)) ((R.mem M5).someK (aG aF hxa))) rfl (wq (dI _ bP (R.mem M5) (aG aF hxa) rfl) rfl (aT fO M5 rfl rfl (fun b6 w6 M6 => (bI 1 _ bP M6 rfl rfl rfl rfl rfl (aR rfl) rfl (fun w7 M7 => ?_)))))
    refine aB (aC (aE (aA (dH rfl rfl (dH rfl rfl (wq (aD 0 fL rfl) rfl (wq (aD 1 jQ rfl) rfl (wq (aM 0 (.int _ _) bW M7 rfl rfl rfl) rfl ?_))))))))
    refine bY sH rfl rfl (gS _ cn.high _ _ _ xs (R.mem M7)) ?_
    rintro v8 w8 ⟨rfl, hb8⟩
    have M8 := M7.callB hb8
    refine wq (bO (pb) dK rfl rfl hfb ((R.mem M8).below_len (aG aF hxb)) ((R.mem M8).someK (aG aF hxb))) rfl (wq (dI _ bP (R.mem M8) (aG aF hxb) rfl) rfl (aT fO M8 rfl rfl (fun b9 w9 M9 => (bI 2 _ bP M9 rfl rfl rfl rfl rfl (aR rfl) rfl (fun w10 M10 => ?_)))))
    refine aB (aC (aE (aA (wq (aX 0 eV M10 rfl rfl rfl) rfl (wq (aX 1 bP M10 rfl rfl rfl) rfl (wq (aX 2 bP M10 rfl rfl rfl) rfl (bY bBa rfl rfl (tM _ cn xa xb hc.n hoa hob) ?_)))))))
    rintro v11 w11 ⟨rfl, hb11⟩
    have M11 := M10.callB hb11
    refine bH rfl rfl (aB (aC (aE (aA (wq (aD 2 gZ rfl) rfl (wq (aD 0 cS rfl) rfl (wq (aM 0 (.int _ _) aV M11 rfl rfl rfl) rfl (bH rfl rfl ?_))))))))
    refine aB (aC (aE (aE (aA (wq (aH (.bool _) rfl) rfl (aB (aC ?_)))))))
    refine iD _ rfl (fun h70 => ?_) (fun h70 => ?_)
    ·refine aA (wq (aD 2 gZ rfl) rfl (wq (aD 1 cN rfl) rfl (wq (aM 0 (.int _ _) aV M11 rfl rfl rfl) rfl (bH rfl rfl (aB (aC (aE (aA ?_))))))))
     refine aP rfl rfl (dH rfl rfl (aP rfl rfl (wq (bO (i) dK rfl rfl rfl ((R.mem M11).below_len (aG aF hxi)) ((R.mem M11).someK (aG aF hxi))) rfl (wq (bG 4 eG (R.mem M11) (Nat.lt_of_le_of_lt (Nat.zero_le _) ((R.mem M11).below_len (aG aF hxi))) rfl) rfl (wq (dX (o := 4) (.int _ _) aV (R.mem M11) (aG aF hxi) rfl rfl) rfl ?_)))))
     refine aP rfl rfl (aK 80 (.int .i32 (pX sec cn)) (iE (by rw [h70]; rfl)) (vZ aJy rfl rfl rfl ?_))
     have hbm : 0 ≤ b.mass ∧ b.mass ≤ xa.mass + xb.mass := ⟨(hb b hbi).m.1, tZ hs hma hmb hbi qa.1 qb.1 (by omega)⟩
     have hst := pP hc.n hoa hob hbm
     have hmq := (hb b hbi).m
     have hcr := (kL hst.2.2 hg).2.2
     have hjv : nK (kO cn xa xb) b.mass (pX sec cn) = nK (jV xs cn) b.mass (pX sec cn) := by unfold jV; rw [hba, hbb]
     refine (mX _ (kO cn xa xb) b.mass (pX sec cn) ⟨hst.1, hst.2.1⟩ hmq hst.2.2 hg).mono ?_
     rintro _ w12 ⟨v12, rfl, ⟨rfl, hb12⟩⟩
     refine ⟨_, rfl, ?_⟩
     have M12 := M11.callB hb12
     refine bH rfl rfl (aB (aC (aE (bR [(0, 0), (1, 0), (2, 1), (3, 0), (4, 0), (5, 1), (6, 1), (7, 1), (8, 0)] mixed rfl (by kernel_rfl) (fun w13 hb13 hh13 => ?_)))))
     have M13 := M12.drew hb13 hh13
     refine aU rfl rfl rfl (fun _ => aD 0 fL rfl) (aU rfl rfl rfl (fun _ => aD 0 gE rfl) (bS rfl rfl rfl (aM 0 (.int _ _) bW M13 rfl rfl rfl) (kN rfl rfl rfl (eB rfl rfl rfl (bS rfl rfl rfl (bO (i) dK rfl rfl rfl ((R.mem M13).below_len (aG aF hxi)) ((R.mem M13).someK (aG aF hxi))) ?_)))))
     refine bS rfl rfl rfl (bG 0 dM (R.mem M13) (Nat.lt_of_le_of_lt (Nat.zero_le _) ((R.mem M13).below_len (aG aF hxi))) rfl) (bS rfl rfl rfl (dX (o := 0) (.int _ _) bW (R.mem M13) (aG aF hxi) rfl rfl) (aU rfl rfl rfl (fun _ => cA (.bool (decide _)) rfl rfl rfl) ?_))
     refine bX (aC ?_)
     refine aW rfl (fun h90 => ?_) (fun h90 => ?_)
     ·refine aA (aP rfl rfl (aP rfl rfl (wq (fR rfl rfl (by omega) (by omega)) rfl (bH rfl rfl (aB ?_)))))
      refine cT (aC (aA (aP rfl rfl (wq (aY rfl rfl (by omega) (by omega)) rfl (bH rfl rfl (aB ?_))))))
      refine cD (k + 1) (bB (iE (by rw [jU hcn]; unfold ctr; rw [if_pos (by omega), ← hjv]; omega)) (bB rfl dZ)) (cK rfl (cK rfl (cK rfl (cK rfl (cK rfl gW))))) ?_ ?_
      ·exact ⟨by omega, M13.keep [false, false, false]⟩
      ·(show mc - (k + 1) < mc - k; omega)
     ·refine aA (aP rfl rfl (aP rfl rfl (wq (aY rfl rfl (by omega) (by omega)) rfl (bH rfl rfl (aB ?_)))))
      refine cT (aC (aA (aP rfl rfl (wq (aY rfl rfl (by omega) (by omega)) rfl (bH rfl rfl (aB ?_))))))
      refine cD (k + 1) (bB (iE (by rw [jU hcn]; unfold ctr; rw [if_neg (by omega), if_pos (by omega), ← hjv])) (bB rfl dZ)) (cK rfl (cK rfl (cK rfl (cK rfl (cK rfl gW))))) ?_ ?_
      ·exact ⟨by omega, M13.keep [false, false, false]⟩
      ·(show mc - (k + 1) < mc - k; omega)
    ·refine aL (aC (aE (aA (aP rfl rfl (dH rfl rfl (aP rfl rfl (wq (bO (i) dK rfl rfl rfl ((R.mem M11).below_len (aG aF hxi)) ((R.mem M11).someK (aG aF hxi))) rfl (wq (bG 4 eG (R.mem M11) (Nat.lt_of_le_of_lt (Nat.zero_le _) ((R.mem M11).below_len (aG aF hxi))) rfl) rfl ?_))))))))
     refine wq (dX (o := 4) (.int _ _) aV (R.mem M11) (aG aF hxi) rfl rfl) rfl (aP rfl rfl (aK 80 (.int .i32 (pX sec cn)) (iE (by rw [h70]; rfl)) (vZ aJy rfl rfl rfl ?_)))
     have hbm : 0 ≤ b.mass ∧ b.mass ≤ xa.mass + xb.mass := ⟨(hb b hbi).m.1, tZ hs hma hmb hbi qa.1 qb.1 (by omega)⟩
     have hst := pP hc.n hoa hob hbm
     have hmq := (hb b hbi).m
     have hcr := (kL hst.2.2 hg).2.2
     have hjv : nK (kO cn xa xb) b.mass (pX sec cn) = nK (jV xs cn) b.mass (pX sec cn) := by unfold jV; rw [hba, hbb]
     refine (mX _ (kO cn xa xb) b.mass (pX sec cn) ⟨hst.1, hst.2.1⟩ hmq hst.2.2 hg).mono ?_
     rintro _ w14 ⟨v14, rfl, ⟨rfl, hb14⟩⟩
     refine ⟨_, rfl, ?_⟩
     have M14 := M11.callB hb14
     refine bH rfl rfl (aB (aC (aE (bR [(0, 0), (1, 0), (2, 1), (3, 0), (4, 0), (5, 1), (6, 1), (7, 1), (8, 0)] mixed rfl (by kernel_rfl) (fun w15 hb15 hh15 => ?_)))))
     have M15 := M14.drew hb15 hh15
     refine aU rfl rfl rfl (fun _ => aD 0 fL rfl) (aU rfl rfl rfl (fun _ => aD 0 gE rfl) (bS rfl rfl rfl (aM 0 (.int _ _) bW M15 rfl rfl rfl) (kN rfl rfl rfl (eB rfl rfl rfl (bS rfl rfl rfl (bO (i) dK rfl rfl rfl ((R.mem M15).below_len (aG aF hxi)) ((R.mem M15).someK (aG aF hxi))) ?_)))))
     refine bS rfl rfl rfl (bG 0 dM (R.mem M15) (Nat.lt_of_le_of_lt (Nat.zero_le _) ((R.mem M15).below_len (aG aF hxi))) rfl) (bS rfl rfl rfl (dX (o := 0) (.int _ _) bW (R.mem M15) (aG aF hxi) rfl rfl) (aU rfl rfl rfl (fun _ => cA (.bool (decide _)) rfl rfl rfl) ?_))
     refine bX (aC ?_)
     refine aW rfl (fun h90 => ?_) (fun h90 => ?_)
     ·refine aA (aP rfl rfl (aP rfl rfl (wq (fR rfl rfl (by omega) (by omega)) rfl (bH rfl rfl (aB ?_)))))
      refine cT (aC (aA (aP rfl rfl (wq (aY rfl rfl (by omega) (by omega)) rfl (bH rfl rfl (aB ?_))))))
      refine cD (k + 1) (bB (iE (by rw [jU hcn]; unfold ctr; rw [if_pos (by omega), ← hjv]; omega)) (bB rfl dZ)) (cK rfl (cK rfl (cK rfl (cK rfl (cK rfl gW))))) ?_ ?_
      ·exact ⟨by omega, M15.keep [false, false, false]⟩
      ·(show mc - (k + 1) < mc - k; omega)
     ·refine aA (aP rfl rfl (aP rfl rfl (wq (aY rfl rfl (by omega) (by omega)) rfl (bH rfl rfl (aB ?_)))))
      refine cT (aC (aA (aP rfl rfl (wq (aY rfl rfl (by omega) (by omega)) rfl (bH rfl rfl (aB ?_))))))
      refine cD (k + 1) (bB (iE (by rw [jU hcn]; unfold ctr; rw [if_neg (by omega), if_pos (by omega), ← hjv])) (bB rfl dZ)) (cK rfl (cK rfl (cK rfl (cK rfl (cK rfl gW))))) ?_ ?_
      ·exact ⟨by omega, M15.keep [false, false, false]⟩
      ·(show mc - (k + 1) < mc - k; omega)
  ·refine rB rfl rfl rfl (rB rfl rfl rfl (nN rfl rfl rfl (rB rfl rfl rfl (rB rfl rfl rfl (nN rfl rfl rfl ?_)))))
   refine nN rfl rfl rfl (nN rfl rfl rfl (rB rfl rfl rfl (aU rfl rfl rfl (fun _ => bQ false (.bool false) rfl rfl) (bX (aC ?_)))))
   refine cJ rfl (aL (aC (aE (aA (dH rfl rfl (dH rfl rfl (wq (aD 0 fL rfl) rfl (wq (aD 0 gE rfl) rfl ?_))))))))
   refine wq (aM 0 (.int _ _) bW M4 rfl rfl rfl) rfl (bY sH rfl rfl (gS _ cn.low _ _ _ xs (R.mem M4)) ?_)
   rintro v16 w16 ⟨rfl, hb16⟩
   have M16 := M4.callB hb16
   refine wq (bO (pa) dK rfl rfl hfa ((R.mem M16).below_len (aG aF hxa)) ((R.mem M16).someK (aG aF hxa))) rfl (wq (dI _ bP (R.mem M16) (aG aF hxa) rfl) rfl (aT fO M16 rfl rfl (fun b17 w17 M17 => (bI 1 _ bP M17 rfl rfl rfl rfl rfl (aR rfl) rfl (fun w18 M18 => ?_)))))
   refine aB (aC (aE (aA (dH rfl rfl (dH rfl rfl (wq (aD 0 fL rfl) rfl (wq (aD 1 jQ rfl) rfl (wq (aM 0 (.int _ _) bW M18 rfl rfl rfl) rfl ?_))))))))
   refine bY sH rfl rfl (gS _ cn.high _ _ _ xs (R.mem M18)) ?_
   rintro v19 w19 ⟨rfl, hb19⟩
   have M19 := M18.callB hb19
   refine wq (bO (pb) dK rfl rfl hfb ((R.mem M19).below_len (aG aF hxb)) ((R.mem M19).someK (aG aF hxb))) rfl (wq (dI _ bP (R.mem M19) (aG aF hxb) rfl) rfl (aT fO M19 rfl rfl (fun b20 w20 M20 => (bI 2 _ bP M20 rfl rfl rfl rfl rfl (aR rfl) rfl (fun w21 M21 => ?_)))))
   refine aB (aC (aE (aA (wq (aX 0 eV M21 rfl rfl rfl) rfl (wq (aX 1 bP M21 rfl rfl rfl) rfl (wq (aX 2 bP M21 rfl rfl rfl) rfl (bY bBa rfl rfl (tM _ cn xa xb hc.n hoa hob) ?_)))))))
   rintro v22 w22 ⟨rfl, hb22⟩
   have M22 := M21.callB hb22
   refine bH rfl rfl (aB (aC (aE (aA (wq (aD 2 gZ rfl) rfl (wq (aD 0 cS rfl) rfl (wq (aM 0 (.int _ _) aV M22 rfl rfl rfl) rfl (bH rfl rfl ?_))))))))
   refine aB (aC (aE (aE (aA (wq (aH (.bool _) rfl) rfl (aB (aC ?_)))))))
   refine iD _ rfl (fun h70 => ?_) (fun h70 => ?_)
   ·refine aA (wq (aD 2 gZ rfl) rfl (wq (aD 1 cN rfl) rfl (wq (aM 0 (.int _ _) aV M22 rfl rfl rfl) rfl (bH rfl rfl (aB (aC (aE (aA ?_))))))))
    refine aP rfl rfl (dH rfl rfl (aP rfl rfl (wq (bO (i) dK rfl rfl rfl ((R.mem M22).below_len (aG aF hxi)) ((R.mem M22).someK (aG aF hxi))) rfl (wq (bG 4 eG (R.mem M22) (Nat.lt_of_le_of_lt (Nat.zero_le _) ((R.mem M22).below_len (aG aF hxi))) rfl) rfl (wq (dX (o := 4) (.int _ _) aV (R.mem M22) (aG aF hxi) rfl rfl) rfl ?_)))))
    refine aP rfl rfl (aK 80 (.int .i32 (pX sec cn)) (iE (by rw [h70]; rfl)) (vZ aJy rfl rfl rfl ?_))
    have hbm : 0 ≤ b.mass ∧ b.mass ≤ xa.mass + xb.mass := ⟨(hb b hbi).m.1, tZ hs hma hmb hbi qa.1 qb.1 (by omega)⟩
    have hst := pP hc.n hoa hob hbm
    have hmq := (hb b hbi).m
    have hcr := (kL hst.2.2 hg).2.2
    have hjv : nK (kO cn xa xb) b.mass (pX sec cn) = nK (jV xs cn) b.mass (pX sec cn) := by unfold jV; rw [hba, hbb]
    refine (mX _ (kO cn xa xb) b.mass (pX sec cn) ⟨hst.1, hst.2.1⟩ hmq hst.2.2 hg).mono ?_
    rintro _ w23 ⟨v23, rfl, ⟨rfl, hb23⟩⟩
    refine ⟨_, rfl, ?_⟩
    have M23 := M22.callB hb23
    refine bH rfl rfl (aB (aC (aE (bR [(0, 0), (1, 0), (2, 1), (3, 0), (4, 0), (5, 1), (6, 1), (7, 1), (8, 0)] mixed rfl (by kernel_rfl) (fun w24 hb24 hh24 => ?_)))))
    have M24 := M23.drew hb24 hh24
    refine aU rfl rfl rfl (fun _ => aD 0 fL rfl) (aU rfl rfl rfl (fun _ => aD 0 gE rfl) (bS rfl rfl rfl (aM 0 (.int _ _) bW M24 rfl rfl rfl) (kN rfl rfl rfl (eB rfl rfl rfl (bS rfl rfl rfl (bO (i) dK rfl rfl rfl ((R.mem M24).below_len (aG aF hxi)) ((R.mem M24).someK (aG aF hxi))) ?_)))))
    refine bS rfl rfl rfl (bG 0 dM (R.mem M24) (Nat.lt_of_le_of_lt (Nat.zero_le _) ((R.mem M24).below_len (aG aF hxi))) rfl) (bS rfl rfl rfl (dX (o := 0) (.int _ _) bW (R.mem M24) (aG aF hxi) rfl rfl) (aU rfl rfl rfl (fun _ => cA (.bool (decide _)) rfl rfl rfl) ?_))
    refine bX (aC ?_)
    refine aW rfl (fun h90 => ?_) (fun h90 => ?_)
    ·refine aA (aP rfl rfl (aP rfl rfl (wq (fR rfl rfl (by omega) (by omega)) rfl (bH rfl rfl (aB ?_)))))
     refine cT (aC (aA (aP rfl rfl (wq (aY rfl rfl (by omega) (by omega)) rfl (bH rfl rfl (aB ?_))))))
     refine cD (k + 1) (bB (iE (by rw [jU hcn]; unfold ctr; rw [if_pos (by omega), ← hjv]; omega)) (bB rfl dZ)) (cK rfl (cK rfl (cK rfl (cK rfl (cK rfl gW))))) ?_ ?_
     ·exact ⟨by omega, M24.keep [false, false, false]⟩
     ·(show mc - (k + 1) < mc - k; omega)
    ·refine aA (aP rfl rfl (aP rfl rfl (wq (aY rfl rfl (by omega) (by omega)) rfl (bH rfl rfl (aB ?_)))))
     refine cT (aC (aA (aP rfl rfl (wq (aY rfl rfl (by omega) (by omega)) rfl (bH rfl rfl (aB ?_))))))
     refine cD (k + 1) (bB (iE (by rw [jU hcn]; unfold ctr; rw [if_neg (by omega), if_pos (by omega), ← hjv])) (bB rfl dZ)) (cK rfl (cK rfl (cK rfl (cK rfl (cK rfl gW))))) ?_ ?_
     ·exact ⟨by omega, M24.keep [false, false, false]⟩
     ·(show mc - (k + 1) < mc - k; omega)
   ·refine aL (aC (aE (aA (aP rfl rfl (dH rfl rfl (aP rfl rfl (wq (bO (i) dK rfl rfl rfl ((R.mem M22).below_len (aG aF hxi)) ((R.mem M22).someK (aG aF hxi))) rfl (wq (bG 4 eG (R.mem M22) (Nat.lt_of_le_of_lt (Nat.zero_le _) ((R.mem M22).below_len (aG aF hxi))) rfl) rfl ?_))))))))
    refine wq (dX (o := 4) (.int _ _) aV (R.mem M22) (aG aF hxi) rfl rfl) rfl (aP rfl rfl (aK 80 (.int .i32 (pX sec cn)) (iE (by rw [h70]; rfl)) (vZ aJy rfl rfl rfl ?_)))
    have hbm : 0 ≤ b.mass ∧ b.mass ≤ xa.mass + xb.mass := ⟨(hb b hbi).m.1, tZ hs hma hmb hbi qa.1 qb.1 (by omega)⟩
    have hst := pP hc.n hoa hob hbm
    have hmq := (hb b hbi).m
    have hcr := (kL hst.2.2 hg).2.2
    have hjv : nK (kO cn xa xb) b.mass (pX sec cn) = nK (jV xs cn) b.mass (pX sec cn) := by unfold jV; rw [hba, hbb]
    refine (mX _ (kO cn xa xb) b.mass (pX sec cn) ⟨hst.1, hst.2.1⟩ hmq hst.2.2 hg).mono ?_
    rintro _ w25 ⟨v25, rfl, ⟨rfl, hb25⟩⟩
    refine ⟨_, rfl, ?_⟩
    have M25 := M22.callB hb25
    refine bH rfl rfl (aB (aC (aE (bR [(0, 0), (1, 0), (2, 1), (3, 0), (4, 0), (5, 1), (6, 1), (7, 1), (8, 0)] mixed rfl (by kernel_rfl) (fun w26 hb26 hh26 => ?_)))))
    have M26 := M25.drew hb26 hh26
    refine aU rfl rfl rfl (fun _ => aD 0 fL rfl) (aU rfl rfl rfl (fun _ => aD 0 gE rfl) (bS rfl rfl rfl (aM 0 (.int _ _) bW M26 rfl rfl rfl) (kN rfl rfl rfl (eB rfl rfl rfl (bS rfl rfl rfl (bO (i) dK rfl rfl rfl ((R.mem M26).below_len (aG aF hxi)) ((R.mem M26).someK (aG aF hxi))) ?_)))))
    refine bS rfl rfl rfl (bG 0 dM (R.mem M26) (Nat.lt_of_le_of_lt (Nat.zero_le _) ((R.mem M26).below_len (aG aF hxi))) rfl) (bS rfl rfl rfl (dX (o := 0) (.int _ _) bW (R.mem M26) (aG aF hxi) rfl rfl) (aU rfl rfl rfl (fun _ => cA (.bool (decide _)) rfl rfl rfl) ?_))
    refine bX (aC ?_)
    refine aW rfl (fun h90 => ?_) (fun h90 => ?_)
    ·refine aA (aP rfl rfl (aP rfl rfl (wq (fR rfl rfl (by omega) (by omega)) rfl (bH rfl rfl (aB ?_)))))
     refine cT (aC (aA (aP rfl rfl (wq (aY rfl rfl (by omega) (by omega)) rfl (bH rfl rfl (aB ?_))))))
     refine cD (k + 1) (bB (iE (by rw [jU hcn]; unfold ctr; rw [if_pos (by omega), ← hjv]; omega)) (bB rfl dZ)) (cK rfl (cK rfl (cK rfl (cK rfl (cK rfl gW))))) ?_ ?_
     ·exact ⟨by omega, M26.keep [false, false, false]⟩
     ·(show mc - (k + 1) < mc - k; omega)
    ·refine aA (aP rfl rfl (aP rfl rfl (wq (aY rfl rfl (by omega) (by omega)) rfl (bH rfl rfl (aB ?_)))))
     refine cT (aC (aA (aP rfl rfl (wq (aY rfl rfl (by omega) (by omega)) rfl (bH rfl rfl (aB ?_))))))
     refine cD (k + 1) (bB (iE (by rw [jU hcn]; unfold ctr; rw [if_neg (by omega), if_pos (by omega), ← hjv])) (bB rfl dZ)) (cK rfl (cK rfl (cK rfl (cK rfl (cK rfl gW))))) ?_ ?_
     ·exact ⟨by omega, M26.keep [false, false, false]⟩
     ·(show mc - (k + 1) < mc - k; omega)
 ·have hkn : k = mc := by omega
  refine cW (dE (dL (eS (aC (aE (aA (aP rfl rfl ?_)))))))
  refine bH rfl rfl (aB (aC (aO (cG (.int _ _) rfl ?_))))
  exact ⟨iE (by rw [List.take_of_length_le (by omega)]), hM1.below⟩
set_option maxHeartbeats 8000000 in
theorem aNa (w : World) (A : Option Addr) (n c : Nat) (xs : List Body) (R : Rd w 10 A n (xs.map aF)) (hs : cU xs) (hb : ∀ b ∈ xs, Okb b) (hn : n ≤ 1048576) (B : Option Addr) (mc c' : Nat) (cs : List Con) (R' : Rd w 5 B mc (cs.map cI)) (hcs : ∀ c ∈ cs, OkC xs c) (hmc : mc ≤ 8589934592) :
  Calls Tryz.prog 155 #[.slice A n c, .slice B mc c'] w (fun ex w' => ∃ v, ex = .returned v ∧ (fun v w' => ∃ r : Row, v = .tuple #[.slice r.A r.n r.c, .bool (aPe xs cs)] ∧ bC 39 10 r.A r.n r.c ((aFc xs cs).map aF) r.e ∧ Mem w [] [r.e] w') v w') := by
 have hlen : xs.length = n := by simpa using R.len
 have hbd := R.bound
 have hclen : cs.length = mc := by simpa using R'.len
 have hbd' := R'.bound
 refine aI #[.tmp 4, .tmp 5] 77 Tryz.func155 rfl Tryz.results155 Tryz.ntmps155 rfl ?_
 have M0 := Mem.refl w
 refine aE (aA (eI rfl rfl (wq (aJ (.bool false) rfl) rfl (aB (aC (aE (aA (eI rfl rfl ?_))))))))
 have M1 := M0.dummy default
 refine aB (aC (aE (aA (wq (aJ (.bool false) rfl) rfl (aB (aC (aE (aE (aA (bH rfl rfl (aB (aC (aQ (dS (σ := Nat × Row) [0, 1, 4, 5] (fun (k, q) => [(6, .slice q.A q.n q.c), (7, .bool ((xs.take k).any (aQw xs cs))), (8, .int .i64 (k : Int))]) (fun (k, q) w' => (k ≤ n ∧ bC 39 10 q.A q.n q.c (((xs.take k).map (wI xs cs)).map aF) q.e) ∧ Mem w [] [q.e] w') (fun (k, q) => n - k) (0, fV) (bB rfl (bB (bv rfl rfl) (bB rfl dZ))) (⟨⟨by omega, bC.nil _ _ _⟩, M1⟩) ?_))))))))))))))
 rintro ⟨k, q⟩ ρ2 w2 ⟨⟨hk, hq⟩, hM2⟩
 have htl := List.length_take_le k xs
 have hqn : (xs.take k).length = q.n := by simpa using hq.1
 refine aE (aE (aA (aP rfl rfl (dH rfl rfl (wq (cZ Tryz.underlying29 rfl) rfl (cY rfl rfl rfl rfl (aB (aC ?_))))))))
 refine aW rfl (fun h15 => ?_) (fun h15 => ?_)
 ·obtain ⟨xb, hxb⟩ := cV (xs := xs) (k := k) hlen (by omega)
  have hxm := List.mem_of_getElem? hxb
  have hsb := aUl hs hb hcs hclen hmc hxm
  have hvb := (hb xb hxm).v
  have hlx := eO (xb.vx + gY xs cs (·.nx) xb) (l := 16777216) (by decide)
  have hly := eO (xb.vy + gY xs cs (·.ny) xb) (l := 16777216) (by decide)
  refine aL (aC (aE (aQ (aE (bR [(0, 0), (1, 0), (2, 1), (3, 1), (4, 1), (5, 1), (6, 0), (7, 0), (8, 0), (9, 0), (10, 2), (11, 0), (12, 0)] mixed rfl (by kernel_rfl) (fun w3 hb3 hh3 => ?_))))))
  have M3 := hM2.drew hb3 hh3
  refine kN rfl rfl rfl (eB rfl rfl rfl (bS rfl rfl rfl (bO (k) dK rfl rfl rfl ((R.mem M3).below_len (aG aF hxb)) ((R.mem M3).someK (aG aF hxb))) (bS rfl rfl rfl (bG 8 dW (R.mem M3) (Nat.lt_of_le_of_lt (Nat.zero_le _) ((R.mem M3).below_len (aG aF hxb))) rfl) ?_)))
  refine bS rfl rfl rfl (bG 0 cS (R.mem M3) (Nat.lt_of_le_of_lt (Nat.zero_le _) ((R.mem M3).below_len (aG aF hxb))) rfl) (bS rfl rfl rfl (dX (o := 8) (.int _ _) aV (R.mem M3) (aG aF hxb) rfl rfl) (aU rfl rfl rfl (fun _ => bA dP Tryz.underlying2 rfl (fG _ (by omega) (by omega))) ?_))
  refine kN rfl rfl rfl (kN rfl rfl rfl (eB rfl rfl rfl (dU [false, false, false, false] rfl (by kernel_rfl) (bY bAb rfl rfl (aId _ A n c xs (R.mem M3) hs hb hn B mc c' cs (R'.mem M3) hcs hmc k xb hxb false) ?_))))
  rintro v4 w4 ⟨rfl, hb4⟩
  have M4 := M3.callB hb4
  refine aB (aC ⟨(eD (bL rfl (dX (o := 8) (.int _ _) aV (R.mem M4) (aG aF hxb) rfl rfl)) (eD (bL rfl (bG 0 cS (R.mem M4) (Nat.lt_of_le_of_lt (Nat.zero_le _) ((R.mem M4).below_len (aG aF hxb))) rfl)) (eD (bL rfl (bG 8 dW (R.mem M4) (Nat.lt_of_le_of_lt (Nat.zero_le _) ((R.mem M4).below_len (aG aF hxb))) rfl)) (eD (bL rfl (bO (k) dK rfl rfl rfl ((R.mem M4).below_len (aG aF hxb)) ((R.mem M4).someK (aG aF hxb)))) dT)))), ?_⟩)
  refine dQ 28 (.int .i64 (gY xs cs (·.nx) xb)) rfl (aU rfl rfl rfl (fun _ => aY rfl rfl (by omega) (by omega)) (mG rfl rfl rfl (bX (aC (aE (bR [(0, 0), (1, 0), (2, 1), (3, 1), (4, 1), (5, 1), (6, 0), (7, 0), (8, 0), (9, 0), (10, 2), (11, 0), (12, 0)] mixed rfl (by kernel_rfl) (fun w5 hb5 hh5 => ?_)))))))
  have M5 := M4.drew hb5 hh5
  refine kN rfl rfl rfl (eB rfl rfl rfl (bS rfl rfl rfl (bO (k) dK rfl rfl rfl ((R.mem M5).below_len (aG aF hxb)) ((R.mem M5).someK (aG aF hxb))) (bS rfl rfl rfl (bG 8 dW (R.mem M5) (Nat.lt_of_le_of_lt (Nat.zero_le _) ((R.mem M5).below_len (aG aF hxb))) rfl) ?_)))
  refine bS rfl rfl rfl (bG 1 cN (R.mem M5) (Nat.lt_of_le_of_lt (Nat.zero_le _) ((R.mem M5).below_len (aG aF hxb))) rfl) (bS rfl rfl rfl (dX (o := 9) (.int _ _) aV (R.mem M5) (aG aF hxb) rfl rfl) (aU rfl rfl rfl (fun _ => bA dP Tryz.underlying2 rfl (fG _ (by omega) (by omega))) ?_))
  refine kN rfl rfl rfl (kN rfl rfl rfl (eB rfl rfl rfl (dU [false, false, false, false] rfl (by kernel_rfl) (bY bAb rfl rfl (aId _ A n c xs (R.mem M5) hs hb hn B mc c' cs (R'.mem M5) hcs hmc k xb hxb true) ?_))))
  rintro v6 w6 ⟨rfl, hb6⟩
  have M6 := M5.callB hb6
  refine aB (aC ⟨(eD (bL rfl (dX (o := 9) (.int _ _) aV (R.mem M6) (aG aF hxb) rfl rfl)) (eD (bL rfl (bG 1 cN (R.mem M6) (Nat.lt_of_le_of_lt (Nat.zero_le _) ((R.mem M6).below_len (aG aF hxb))) rfl)) (eD (bL rfl (bG 8 dW (R.mem M6) (Nat.lt_of_le_of_lt (Nat.zero_le _) ((R.mem M6).below_len (aG aF hxb))) rfl)) (eD (bL rfl (bO (k) dK rfl rfl rfl ((R.mem M6).below_len (aG aF hxb)) ((R.mem M6).someK (aG aF hxb)))) dT)))), ?_⟩)
  refine dQ 40 (.int .i64 (gY xs cs (·.ny) xb)) rfl (aU rfl rfl rfl (fun _ => aY rfl rfl (by omega) (by omega)) (mG rfl rfl rfl (bX (aC (aE (aA (dH rfl rfl ?_)))))))
  refine aP rfl rfl (wq (bO (k) dK rfl rfl rfl ((R.mem M6).below_len (aG aF hxb)) ((R.mem M6).someK (aG aF hxb))) rfl (wq (dI _ bP (R.mem M6) (aG aF hxb) rfl) rfl (aT fO M6 rfl rfl (fun b7 w7 M7 => (bI 1 _ bP M7 rfl rfl rfl rfl rfl (aR rfl) rfl (fun w8 M8 => ?_))))))
  refine aB (aC (aE (aA (aP rfl rfl (bY wC rfl rfl (kE _ (xb.vx + gY xs cs (·.nx) xb) 16777216 ⟨by decide, by decide⟩) ?_)))))
  rintro v9 w9 ⟨rfl, hb9⟩
  have M9 := M8.callB hb9
  refine wq (bA lW Tryz.underlying21 rfl (jC _ (by omega) (by omega))) rfl (aP rfl rfl (bY wC rfl rfl (kE _ (xb.vy + gY xs cs (·.ny) xb) 16777216 ⟨by decide, by decide⟩) ?_))
  rintro v10 w10 ⟨rfl, hb10⟩
  have M10 := M9.callB hb10
  refine wq (bA lW Tryz.underlying21 rfl (jC _ (by omega) (by omega))) rfl (wq (cF [(0, .int _ _), (1, .int _ _)] _ fA rfl rfl) rfl (wq (aD 8 dW rfl) rfl (tN 1 _ bM M10 rfl rfl rfl rfl rfl (aR rfl) (Nat.le_of_ble_eq_true rfl) (fun w11 M11 => (aB (aC (aE (aA ?_))))))))
  refine wq (aH (.bool _) rfl) rfl (wq (aH (.bool _) rfl) rfl ?_)
  refine jS 55 _ rfl (fun g55 => ?_) (fun g55 => ?_)
  ·refine aN rfl rfl (aN rfl rfl (aN rfl rfl (aN rfl rfl (aN rfl rfl (aN rfl rfl ?_)))))
   refine wq (bQ true (.bool true) rfl rfl) rfl (wq (aH (.bool true) rfl) rfl (aN rfl rfl (aN rfl rfl (aN rfl rfl (aN rfl rfl ?_)))))
   refine aN rfl rfl (aN rfl rfl (wq (bQ true (.bool true) rfl rfl) rfl (wq (aJ (.bool true) rfl) rfl (aB (aC (aA (dH rfl rfl ?_)))))))
   refine wq (aX 1 bP M11 rfl rfl rfl) rfl (cR [.agg (List.toArray _)] [aF (wI xs cs xb)] rfl dK M11 rfl rfl rfl rfl (dD rfl) (by decide) (fun b12 w12 M12 => (dG 0 [aF (wI xs cs xb)] dK M12 rfl rfl rfl rfl rfl hq rfl (by simp [aF, Go.Bil.one]) (dV.ofMem 2 M12 rfl) (by omega) (fun A13 c13 e13 w13 M13 hR13 => ?_))))
   refine eI rfl rfl (aB (cT (aC (aA (aP rfl rfl (wq (aY rfl rfl (by omega) (by omega)) rfl ?_))))))
   refine bH rfl rfl (aB ?_)
   refine cD (k + 1, ⟨A13, q.n + 1, c13, e13⟩) (bB rfl (bB (bv rfl (by rw [cP hxb, List.any_append, List.any_cons, List.any_nil, Bool.or_false]; rw [g55, Bool.true_or])) (bB rfl dZ))) (cK rfl (cK rfl (cK rfl (cK rfl gW)))) ?_ ?_
   ·exact ⟨⟨by omega, by rw [cP hxb, List.map_append, List.map_append]; exact hR13⟩, M13.keep [true, false, false]⟩
   ·(show n - (k + 1) < n - k; omega)
  ·refine wq (aD 8 dW rfl) rfl (wq (aD 0 cS rfl) rfl (wq (aM 1 (.int _ _) aV M11 rfl rfl rfl) rfl (wq (bA dP Tryz.underlying2 rfl (fG _ (by omega) (by omega))) rfl (aP rfl rfl (cY rfl rfl rfl rfl ?_)))))
   refine wq (bQ false (.bool (decide _)) rfl rfl) rfl (wq (aH (.bool (decide _)) rfl) rfl ?_)
   refine dN 63 rfl (fun g63 => ?_) (fun g63 => ?_)
   ·refine aN rfl rfl (aN rfl rfl (aN rfl rfl (aN rfl rfl (aN rfl rfl (aN rfl rfl ?_)))))
    refine wq (bQ true (.bool true) rfl rfl) rfl (wq (aJ (.bool true) rfl) rfl (aB (aC (aA (dH rfl rfl (wq (aX 1 bP M11 rfl rfl rfl) rfl (cR [.agg (List.toArray _)] [aF (wI xs cs xb)] rfl dK M11 rfl rfl rfl rfl (dD rfl) (by decide) (fun b14 w14 M14 => ?_))))))))
    refine dG 0 [aF (wI xs cs xb)] dK M14 rfl rfl rfl rfl rfl hq rfl (by simp [aF, Go.Bil.one]) (dV.ofMem 2 M14 rfl) (by omega) (fun A15 c15 e15 w15 M15 hR15 => (eI rfl rfl (aB (cT (aC (aA (aP rfl rfl ?_)))))))
    refine wq (aY rfl rfl (by omega) (by omega)) rfl (bH rfl rfl (aB ?_))
    refine cD (k + 1, ⟨A15, q.n + 1, c15, e15⟩) (bB rfl (bB (bv rfl (by rw [cP hxb, List.any_append, List.any_cons, List.any_nil, Bool.or_false]; rw [g55]; simp [aQw, g63])) (bB rfl dZ))) (cK rfl (cK rfl (cK rfl (cK rfl gW)))) ?_ ?_
    ·exact ⟨⟨by omega, by rw [cP hxb, List.map_append, List.map_append]; exact hR15⟩, M15.keep [true, false, false]⟩
    ·(show n - (k + 1) < n - k; omega)
   ·refine wq (aD 8 dW rfl) rfl (wq (aD 1 cN rfl) rfl (wq (aM 1 (.int _ _) aV M11 rfl rfl rfl) rfl (wq (bA dP Tryz.underlying2 rfl (fG _ (by omega) (by omega))) rfl (aP rfl rfl (cY rfl rfl rfl rfl ?_)))))
    refine wq (bQ false (.bool (decide _)) rfl rfl) rfl (wq (aJ (.bool (decide _)) rfl) rfl (aB (aC (aA (dH rfl rfl (wq (aX 1 bP M11 rfl rfl rfl) rfl (cR [.agg (List.toArray _)] [aF (wI xs cs xb)] rfl dK M11 rfl rfl rfl rfl (dD rfl) (by decide) (fun b16 w16 M16 => ?_))))))))
    refine dG 0 [aF (wI xs cs xb)] dK M16 rfl rfl rfl rfl rfl hq rfl (by simp [aF, Go.Bil.one]) (dV.ofMem 2 M16 rfl) (by omega) (fun A17 c17 e17 w17 M17 hR17 => (eI rfl rfl (aB (cT (aC (aA (aP rfl rfl ?_)))))))
    refine wq (aY rfl rfl (by omega) (by omega)) rfl (bH rfl rfl (aB ?_))
    refine cD (k + 1, ⟨A17, q.n + 1, c17, e17⟩) (bB rfl (bB (bv rfl (by rw [cP hxb, List.any_append, List.any_cons, List.any_nil, Bool.or_false]; rw [g55]; simp [aQw, g63])) (bB rfl dZ))) (cK rfl (cK rfl (cK rfl (cK rfl gW)))) ?_ ?_
    ·exact ⟨⟨by omega, by rw [cP hxb, List.map_append, List.map_append]; exact hR17⟩, M17.keep [true, false, false]⟩
    ·(show n - (k + 1) < n - k; omega)
 ·have hkn : k = n := by omega
  rw [List.take_of_length_le (by omega)] at hq
  refine cW (dE (dL (eS (aC (aE (aA (dH rfl rfl ?_)))))))
  refine wq (aH (.bool _) rfl) rfl (eI rfl rfl (wq (aJ (.bool _) rfl) rfl (aB (aC (aO (fY (.slice _ _ _) (.bool _) rfl rfl ?_))))))
  exact ⟨q, sL rfl (congrArg Value.bool (by rw [List.take_of_length_le (by omega)]; rfl)), hq, hM2⟩
set_option maxHeartbeats 4000000 in
theorem aMk (w : World) (A : Option Addr) (n c : Nat) (xs : List Body) (R : Rd w 10 A n (xs.map aF)) (hs : cU xs) (hb : ∀ b ∈ xs, Okb b) (hn : n ≤ 1048576) (B : Option Addr) (mc c' : Nat) (cs : List Con) (R' : Rd w 5 B mc (cs.map cI)) (hcs : ∀ c ∈ cs, OkC xs c) (hmc : mc ≤ 8589934592) :
  Calls Tryz.prog 130 #[.slice A n c, .slice B mc c'] w (fun ex w' => ∃ v, ex = .returned v ∧ (fun v w' => ∃ r : Row, v = .tuple #[.slice r.A r.n r.c, .bool (gU xs cs 4).2] ∧ bC 39 10 r.A r.n r.c (((gU xs cs 4).1).map aF) r.e ∧ Mem w [] [r.e] w') v w') := by
 have hlen : xs.length = n := by simpa using R.len
 have hbd := R.bound
 have hclen : cs.length = mc := by simpa using R'.len
 have hbd' := R'.bound
 refine aI #[.tmp 4, .tmp 5] 27 Tryz.func130 rfl Tryz.results130 Tryz.ntmps130 rfl ?_
 have M0 := Mem.refl w
 refine aE (aA (eI rfl rfl (wq (aJ (.bool false) rfl) rfl (aB (aC (aE (aA (wq (aJ (.bool false) rfl) rfl ?_))))))))
 have M1 := M0.dummy default
 refine aB (aC (aE (aE (aA (bH rfl rfl (aB (aC (aQ (dS (σ := Nat × Row) [1, 4, 5] (fun (k, q) => [(0, .slice q.A q.n q.c), (6, .bool (gU xs cs k).2), (7, .int .i64 (k : Int))]) (fun (k, q) w' => (k ≤ 4 ∧ Rd w' 10 q.A q.n ((gU xs cs k).1.map aF) ∧ (0 < k → bC 39 10 q.A q.n q.c (((gU xs cs k).1).map aF) q.e)) ∧ Mem w [] [q.e] w') (fun (k, q) => 4 - k) (0, ⟨A, n, c, (none, default)⟩) (bB rfl (bB (bv rfl rfl) (bB rfl dZ))) (⟨⟨by omega, R.mem M1, (fun h => absurd h (by omega))⟩, M1⟩) ?_)))))))))
 rintro ⟨k, q⟩ ρ2 w2 ⟨⟨hk, hRq, hq⟩, hM2⟩
 have hql : (gU xs cs k).1.length = q.n := by simpa using hRq.len
 have hsl := (iX xs cs k).len
 refine aE (aE (aA (aP rfl rfl (cY rfl rfl rfl rfl (aB (aC ?_))))))
 refine aW rfl (fun h11 => ?_) (fun h11 => ?_)
 ·refine aL (aC (aE (aQ (aE (aA (dH rfl rfl (dH rfl rfl (bY bMi rfl rfl (aNa _ q.A q.n q.c (gU xs cs k).1 hRq ((iX xs cs k).sorted hs) (qS hb k) (by omega) B mc c' cs (R'.mem hM2) (fun c h => (iX xs cs k).okc (hcs c h)) hmc) ?_))))))))
  rintro v3 w3 ⟨r, rfl, hr, hM3⟩
  have M3 : Mem _ _ [_, _] _ := hM2.call0 hM3
  refine wq (aH (.tuple (List.toArray _)) rfl) rfl (wq (bN (.slice _ _ _) rfl rfl) rfl (wq (bN (.bool _) rfl rfl) rfl (eI rfl rfl (wq (aJ (.bool _) rfl) rfl (aB (aC (aE (aA ?_))))))))
  refine dH rfl rfl (eI rfl rfl (aB (aC (aA (wq (aH (.bool _) rfl) rfl (wq (aH (.bool _) rfl) rfl ?_))))))
  refine jS 22 _ rfl (fun g22 => ?_) (fun g22 => ?_)
  ·refine aN rfl rfl (wq (bQ true (.bool true) rfl rfl) rfl (wq (aJ (.bool true) rfl) rfl (aB (cT (aC (aA ?_))))))
   refine aP rfl rfl (wq (aY rfl rfl (by omega) (by omega)) rfl (bH rfl rfl (aB ?_)))
   refine cD (k + 1, r) (bB rfl (bB (bv rfl (by show true = (_ || _); rw [g22, Bool.true_or])) (bB rfl dZ))) (cK rfl (cK rfl (cK rfl gW))) ?_ ?_
   ·exact ⟨⟨by omega, hr.rd M3 (aZ (i := 1) rfl), (fun _ => hr)⟩, M3.keep [false, true]⟩
   ·(show 4 - (k + 1) < 4 - k; omega)
  ·refine wq (aH (.bool _) rfl) rfl (wq (bQ false (.bool _) rfl rfl) rfl (wq (aJ (.bool _) rfl) rfl (aB (cT (aC (aA ?_))))))
   refine aP rfl rfl (wq (aY rfl rfl (by omega) (by omega)) rfl (bH rfl rfl (aB ?_)))
   refine cD (k + 1, r) (bB rfl (bB (bv rfl (by show _ = (_ || _); rw [g22, Bool.false_or])) (bB rfl dZ))) (cK rfl (cK rfl (cK rfl gW))) ?_ ?_
   ·exact ⟨⟨by omega, hr.rd M3 (aZ (i := 1) rfl), (fun _ => hr)⟩, M3.keep [false, true]⟩
   ·(show 4 - (k + 1) < 4 - k; omega)
 ·have hk4 : k = 4 := by omega
  rw [hk4] at hq
  refine cW (dE (dL (eS (aC (aE (aA (dH rfl rfl ?_)))))))
  refine wq (aH (.bool _) rfl) rfl (eI rfl rfl (wq (aJ (.bool _) rfl) rfl (aB (aC (aO (fY (.slice _ _ _) (.bool _) rfl rfl ?_))))))
  exact ⟨q, sL rfl (congrArg Value.bool (by rw [hk4])), hq (by omega), hM2⟩
set_option maxHeartbeats 4000000 in
theorem aJn (w : World) (c : Con) (a b : Body) (hc : Okn c) (ha : Okb a) (hb : Okb b) :
  Calls Tryz.prog 179 #[.agg (cI c).toArray, (.agg (aF a).toArray), (.agg (aF b).toArray)] w (fun ex w' => ∃ v, ex = .returned v ∧ (fun v w' => v = .int .i64 (oN c a b) ∧ Below w.heap.size w w') v w') := by
 have hdp := hc.d
 have hm1 := ha.m
 have hm2 := hb.m
 refine aI #[.tmp 6] 24 Tryz.func179 rfl Tryz.results179 Tryz.ntmps179 rfl ?_
 have M0 := Mem.refl w
 refine aE (aA (bJ (.agg (List.toArray _)) M0 rfl rfl rfl (fun b1 w1 M1 => (bJ (.agg (List.toArray _)) M1 rfl rfl rfl (fun b2 w2 M2 => (bJ (.agg (List.toArray _)) M2 rfl rfl rfl (fun b3 w3 M3 => (bH rfl rfl (aB (aC (aE (aE (aA ?_)))))))))))))
 refine wq (aD 4 aDf rfl) rfl (wq (aM 0 (.int _ _) aV M3 rfl rfl rfl) rfl (cY rfl rfl rfl rfl (wq (aH (.bool (decide _)) rfl) rfl ?_)))
 refine dN 10 rfl (fun g10 => ?_) (fun g10 => ?_)
 ·refine aN rfl rfl (aN rfl rfl (aN rfl rfl (aN rfl rfl (aN rfl rfl (aN rfl rfl ?_)))))
  refine wq (bQ true (.bool true) rfl rfl) rfl (aB (aC (cE rfl (aE (aA (bH rfl rfl (aB (aC (aO (cO ?_))))))))))
  refine cG (.int _ _) rfl ?_
  exact ⟨iE (by unfold oN; rw [if_pos (by omega)]), M3.below⟩
 ·refine wq (aD 4 eG rfl) rfl (wq (aM 1 (.int _ _) aV M3 rfl rfl rfl) rfl (wq (aD 4 eG rfl) rfl (wq (aM 2 (.int _ _) aV M3 rfl rfl rfl) rfl (wq (jD rfl rfl (jC _ (by omega) (by omega))) rfl (cY rfl rfl rfl rfl ?_)))))
  refine wq (bQ false (.bool (decide _)) rfl rfl) rfl (aB (aC ?_))
  refine aW rfl (fun h17 => ?_) (fun h17 => ?_)
  ·refine aE (aA (bH rfl rfl (aB (aC (aO (cO (cG (.int _ _) rfl ?_)))))))
   exact ⟨iE (by unfold oN; rw [if_pos (by omega)]), M3.below⟩
  ·refine aL (aC (aE (aA (wq (aD 4 aDf rfl) rfl (wq (aM 0 (.int _ _) aV M3 rfl rfl rfl) rfl (wq (bA dP Tryz.underlying2 rfl (fG _ (by omega) (by omega))) rfl (wq (fR rfl rfl (by omega) (by omega)) rfl (wq (fC rfl rfl (by omega) (by omega)) rfl ?_))))))))
   refine bY kW rfl rfl (fB _ ((c.depth - 1024) * 26214) 65536 (by decide) (by omega) (by omega)) ?_
   rintro v4 w4 ⟨rfl, hb4⟩
   have M4 := M3.callB hb4
   refine bH rfl rfl (aB (aC (aO (cG (.int _ _) rfl ?_))))
   exact ⟨iE (by unfold oN; rw [if_neg (by omega)]), M4.below⟩
set_option maxHeartbeats 4000000 in
theorem zY (w : World) (c : Con) (a b : Body) (hc : Okn c) (ha : Okb a) (hb : Okb b) (m : Int) (hm : 0 ≤ m ∧ m ≤ 1048576) :
  Calls Tryz.prog 156 #[.agg (cI c).toArray, (.agg (aF a).toArray), (.agg (aF b).toArray), .int .i32 m] w (fun ex w' => ∃ v, ex = .returned v ∧ (fun v w' => v = .int .i64 (qD c a b m) ∧ Below w.heap.size w w') v w') := by
 have hdp := hc.d
 have hm1 := ha.m
 have hm2 := hb.m
 have hsr := aSi (a := a) (b := b) hc hm
 have har := aBr (a := a) (b := b) hc
 refine aI #[.tmp 8] 28 Tryz.func156 rfl Tryz.results156 Tryz.ntmps156 rfl ?_
 have M0 := Mem.refl w
 refine aE (aA (bJ (.agg (List.toArray _)) M0 rfl rfl rfl (fun b1 w1 M1 => (bJ (.agg (List.toArray _)) M1 rfl rfl rfl (fun b2 w2 M2 => (bJ (.agg (List.toArray _)) M2 rfl rfl rfl (fun b3 w3 M3 => (bH rfl rfl (aB (aC (aE (aA ?_))))))))))))
 refine wq (aX 0 eV M3 rfl rfl rfl) rfl (wq (aX 1 bP M3 rfl rfl rfl) rfl (wq (aX 2 bP M3 rfl rfl rfl) rfl (bY bOb rfl rfl (aJn _ c a b hc ha hb) ?_)))
 rintro v4 w4 ⟨rfl, hb4⟩
 have M4 := M3.callB hb4
 refine bH rfl rfl (aB (aC (aE (aE (aA (aP rfl rfl (cY rfl rfl rfl rfl (aB (aC ?_)))))))))
 refine aW rfl (fun h15 => ?_) (fun h15 => ?_)
 ·refine aE (aA (bH rfl rfl (aB (aC (aO (cO (cG (.int _ _) rfl ?_)))))))
  exact ⟨iE (by unfold qD; rw [h15]; simp), M4.below⟩
 ·have hsp : 0 < a.mass + b.mass := by unfold oN at h15; split at h15 <;> omega
  have hmx : max 1 (a.mass + b.mass) = a.mass + b.mass := by omega
  refine aL (aC (aE (aA (aP rfl rfl (aP rfl rfl (wq (bA dP Tryz.underlying2 rfl (fG _ (by omega) (by omega))) rfl (wq (fC rfl rfl (by omega) (by omega)) rfl (wq (aD 4 eG rfl) rfl ?_))))))))
  refine wq (aM 1 (.int _ _) aV M4 rfl rfl rfl) rfl (wq (bA dP Tryz.underlying2 rfl (fG _ (by omega) (by omega))) rfl (wq (aD 4 eG rfl) rfl (wq (aM 2 (.int _ _) aV M4 rfl rfl rfl) rfl (wq (bA dP Tryz.underlying2 rfl (fG _ (by omega) (by omega))) rfl (wq (aY rfl rfl (by omega) (by omega)) rfl ?_)))))
  refine bY kW rfl rfl (fB _ (oN c a b * m) (a.mass + b.mass) hsp (by omega) (by omega)) ?_
  rintro v5 w5 ⟨rfl, hb5⟩
  have M5 := M4.callB hb5
  refine bH rfl rfl (aB (aC (aO (cG (.int _ _) rfl ?_))))
  exact ⟨iE (by unfold qD; rw [hmx]), M5.below⟩
set_option maxHeartbeats 16000000 in
theorem aJa (w : World) (A : Option Addr) (n c : Nat) (xs : List Body) (R : Rd w 10 A n (xs.map aF)) (hs : cU xs) (hb : ∀ b ∈ xs, Okb b) (hn : n ≤ 1048576) (B : Option Addr) (mc c' : Nat) (cs : List Con) (R' : Rd w 5 B mc (cs.map cI)) (hcs : ∀ c ∈ cs, OkC xs c) (hmc : mc ≤ 1073741824) :
  Calls Tryz.prog 132 #[.slice A n c, .slice B mc c'] w (fun ex w' => ∃ v, ex = .returned v ∧ (fun v w' => ∃ r : Row, v = .slice r.A r.n r.c ∧ bC 214 2 r.A r.n r.c ((xs.map (jR xs cs)).map cL) r.e ∧ Mem w [] [r.e] w') v w') := by
 have hlen : xs.length = n := by simpa using R.len
 have hbd := R.bound
 have hclen : cs.length = mc := by simpa using R'.len
 have hbd' := R'.bound
 refine aI #[.tmp 4] 118 Tryz.func132 rfl Tryz.results132 Tryz.ntmps132 rfl ?_
 have M0 := Mem.refl w
 refine aE (aA (eI rfl rfl (aB (aC (aE (aA (eI rfl rfl ?_)))))))
 have M1 := M0.dummy default
 refine aB (aC (aE (aE (aA (bH rfl rfl (aB (aC (aQ (dS (σ := Nat × Row) [0, 1, 4] (fun (i, q) => [(5, .slice q.A q.n q.c), (6, .int .i64 (i : Int))]) (fun (i, q) w' => (i ≤ n ∧ bC 214 2 q.A q.n q.c (((xs.take i).map (jR xs cs)).map cL) q.e) ∧ Mem w [] [q.e] w') (fun (i, q) => n - i) (0, fV) (bB rfl (bB rfl dZ)) (⟨⟨by omega, bC.nil _ _ _⟩, M1⟩) ?_)))))))))
 rintro ⟨i, q⟩ ρ2 w2 ⟨⟨hi, hq⟩, hM2⟩
 have htl := List.length_take_le i xs
 have hqn : (xs.take i).length = q.n := by simpa using hq.1
 refine aE (aE (aA (aP rfl rfl (dH rfl rfl (wq (cZ Tryz.underlying29 rfl) rfl (cY rfl rfl rfl rfl (aB (aC ?_))))))))
 refine aW rfl (fun h18 => ?_) (fun h18 => ?_)
 ·obtain ⟨xb, hxb⟩ := cV (xs := xs) (k := i) hlen (by omega)
  have hbi := List.mem_of_getElem? hxb
  refine aL (aC (aE (aQ (aE (aA (aT bHo hM2 rfl rfl (fun b3 w3 M3 => (aB (aC (aE (aE (aA (bH rfl rfl (aB (aC (aQ (dS (σ := Nat) [0, 1, 4, 5, 6, 7] (fun k2 => [(8, .int .i64 (k2 : Int))]) (fun k2 w' => k2 ≤ mc ∧ Mem w [] [q.e, (some b3, bc [.int .i64 (vH xs (cs.take k2) (·.nx) xb), .int .i64 (vH xs (cs.take k2) (·.ny) xb)] 214)] w') (fun k2 => mc - k2) 0 (bB rfl dZ) (⟨by omega, by rw [uG, uG]; exact M3⟩) ?_)))))))))))))))))
  rintro k2 ρ4 w4 ⟨hk2, hM4⟩
  have hsb := aBp hs hb hcs hclen hmc k2 hbi
  unfold jR at hsb
  simp only at hsb
  refine aE (aE (aA (aP rfl rfl (dH rfl rfl (wq (cZ Tryz.underlying166 rfl) rfl (cY rfl rfl rfl rfl (aB (aC ?_))))))))
  refine aW rfl (fun h24 => ?_) (fun h24 => ?_)
  ·obtain ⟨cn, hcn⟩ := cV (xs := cs) (k := k2) hclen (by omega)
   have hc := hcs cn (List.mem_of_getElem? hcn)
   have hne := hc.ne
   have hnx := hc.n.x
   have hny := hc.n.y
   obtain ⟨pa, xa, hxa, hka, hfa⟩ := uZ hc.l
   obtain ⟨pb, xb2, hxb2, hkb, hfb⟩ := uZ hc.h
   have hba := zS hxa hfa
   have hbb := zS hxb2 hfb
   have hma := List.mem_of_getElem? hxa
   have hmb := List.mem_of_getElem? hxb2
   have hoa := hb xa hma
   have hob := hb xb2 hmb
   have qa := hoa.m
   have qb := hob.m
   refine aL (aC (aE (aQ (aE (aA (dH rfl rfl (aP rfl rfl (wq (bO (k2) sD rfl rfl rfl ((R'.mem hM4).below_len (aG cI hcn)) ((R'.mem hM4).someK (aG cI hcn))) rfl (wq (dI _ eV (R'.mem hM4) (aG cI hcn) rfl) rfl (aT mC hM4 rfl rfl (fun b5 w5 M5 => ?_)))))))))))
   refine bI 2 _ eV M5 rfl rfl rfl rfl rfl (aR rfl) rfl (fun w6 M6 => (aB (aC (aE (aE (bR [(0, 0), (1, 0), (2, 1), (3, 0), (4, 0), (5, 1), (6, 1), (7, 1), (8, 0), (9, 0), (10, 0), (11, 0), (12, 1), (13, 0), (14, 0), (15, 1), (16, 1), (17, 1), (18, 0), (19, 0)] mixed rfl (by kernel_rfl) (fun w7 hb7 hh7 => ?_)))))))
   have M7 := M6.drew hb7 hh7
   refine aU rfl rfl rfl (fun _ => aD 0 fL rfl) (aU rfl rfl rfl (fun _ => aD 0 gE rfl) (bS rfl rfl rfl (aM 2 (.int _ _) bW M7 rfl rfl rfl) (kN rfl rfl rfl (eB rfl rfl rfl (bS rfl rfl rfl (bO (i) dK rfl rfl rfl ((R.mem M7).below_len (aG aF hxb)) ((R.mem M7).someK (aG aF hxb))) ?_)))))
   refine bS rfl rfl rfl (bG 0 dM (R.mem M7) (Nat.lt_of_le_of_lt (Nat.zero_le _) ((R.mem M7).below_len (aG aF hxb))) rfl) (bS rfl rfl rfl (dX (o := 0) (.int _ _) bW (R.mem M7) (aG aF hxb) rfl rfl) (aU rfl rfl rfl (fun _ => cA (.bool (decide _)) rfl rfl rfl) (aU rfl rfl rfl (fun _ => aH (.bool (decide _)) rfl) ?_)))
   refine wW 40 rfl (fun g40 => ?_) (fun g40 => ?_)
   ·refine aU rfl rfl rfl (fun _ => aD 0 fL rfl) (aU rfl rfl rfl (fun _ => aD 1 jQ rfl) (bS rfl rfl rfl (aM 2 (.int _ _) bW M7 rfl rfl rfl) (kN rfl rfl rfl (eB rfl rfl rfl (bS rfl rfl rfl (bO (i) dK rfl rfl rfl ((R.mem M7).below_len (aG aF hxb)) ((R.mem M7).someK (aG aF hxb))) ?_)))))
    refine bS rfl rfl rfl (bG 0 dM (R.mem M7) (Nat.lt_of_le_of_lt (Nat.zero_le _) ((R.mem M7).below_len (aG aF hxb))) rfl) (bS rfl rfl rfl (dX (o := 0) (.int _ _) bW (R.mem M7) (aG aF hxb) rfl rfl) (aU rfl rfl rfl (fun _ => cA (.bool (decide _)) rfl rfl rfl) (aU rfl rfl rfl (fun _ => bQ true (.bool (decide _)) rfl rfl) ?_)))
    refine bX (aC ?_)
    refine aW rfl (fun h50 => ?_) (fun h50 => ?_)
    ·refine cW (dE (eS (aC (aA (aP rfl rfl (wq (aY rfl rfl (by omega) (by omega)) rfl ?_))))))
     refine bH rfl rfl (aB ?_)
     refine cD (k2 + 1) (bB rfl dZ) (cK rfl (cK rfl (cK rfl (cK rfl (cK rfl (cK rfl gW)))))) ?_ ?_
     ·exact ⟨by omega, by rw [iO hcn, iO hcn]; unfold vC; (have n1 : ¬ cn.low = xb.key := by omega); (have n2 : ¬ cn.high = xb.key := by omega); rw [if_neg n1, if_neg n2, if_neg n1, if_neg n2, Int.add_zero, Int.add_zero]; exact M7.keep [true, true, false]⟩
     ·(show mc - (k2 + 1) < mc - k2; omega)
    ·refine aL (aC (aE (aA (dH rfl rfl (dH rfl rfl (wq (aD 0 fL rfl) rfl (wq (aD 0 gE rfl) rfl (wq (aM 2 (.int _ _) bW M7 rfl rfl rfl) rfl ?_))))))))
     refine bY sH rfl rfl (gS _ cn.low _ _ _ xs (R.mem M7)) ?_
     rintro v8 w8 ⟨rfl, hb8⟩
     have M8 := M7.callB hb8
     refine wq (bO (pa) dK rfl rfl hfa ((R.mem M8).below_len (aG aF hxa)) ((R.mem M8).someK (aG aF hxa))) rfl (wq (dI _ bP (R.mem M8) (aG aF hxa) rfl) rfl (aT fO M8 rfl rfl (fun b9 w9 M9 => (bI 3 _ bP M9 rfl rfl rfl rfl rfl (aR rfl) rfl (fun w10 M10 => ?_)))))
     refine aB (aC (aE (aA (dH rfl rfl (dH rfl rfl (wq (aD 0 fL rfl) rfl (wq (aD 1 jQ rfl) rfl (wq (aM 2 (.int _ _) bW M10 rfl rfl rfl) rfl ?_))))))))
     refine bY sH rfl rfl (gS _ cn.high _ _ _ xs (R.mem M10)) ?_
     rintro v11 w11 ⟨rfl, hb11⟩
     have M11 := M10.callB hb11
     refine wq (bO (pb) dK rfl rfl hfb ((R.mem M11).below_len (aG aF hxb2)) ((R.mem M11).someK (aG aF hxb2))) rfl (wq (dI _ bP (R.mem M11) (aG aF hxb2) rfl) rfl (aT fO M11 rfl rfl (fun b12 w12 M12 => (bI 4 _ bP M12 rfl rfl rfl rfl rfl (aR rfl) rfl (fun w13 M13 => ?_)))))
     refine aB (aC (aE (bR [(0, 1), (1, 1), (2, 1), (3, 0), (4, 0), (5, 1), (6, 1), (7, 1), (8, 2), (9, 0)] mixed rfl (by kernel_rfl) (fun w14 hb14 hh14 => ?_))))
     have M14 := M13.drew hb14 hh14
     refine bS rfl rfl rfl (aX 2 eV M14 rfl rfl rfl) (bS rfl rfl rfl (aX 3 bP M14 rfl rfl rfl) (bS rfl rfl rfl (aX 4 bP M14 rfl rfl rfl) (kN rfl rfl rfl (eB rfl rfl rfl (bS rfl rfl rfl (bO (i) dK rfl rfl rfl ((R.mem M14).below_len (aG aF hxb)) ((R.mem M14).someK (aG aF hxb))) ?_)))))
     refine bS rfl rfl rfl (bG 4 eG (R.mem M14) (Nat.lt_of_le_of_lt (Nat.zero_le _) ((R.mem M14).below_len (aG aF hxb))) rfl) (bS rfl rfl rfl (dX (o := 4) (.int _ _) aV (R.mem M14) (aG aF hxb) rfl rfl) (dU [true, true, true, true, true, true] rfl (by kernel_rfl) (vZ bAq rfl rfl rfl ?_)))
     have hbm : 0 ≤ xb.mass ∧ xb.mass ≤ xa.mass + xb2.mass := ⟨(hb xb hbi).m.1, tZ hs hma hmb hbi qa.1 qb.1 (by omega)⟩
     have hmq := (hb xb hbi).m
     have hsl := zF hc.n hbm
     have r1 := lP hsl hnx
     have r2 := lP hsl hny
     refine (zY _ cn xa xb2 hc.n hoa hob xb.mass hmq).mono ?_
     rintro _ w15 ⟨v15, rfl, ⟨rfl, hb15⟩⟩
     refine ⟨_, rfl, ?_⟩
     have M15 := M14.callB hb15
     refine aB (aC ⟨dT, ?_⟩)
     refine mG rfl rfl rfl (bX (aC (aE (aA (aP rfl rfl (wq (aD 2 gZ rfl) rfl (wq (aD 0 cS rfl) rfl ?_)))))))
     refine wq (aM 2 (.int _ _) aV M15 rfl rfl rfl) rfl (wq (bA dP Tryz.underlying2 rfl (fG _ (by omega) (by omega))) rfl (wq (fC rfl rfl (by omega) (by omega)) rfl (bY kW rfl rfl (fB _ _ 65536 (by decide) (by omega) (by omega)) ?_)))
     rintro v16 w16 ⟨rfl, hb16⟩
     have M16 := M15.callB hb16
     refine bH rfl rfl (aB (aC (aE (aA (aP rfl rfl (wq (aD 2 gZ rfl) rfl (wq (aD 1 cN rfl) rfl (wq (aM 2 (.int _ _) aV M16 rfl rfl rfl) rfl ?_))))))))
     refine wq (bA dP Tryz.underlying2 rfl (fG _ (by omega) (by omega))) rfl (wq (fC rfl rfl (by omega) (by omega)) rfl (bY kW rfl rfl (fB _ _ 65536 (by decide) (by omega) (by omega)) ?_))
     rintro v17 w17 ⟨rfl, hb17⟩
     have M17 := M16.callB hb17
     refine bH rfl rfl (aB (aC (aE (aE (bR [(0, 0), (1, 0), (2, 1), (3, 0), (4, 0), (5, 1), (6, 1), (7, 1), (8, 0)] mixed rfl (by kernel_rfl) (fun w18 hb18 hh18 => ?_))))))
     have M18 := M17.drew hb18 hh18
     refine aU rfl rfl rfl (fun _ => aD 0 fL rfl) (aU rfl rfl rfl (fun _ => aD 0 gE rfl) (bS rfl rfl rfl (aM 2 (.int _ _) bW M18 rfl rfl rfl) (kN rfl rfl rfl (eB rfl rfl rfl (bS rfl rfl rfl (bO (i) dK rfl rfl rfl ((R.mem M18).below_len (aG aF hxb)) ((R.mem M18).someK (aG aF hxb))) ?_)))))
     refine bS rfl rfl rfl (bG 0 dM (R.mem M18) (Nat.lt_of_le_of_lt (Nat.zero_le _) ((R.mem M18).below_len (aG aF hxb))) rfl) (bS rfl rfl rfl (dX (o := 0) (.int _ _) bW (R.mem M18) (aG aF hxb) rfl rfl) (aU rfl rfl rfl (fun _ => cA (.bool (decide _)) rfl rfl rfl) ?_))
     refine bX (aC ?_)
     refine aW rfl (fun h98 => ?_) (fun h98 => ?_)
     ·refine aE (aA (aP rfl rfl (wq (qB rfl (fG _ (by omega) (by omega))) rfl (bH rfl rfl (aB (aC (aA (aP rfl rfl ?_))))))))
      refine wq (qB rfl (fG _ (by omega) (by omega))) rfl (bH rfl rfl (aB (aC (aE (aA (wq (aD 0 kZ rfl) rfl (wq (aM 1 (.int _ _) iZ M18 rfl rfl rfl) rfl (aP rfl rfl ?_))))))))
      refine wq (aY rfl rfl (by omega) (by omega)) rfl (wq (aD 0 kZ rfl) rfl (dB 1 (.int _ _) iZ M18 rfl rfl rfl rfl rfl rfl (fun w19 M19 => (aB (aC (aA (wq (aD 1 lA rfl) rfl (wq (aM 1 (.int _ _) iZ M19 rfl rfl rfl) rfl ?_))))))))
      refine aP rfl rfl (wq (aY rfl rfl (by omega) (by omega)) rfl (wq (aD 1 lA rfl) rfl (dB 1 (.int _ _) iZ M19 rfl rfl rfl rfl rfl rfl (fun w20 M20 => (aB (cT ?_))))))
      refine aC (aA (aP rfl rfl (wq (aY rfl rfl (by omega) (by omega)) rfl (bH rfl rfl (aB ?_)))))
      refine cD (k2 + 1) (bB rfl dZ) (cK rfl (cK rfl (cK rfl (cK rfl (cK rfl (cK rfl gW)))))) ?_ ?_
      ·exact ⟨by omega, by rw [iO hcn, iO hcn]; unfold vC; (have n1 : cn.low = xb.key := by omega); rw [if_pos n1, if_pos n1, hba, hbb]; exact M20.keep [true, true, false, false, false]⟩
      ·(show mc - (k2 + 1) < mc - k2; omega)
     ·refine aL (aC (aE (aA (wq (aD 0 kZ rfl) rfl (wq (aM 1 (.int _ _) iZ M18 rfl rfl rfl) rfl (aP rfl rfl (wq (aY rfl rfl (by omega) (by omega)) rfl (wq (aD 0 kZ rfl) rfl ?_))))))))
      refine dB 1 (.int _ _) iZ M18 rfl rfl rfl rfl rfl rfl (fun w21 M21 => (aB (aC (aA (wq (aD 1 lA rfl) rfl (wq (aM 1 (.int _ _) iZ M21 rfl rfl rfl) rfl (aP rfl rfl (wq (aY rfl rfl (by omega) (by omega)) rfl ?_))))))))
      refine wq (aD 1 lA rfl) rfl (dB 1 (.int _ _) iZ M21 rfl rfl rfl rfl rfl rfl (fun w22 M22 => (aB (cT (aC (aA (aP rfl rfl ?_)))))))
      refine wq (aY rfl rfl (by omega) (by omega)) rfl (bH rfl rfl (aB ?_))
      refine cD (k2 + 1) (bB rfl dZ) (cK rfl (cK rfl (cK rfl (cK rfl (cK rfl (cK rfl gW)))))) ?_ ?_
      ·exact ⟨by omega, by rw [iO hcn, iO hcn]; unfold vC; (have n1 : ¬ cn.low = xb.key := by omega); (have n2 : cn.high = xb.key := by omega); rw [if_neg n1, if_pos n2, if_neg n1, if_pos n2, hba, hbb]; exact M22.keep [true, true, false, false, false]⟩
      ·(show mc - (k2 + 1) < mc - k2; omega)
   ·refine rB rfl rfl rfl (rB rfl rfl rfl (nN rfl rfl rfl (rB rfl rfl rfl (rB rfl rfl rfl (nN rfl rfl rfl ?_)))))
    refine nN rfl rfl rfl (nN rfl rfl rfl (rB rfl rfl rfl (aU rfl rfl rfl (fun _ => bQ false (.bool false) rfl rfl) (bX (aC ?_)))))
    refine cJ rfl (aL (aC (aE (aA (dH rfl rfl (dH rfl rfl (wq (aD 0 fL rfl) rfl (wq (aD 0 gE rfl) rfl ?_))))))))
    refine wq (aM 2 (.int _ _) bW M7 rfl rfl rfl) rfl (bY sH rfl rfl (gS _ cn.low _ _ _ xs (R.mem M7)) ?_)
    rintro v23 w23 ⟨rfl, hb23⟩
    have M23 := M7.callB hb23
    refine wq (bO (pa) dK rfl rfl hfa ((R.mem M23).below_len (aG aF hxa)) ((R.mem M23).someK (aG aF hxa))) rfl (wq (dI _ bP (R.mem M23) (aG aF hxa) rfl) rfl (aT fO M23 rfl rfl (fun b24 w24 M24 => (bI 3 _ bP M24 rfl rfl rfl rfl rfl (aR rfl) rfl (fun w25 M25 => ?_)))))
    refine aB (aC (aE (aA (dH rfl rfl (dH rfl rfl (wq (aD 0 fL rfl) rfl (wq (aD 1 jQ rfl) rfl (wq (aM 2 (.int _ _) bW M25 rfl rfl rfl) rfl ?_))))))))
    refine bY sH rfl rfl (gS _ cn.high _ _ _ xs (R.mem M25)) ?_
    rintro v26 w26 ⟨rfl, hb26⟩
    have M26 := M25.callB hb26
    refine wq (bO (pb) dK rfl rfl hfb ((R.mem M26).below_len (aG aF hxb2)) ((R.mem M26).someK (aG aF hxb2))) rfl (wq (dI _ bP (R.mem M26) (aG aF hxb2) rfl) rfl (aT fO M26 rfl rfl (fun b27 w27 M27 => (bI 4 _ bP M27 rfl rfl rfl rfl rfl (aR rfl) rfl (fun w28 M28 => ?_)))))
    refine aB (aC (aE (bR [(0, 1), (1, 1), (2, 1), (3, 0), (4, 0), (5, 1), (6, 1), (7, 1), (8, 2), (9, 0)] mixed rfl (by kernel_rfl) (fun w29 hb29 hh29 => ?_))))
    have M29 := M28.drew hb29 hh29
    refine bS rfl rfl rfl (aX 2 eV M29 rfl rfl rfl) (bS rfl rfl rfl (aX 3 bP M29 rfl rfl rfl) (bS rfl rfl rfl (aX 4 bP M29 rfl rfl rfl) (kN rfl rfl rfl (eB rfl rfl rfl (bS rfl rfl rfl (bO (i) dK rfl rfl rfl ((R.mem M29).below_len (aG aF hxb)) ((R.mem M29).someK (aG aF hxb))) ?_)))))
    refine bS rfl rfl rfl (bG 4 eG (R.mem M29) (Nat.lt_of_le_of_lt (Nat.zero_le _) ((R.mem M29).below_len (aG aF hxb))) rfl) (bS rfl rfl rfl (dX (o := 4) (.int _ _) aV (R.mem M29) (aG aF hxb) rfl rfl) (dU [true, true, true, true, true, true] rfl (by kernel_rfl) (vZ bAq rfl rfl rfl ?_)))
    have hbm : 0 ≤ xb.mass ∧ xb.mass ≤ xa.mass + xb2.mass := ⟨(hb xb hbi).m.1, tZ hs hma hmb hbi qa.1 qb.1 (by omega)⟩
    have hmq := (hb xb hbi).m
    have hsl := zF hc.n hbm
    have r1 := lP hsl hnx
    have r2 := lP hsl hny
    refine (zY _ cn xa xb2 hc.n hoa hob xb.mass hmq).mono ?_
    rintro _ w30 ⟨v30, rfl, ⟨rfl, hb30⟩⟩
    refine ⟨_, rfl, ?_⟩
    have M30 := M29.callB hb30
    refine aB (aC ⟨dT, ?_⟩)
    refine mG rfl rfl rfl (bX (aC (aE (aA (aP rfl rfl (wq (aD 2 gZ rfl) rfl (wq (aD 0 cS rfl) rfl ?_)))))))
    refine wq (aM 2 (.int _ _) aV M30 rfl rfl rfl) rfl (wq (bA dP Tryz.underlying2 rfl (fG _ (by omega) (by omega))) rfl (wq (fC rfl rfl (by omega) (by omega)) rfl (bY kW rfl rfl (fB _ _ 65536 (by decide) (by omega) (by omega)) ?_)))
    rintro v31 w31 ⟨rfl, hb31⟩
    have M31 := M30.callB hb31
    refine bH rfl rfl (aB (aC (aE (aA (aP rfl rfl (wq (aD 2 gZ rfl) rfl (wq (aD 1 cN rfl) rfl (wq (aM 2 (.int _ _) aV M31 rfl rfl rfl) rfl ?_))))))))
    refine wq (bA dP Tryz.underlying2 rfl (fG _ (by omega) (by omega))) rfl (wq (fC rfl rfl (by omega) (by omega)) rfl (bY kW rfl rfl (fB _ _ 65536 (by decide) (by omega) (by omega)) ?_))
    rintro v32 w32 ⟨rfl, hb32⟩
    have M32 := M31.callB hb32
    refine bH rfl rfl (aB (aC (aE (aE (bR [(0, 0), (1, 0), (2, 1), (3, 0), (4, 0), (5, 1), (6, 1), (7, 1), (8, 0)] mixed rfl (by kernel_rfl) (fun w33 hb33 hh33 => ?_))))))
    have M33 := M32.drew hb33 hh33
    refine aU rfl rfl rfl (fun _ => aD 0 fL rfl) (aU rfl rfl rfl (fun _ => aD 0 gE rfl) (bS rfl rfl rfl (aM 2 (.int _ _) bW M33 rfl rfl rfl) (kN rfl rfl rfl (eB rfl rfl rfl (bS rfl rfl rfl (bO (i) dK rfl rfl rfl ((R.mem M33).below_len (aG aF hxb)) ((R.mem M33).someK (aG aF hxb))) ?_)))))
    refine bS rfl rfl rfl (bG 0 dM (R.mem M33) (Nat.lt_of_le_of_lt (Nat.zero_le _) ((R.mem M33).below_len (aG aF hxb))) rfl) (bS rfl rfl rfl (dX (o := 0) (.int _ _) bW (R.mem M33) (aG aF hxb) rfl rfl) (aU rfl rfl rfl (fun _ => cA (.bool (decide _)) rfl rfl rfl) ?_))
    refine bX (aC ?_)
    refine aW rfl (fun h98 => ?_) (fun h98 => ?_)
    ·refine aE (aA (aP rfl rfl (wq (qB rfl (fG _ (by omega) (by omega))) rfl (bH rfl rfl (aB (aC (aA (aP rfl rfl ?_))))))))
     refine wq (qB rfl (fG _ (by omega) (by omega))) rfl (bH rfl rfl (aB (aC (aE (aA (wq (aD 0 kZ rfl) rfl (wq (aM 1 (.int _ _) iZ M33 rfl rfl rfl) rfl (aP rfl rfl ?_))))))))
     refine wq (aY rfl rfl (by omega) (by omega)) rfl (wq (aD 0 kZ rfl) rfl (dB 1 (.int _ _) iZ M33 rfl rfl rfl rfl rfl rfl (fun w34 M34 => (aB (aC (aA (wq (aD 1 lA rfl) rfl (wq (aM 1 (.int _ _) iZ M34 rfl rfl rfl) rfl ?_))))))))
     refine aP rfl rfl (wq (aY rfl rfl (by omega) (by omega)) rfl (wq (aD 1 lA rfl) rfl (dB 1 (.int _ _) iZ M34 rfl rfl rfl rfl rfl rfl (fun w35 M35 => (aB (cT ?_))))))
     refine aC (aA (aP rfl rfl (wq (aY rfl rfl (by omega) (by omega)) rfl (bH rfl rfl (aB ?_)))))
     refine cD (k2 + 1) (bB rfl dZ) (cK rfl (cK rfl (cK rfl (cK rfl (cK rfl (cK rfl gW)))))) ?_ ?_
     ·exact ⟨by omega, by rw [iO hcn, iO hcn]; unfold vC; (have n1 : cn.low = xb.key := by omega); rw [if_pos n1, if_pos n1, hba, hbb]; exact M35.keep [true, true, false, false, false]⟩
     ·(show mc - (k2 + 1) < mc - k2; omega)
    ·refine aL (aC (aE (aA (wq (aD 0 kZ rfl) rfl (wq (aM 1 (.int _ _) iZ M33 rfl rfl rfl) rfl (aP rfl rfl (wq (aY rfl rfl (by omega) (by omega)) rfl (wq (aD 0 kZ rfl) rfl ?_))))))))
     refine dB 1 (.int _ _) iZ M33 rfl rfl rfl rfl rfl rfl (fun w36 M36 => (aB (aC (aA (wq (aD 1 lA rfl) rfl (wq (aM 1 (.int _ _) iZ M36 rfl rfl rfl) rfl (aP rfl rfl (wq (aY rfl rfl (by omega) (by omega)) rfl ?_))))))))
     refine wq (aD 1 lA rfl) rfl (dB 1 (.int _ _) iZ M36 rfl rfl rfl rfl rfl rfl (fun w37 M37 => (aB (cT (aC (aA (aP rfl rfl ?_)))))))
     refine wq (aY rfl rfl (by omega) (by omega)) rfl (bH rfl rfl (aB ?_))
     refine cD (k2 + 1) (bB rfl dZ) (cK rfl (cK rfl (cK rfl (cK rfl (cK rfl (cK rfl gW)))))) ?_ ?_
     ·exact ⟨by omega, by rw [iO hcn, iO hcn]; unfold vC; (have n1 : ¬ cn.low = xb.key := by omega); (have n2 : cn.high = xb.key := by omega); rw [if_neg n1, if_pos n2, if_neg n1, if_pos n2, hba, hbb]; exact M37.keep [true, true, false, false, false]⟩
     ·(show mc - (k2 + 1) < mc - k2; omega)
  ·have hkn : k2 = mc := by omega
   rw [hkn, List.take_of_length_le (by omega)] at hM4
   refine cW (dE (dL (eS (aC (aA (dH rfl rfl ?_))))))
   refine wq (aX 1 bKt hM4 rfl rfl rfl) rfl (cR [.agg (List.toArray _)] [cL (jR xs cs xb)] rfl aGv hM4 rfl rfl rfl rfl (dD rfl) (by decide) (fun b38 w38 M38 => (dG 0 [cL (jR xs cs xb)] aGv M38 rfl rfl rfl rfl rfl hq rfl (by simp [cL, Go.Bil.one]) (dV.ofMem 2 M38 rfl) (by omega) (fun A39 c39 e39 w39 M39 hR39 => ?_))))
   refine eI rfl rfl (aB (cT (aC (aA (aP rfl rfl (wq (aY rfl rfl (by omega) (by omega)) rfl ?_))))))
   refine bH rfl rfl (aB ?_)
   refine cD (i + 1, ⟨A39, q.n + 1, c39, e39⟩) (bB rfl (bB rfl dZ)) (cK rfl (cK rfl (cK rfl gW))) ?_ ?_
   ·exact ⟨⟨by omega, by rw [cP hxb, List.map_append, List.map_append]; exact hR39⟩, M39.keep [true, false, false]⟩
   ·(show n - (i + 1) < n - i; omega)
 ·have hin : i = n := by omega
  rw [List.take_of_length_le (by omega)] at hq
  refine cW (dE (dL (eS (aC (aE (aA (dH rfl rfl ?_)))))))
  refine eI rfl rfl (aB (aC (aO (cG (.slice _ _ _) rfl ?_))))
  exact ⟨q, rfl, hq, hM2⟩
set_option maxHeartbeats 4000000 in
theorem aGr (w : World) (A : Option Addr) (n c : Nat) (xs : List Body) (R : Rd w 10 A n (xs.map aF)) (hb : ∀ b ∈ xs, Okb b) (hn : n ≤ 1048576) :
  Calls Tryz.prog 129 #[.slice A n c] w (fun ex w' => ∃ v, ex = .returned v ∧ (fun v w' => ∃ r : Row, v = .tuple #[.slice r.A r.n r.c, .bool (xs.any lN)] ∧ bC 39 10 r.A r.n r.c ((pM xs).map aF) r.e ∧ Mem w [] [r.e] w') v w') := by
 have hlen : xs.length = n := by simpa using R.len
 have hbd := R.bound
 refine aI #[.tmp 2, .tmp 3] 47 Tryz.func129 rfl Tryz.results129 Tryz.ntmps129 rfl ?_
 have M0 := Mem.refl w
 refine aE (aA (eI rfl rfl (wq (aJ (.bool false) rfl) rfl (aB (aC (aE (aA (eI rfl rfl ?_))))))))
 have M1 := M0.dummy default
 refine aB (aC (aE (aA (wq (aJ (.bool false) rfl) rfl (aB (aC (aE (aE (aA (bH rfl rfl (aB (aC (aQ (dS (σ := Nat × Row) [0, 2, 3] (fun (k, q) => [(4, .slice q.A q.n q.c), (5, .bool ((xs.take k).any lN)), (6, .int .i64 (k : Int))]) (fun (k, q) w' => (k ≤ n ∧ bC 39 10 q.A q.n q.c (((xs.take k).map oA).map aF) q.e) ∧ Mem w [] [q.e] w') (fun (k, q) => n - k) (0, fV) (bB rfl (bB (bv rfl rfl) (bB rfl dZ))) (⟨⟨by omega, bC.nil _ _ _⟩, M1⟩) ?_))))))))))))))
 rintro ⟨k, q⟩ ρ2 w2 ⟨⟨hk, hq⟩, hM2⟩
 have htl := List.length_take_le k xs
 have hqn : (xs.take k).length = q.n := by simpa using hq.1
 refine aE (aE (aA (aP rfl rfl (dH rfl rfl (wq (cZ Tryz.underlying29 rfl) rfl (cY rfl rfl rfl rfl (aB (aC ?_))))))))
 refine aW rfl (fun h12 => ?_) (fun h12 => ?_)
 ·obtain ⟨xb, hxb⟩ := cV (xs := xs) (k := k) hlen (by omega)
  have hob := hb xb (List.mem_of_getElem? hxb)
  have hm := hob.m
  have hv := hob.v
  have hly := eO (xb.vy - 1024) (l := 16777216) (by decide)
  refine aL (aC (aE (aQ (aE (aA (dH rfl rfl (aP rfl rfl (wq (bO (k) dK rfl rfl rfl ((R.mem hM2).below_len (aG aF hxb)) ((R.mem hM2).someK (aG aF hxb))) rfl (wq (dI _ bP (R.mem hM2) (aG aF hxb) rfl) rfl (aT fO hM2 rfl rfl (fun b3 w3 M3 => ?_)))))))))))
  refine bI 1 _ bP M3 rfl rfl rfl rfl rfl (aR rfl) rfl (fun w4 M4 => (aB (aC (aE (aE (aA (wq (aD 4 eG rfl) rfl (wq (aM 1 (.int _ _) aV M4 rfl rfl rfl) rfl (cY rfl rfl rfl rfl (aB (aC ?_)))))))))))
  refine aW rfl (fun h21 => ?_) (fun h21 => ?_)
  ·have hms : xb.mass ≠ 0 := by omega
   have hgb : oA xb = { xb with vy := iS (xb.vy - 1024) 16777216 } := by unfold oA; rw [if_neg hms]
   refine aE (aA (wq (aD 8 dW rfl) rfl (wq (aD 1 cN rfl) rfl (wq (aM 1 (.int _ _) aV M4 rfl rfl rfl) rfl (wq (bA dP Tryz.underlying2 rfl (fG _ (by omega) (by omega))) rfl (wq (fR rfl rfl (by omega) (by omega)) rfl ?_))))))
   refine bH rfl rfl (aB (aC (aE (aA (aP rfl rfl (bY wC rfl rfl (kE _ (xb.vy - 1024) 16777216 ⟨by decide, by decide⟩) ?_))))))
   rintro v5 w5 ⟨rfl, hb5⟩
   have M5 := M4.callB hb5
   refine wq (bA lW Tryz.underlying21 rfl (jC _ (by omega) (by omega))) rfl (wq (aD 8 dW rfl) rfl (wq (aD 1 cN rfl) rfl (dB 1 (.int _ _) aV M5 rfl rfl rfl rfl rfl rfl (fun w6 M6 => (aB (aC (aA (wq (aH (.bool _) rfl) rfl ?_))))))))
   refine wq (aH (.bool _) rfl) rfl ?_
   refine jS 33 _ rfl (fun g33 => ?_) (fun g33 => ?_)
   ·refine aN rfl rfl (aN rfl rfl (aN rfl rfl (aN rfl rfl (aN rfl rfl (aN rfl rfl ?_)))))
    refine wq (bQ true (.bool true) rfl rfl) rfl (wq (aJ (.bool true) rfl) rfl (aB (aC (aA (dH rfl rfl (wq (aX 1 bP M6 rfl rfl rfl) rfl (cR [.agg (List.toArray _)] [aF { xb with vy := iS (xb.vy - 1024) 16777216 }] rfl dK M6 rfl rfl rfl rfl (dD rfl) (by decide) (fun b7 w7 M7 => ?_))))))))
    refine dG 0 [aF { xb with vy := iS (xb.vy - 1024) 16777216 }] dK M7 rfl rfl rfl rfl rfl hq rfl (by simp [aF, Go.Bil.one]) (dV.ofMem 2 M7 rfl) (by omega) (fun A8 c8 e8 w8 M8 hR8 => ?_)
    rw [← hgb] at hR8
    refine eI rfl rfl (aB (cT (aC (aA (aP rfl rfl (wq (aY rfl rfl (by omega) (by omega)) rfl ?_))))))
    refine bH rfl rfl (aB ?_)
    refine cD (k + 1, ⟨A8, q.n + 1, c8, e8⟩) (bB rfl (bB (bv rfl (by rw [cP hxb, List.any_append, List.any_cons, List.any_nil, Bool.or_false]; rw [show lN xb = decide (iS (xb.vy - 1024) 16777216 ≠ xb.vy - 1024) by unfold lN; rw [decide_eq_true hms, Bool.true_and]]; rw [g33]; first | exact (Bool.true_or _).symm | exact (Bool.false_or _).symm)) (bB rfl dZ))) (cK rfl (cK rfl (cK rfl gW))) ?_ ?_
    ·exact ⟨⟨by omega, by rw [cP hxb, List.map_append, List.map_append]; exact hR8⟩, M8.keep [true, false, false]⟩
    ·(show n - (k + 1) < n - k; omega)
   ·refine wq (aD 8 dW rfl) rfl (wq (aD 1 cN rfl) rfl (wq (aM 1 (.int _ _) aV M6 rfl rfl rfl) rfl (wq (bA dP Tryz.underlying2 rfl (fG _ (by omega) (by omega))) rfl (aP rfl rfl (cY rfl rfl rfl rfl ?_)))))
    refine wq (bQ false (.bool (decide _)) rfl rfl) rfl (wq (aJ (.bool (decide _)) rfl) rfl (aB (aC (aA (dH rfl rfl (wq (aX 1 bP M6 rfl rfl rfl) rfl (cR [.agg (List.toArray _)] [aF { xb with vy := iS (xb.vy - 1024) 16777216 }] rfl dK M6 rfl rfl rfl rfl (dD rfl) (by decide) (fun b9 w9 M9 => ?_))))))))
    refine dG 0 [aF { xb with vy := iS (xb.vy - 1024) 16777216 }] dK M9 rfl rfl rfl rfl rfl hq rfl (by simp [aF, Go.Bil.one]) (dV.ofMem 2 M9 rfl) (by omega) (fun A10 c10 e10 w10 M10 hR10 => ?_)
    rw [← hgb] at hR10
    refine eI rfl rfl (aB (cT (aC (aA (aP rfl rfl (wq (aY rfl rfl (by omega) (by omega)) rfl ?_))))))
    refine bH rfl rfl (aB ?_)
    refine cD (k + 1, ⟨A10, q.n + 1, c10, e10⟩) (bB rfl (bB (bv rfl (by rw [cP hxb, List.any_append, List.any_cons, List.any_nil, Bool.or_false]; rw [show lN xb = decide (iS (xb.vy - 1024) 16777216 ≠ xb.vy - 1024) by unfold lN; rw [decide_eq_true hms, Bool.true_and]]; rw [g33]; first | exact (Bool.true_or _).symm | exact (Bool.false_or _).symm)) (bB rfl dZ))) (cK rfl (cK rfl (cK rfl gW))) ?_ ?_
    ·exact ⟨⟨by omega, by rw [cP hxb, List.map_append, List.map_append]; exact hR10⟩, M10.keep [true, false, false]⟩
    ·(show n - (k + 1) < n - k; omega)
  ·have hms : ¬ xb.mass ≠ 0 := by omega
   have hgb : oA xb = xb := by unfold oA; rw [if_pos (by omega)]
   refine aL (aC (aA (dH rfl rfl (wq (aX 1 bP M4 rfl rfl rfl) rfl (cR [.agg (List.toArray _)] [aF xb] rfl dK M4 rfl rfl rfl rfl (dD rfl) (by decide) (fun b11 w11 M11 => (dG 0 [aF xb] dK M11 rfl rfl rfl rfl rfl hq rfl (by simp [aF, Go.Bil.one]) (dV.ofMem 2 M11 rfl) (by omega) (fun A12 c12 e12 w12 M12 hR12 => ?_))))))))
   rw [← hgb] at hR12
   refine eI rfl rfl (aB (cT (aC (aA (aP rfl rfl (wq (aY rfl rfl (by omega) (by omega)) rfl ?_))))))
   refine bH rfl rfl (aB ?_)
   refine cD (k + 1, ⟨A12, q.n + 1, c12, e12⟩) (bB rfl (bB (bv rfl (by rw [cP hxb, List.any_append, List.any_cons, List.any_nil, Bool.or_false]; rw [show lN xb = false by unfold lN; rw [decide_eq_false hms, Bool.false_and], Bool.or_false])) (bB rfl dZ))) (cK rfl (cK rfl (cK rfl gW))) ?_ ?_
   ·exact ⟨⟨by omega, by rw [cP hxb, List.map_append, List.map_append]; exact hR12⟩, M12.keep [true, false, false]⟩
   ·(show n - (k + 1) < n - k; omega)
 ·have hkn : k = n := by omega
  rw [List.take_of_length_le (by omega)] at hq
  refine cW (dE (dL (eS (aC (aE (aA (dH rfl rfl ?_)))))))
  refine wq (aH (.bool _) rfl) rfl (eI rfl rfl (wq (aJ (.bool _) rfl) rfl (aB (aC (aO (fY (.slice _ _ _) (.bool _) rfl rfl ?_))))))
  exact ⟨q, sL rfl (congrArg Value.bool (by rw [List.take_of_length_le (by omega)])), hq, hM2⟩
theorem bKv {a b c a' b' c' : Value} (h1 : a = a') (h2 : b = b') (h3 : c = c') : Value.tuple #[a, b, c] = Value.tuple #[a', b', c'] := by rw [h1, h2, h3]
theorem aEz (xs : List Body) : tW xs = ((xs.any lN || (gU (pM xs) (lL xs) 4).2) || aUg xs (lL xs) (lF xs)) := rfl
set_option maxHeartbeats 8000000 in
theorem aRz (w : World) (A : Option Addr) (n c : Nat) (xs : List Body) (R : Rd w 10 A n (xs.map aF)) (hb : ∀ b ∈ xs, Okb b) (hn : n ≤ 1048576) (G : Body → Int × Int) (hG : ∀ b ∈ xs, (-1152921504606846976 ≤ (G b).1 ∧ (G b).1 ≤ 1152921504606846976) ∧ -1152921504606846976 ≤ (G b).2 ∧ (G b).2 ≤ 1152921504606846976) (C : Option Addr) (cm : Nat) (RS : Rd w 2 C n ((xs.map G).map cL)) :
  Calls Tryz.prog 131 #[.slice A n c, .slice C n cm] w (fun ex w' => ∃ v, ex = .returned v ∧ (fun v w' => ∃ r : Row, v = .tuple #[.slice r.A r.n r.c, .bool (xs.any (fun b => aFw b (G b).1 (G b).2))] ∧ bC 39 10 r.A r.n r.c ((xs.map (fun b => sQ b (G b).1 (G b).2)).map aF) r.e ∧ Mem w [] [r.e] w') v w') := by
 have hlen : xs.length = n := by simpa using R.len
 have hbd := R.bound
 refine aI #[.tmp 4, .tmp 5] 85 Tryz.func131 rfl Tryz.results131 Tryz.ntmps131 rfl ?_
 have M0 := Mem.refl w
 refine aE (aA (eI rfl rfl (wq (aJ (.bool false) rfl) rfl (aB (aC (aE (aA (eI rfl rfl ?_))))))))
 have M1 := M0.dummy default
 refine aB (aC (aE (aA (wq (aJ (.bool false) rfl) rfl (aB (aC (aE (aE (aA (bH rfl rfl (aB (aC (aQ (dS (σ := Nat × Row) [0, 1, 4, 5] (fun (k, q) => [(6, .slice q.A q.n q.c), (7, .bool ((xs.take k).any (fun b => aFw b (G b).1 (G b).2))), (8, .int .i64 (k : Int))]) (fun (k, q) w' => (k ≤ n ∧ bC 39 10 q.A q.n q.c (((xs.take k).map (fun b => sQ b (G b).1 (G b).2)).map aF) q.e) ∧ Mem w [] [q.e] w') (fun (k, q) => n - k) (0, fV) (bB rfl (bB (bv rfl rfl) (bB rfl dZ))) (⟨⟨by omega, bC.nil _ _ _⟩, M1⟩) ?_))))))))))))))
 rintro ⟨k, q⟩ ρ2 w2 ⟨⟨hk, hq⟩, hM2⟩
 have htl := List.length_take_le k xs
 have hqn : (xs.take k).length = q.n := by simpa using hq.1
 refine aE (aE (aA (aP rfl rfl (dH rfl rfl (wq (cZ Tryz.underlying29 rfl) rfl (cY rfl rfl rfl rfl (aB (aC ?_))))))))
 refine aW rfl (fun h15 => ?_) (fun h15 => ?_)
 ·obtain ⟨xb, hxb⟩ := cV (xs := xs) (k := k) hlen (by omega)
  have hxm := List.mem_of_getElem? hxb
  have hob := hb xb hxm
  have hv := hob.v
  have hpx := hob.p
  have hgb := hG xb hxm
  have hlx := eO (aGu xb (G xb).1) (l := 1073741824) (by decide)
  have hly := eO (aGo xb (G xb).2) (l := 1073741824) (by decide)
  refine aL (aC (aE (aQ (aE (aA (dH rfl rfl (aP rfl rfl (wq (bO (k) dK rfl rfl rfl ((R.mem hM2).below_len (aG aF hxb)) ((R.mem hM2).someK (aG aF hxb))) rfl (wq (dI _ bP (R.mem hM2) (aG aF hxb) rfl) rfl (aT fO hM2 rfl rfl (fun b3 w3 M3 => ?_)))))))))))
  refine bI 1 _ bP M3 rfl rfl rfl rfl rfl (aR rfl) rfl (fun w4 M4 => (aB (aC (aE (bR [(0, 0), (1, 0), (2, 1), (3, 0), (4, 0), (5, 0), (6, 1), (7, 1), (8, 1), (9, 0), (10, 0), (11, 0), (12, 1), (13, 0), (14, 2), (15, 0), (16, 0)] mixed rfl (by kernel_rfl) (fun w5 hb5 hh5 => ?_))))))
  have M5 := M4.drew hb5 hh5
  refine aU rfl rfl rfl (fun _ => aD 6 fK rfl) (aU rfl rfl rfl (fun _ => aD 0 cS rfl) (bS rfl rfl rfl (aM 1 (.int _ _) aV M5 rfl rfl rfl) (aU rfl rfl rfl (fun _ => bA dP Tryz.underlying2 rfl (fG _ (by omega) (by omega))) (kN rfl rfl rfl (eB rfl rfl rfl ?_)))))
  refine bS rfl rfl rfl (bO (k) aGv rfl rfl rfl ((RS.mem M5).below_len (aG cL (aG G hxb))) ((RS.mem M5).someK (aG cL (aG G hxb)))) (bS rfl rfl rfl (bG 0 kZ (RS.mem M5) (Nat.lt_of_le_of_lt (Nat.zero_le _) ((RS.mem M5).below_len (aG cL (aG G hxb)))) rfl) ?_)
  refine bS rfl rfl rfl (dX (o := 0) (.int _ _) iZ (RS.mem M5) (aG cL (aG G hxb)) rfl rfl) (aU rfl rfl rfl (fun _ => aY rfl rfl (by omega) (by omega)) (aU rfl rfl rfl (fun _ => aD 8 dW rfl) (aU rfl rfl rfl (fun _ => aD 0 cS rfl) (bS rfl rfl rfl (aM 1 (.int _ _) aV M5 rfl rfl rfl) ?_))))
  refine aU rfl rfl rfl (fun _ => bA dP Tryz.underlying2 rfl (fG _ (by omega) (by omega))) (dU [true, false, false, false, false] rfl (by kernel_rfl) (bY kW rfl rfl (fB _ xb.vx 64 (by decide) (by omega) (by omega)) ?_))
  rintro v6 w6 ⟨rfl, hb6⟩
  have M6 := M5.callB hb6
  refine aB (aC ⟨(eD (bL rfl (dX (o := 0) (.int _ _) iZ (RS.mem M6) (aG cL (aG G hxb)) rfl rfl)) (eD (bL rfl (bG 0 kZ (RS.mem M6) (Nat.lt_of_le_of_lt (Nat.zero_le _) ((RS.mem M6).below_len (aG cL (aG G hxb)))) rfl)) (eD (bL rfl (bO (k) aGv rfl rfl rfl ((RS.mem M6).below_len (aG cL (aG G hxb))) ((RS.mem M6).someK (aG cL (aG G hxb))))) (eD (bL rfl (aM 1 (.int _ _) aV M6 rfl rfl rfl)) dT)))), ?_⟩)
  refine aU rfl rfl rfl (fun _ => aY rfl rfl (by omega) (by omega)) (dQ 37 (.int .i64 (aGu xb (G xb).1)) rfl (mG rfl rfl rfl (bX (aC (aE (bR [(0, 0), (1, 0), (2, 1), (3, 0), (4, 0), (5, 0), (6, 1), (7, 1), (8, 1), (9, 0), (10, 0), (11, 0), (12, 1), (13, 0), (14, 2), (15, 0), (16, 0)] mixed rfl (by kernel_rfl) (fun w7 hb7 hh7 => ?_)))))))
  have M7 := M6.drew hb7 hh7
  refine aU rfl rfl rfl (fun _ => aD 6 fK rfl) (aU rfl rfl rfl (fun _ => aD 1 cN rfl) (bS rfl rfl rfl (aM 1 (.int _ _) aV M7 rfl rfl rfl) (aU rfl rfl rfl (fun _ => bA dP Tryz.underlying2 rfl (fG _ (by omega) (by omega))) (kN rfl rfl rfl (eB rfl rfl rfl ?_)))))
  refine bS rfl rfl rfl (bO (k) aGv rfl rfl rfl ((RS.mem M7).below_len (aG cL (aG G hxb))) ((RS.mem M7).someK (aG cL (aG G hxb)))) (bS rfl rfl rfl (bG 1 lA (RS.mem M7) (Nat.lt_of_le_of_lt (Nat.zero_le _) ((RS.mem M7).below_len (aG cL (aG G hxb)))) rfl) ?_)
  refine bS rfl rfl rfl (dX (o := 1) (.int _ _) iZ (RS.mem M7) (aG cL (aG G hxb)) rfl rfl) (aU rfl rfl rfl (fun _ => aY rfl rfl (by omega) (by omega)) (aU rfl rfl rfl (fun _ => aD 8 dW rfl) (aU rfl rfl rfl (fun _ => aD 1 cN rfl) (bS rfl rfl rfl (aM 1 (.int _ _) aV M7 rfl rfl rfl) ?_))))
  refine aU rfl rfl rfl (fun _ => bA dP Tryz.underlying2 rfl (fG _ (by omega) (by omega))) (dU [true, false, false, false, false] rfl (by kernel_rfl) (bY kW rfl rfl (fB _ xb.vy 64 (by decide) (by omega) (by omega)) ?_))
  rintro v8 w8 ⟨rfl, hb8⟩
  have M8 := M7.callB hb8
  refine aB (aC ⟨(eD (bL rfl (dX (o := 1) (.int _ _) iZ (RS.mem M8) (aG cL (aG G hxb)) rfl rfl)) (eD (bL rfl (bG 1 lA (RS.mem M8) (Nat.lt_of_le_of_lt (Nat.zero_le _) ((RS.mem M8).below_len (aG cL (aG G hxb)))) rfl)) (eD (bL rfl (bO (k) aGv rfl rfl rfl ((RS.mem M8).below_len (aG cL (aG G hxb))) ((RS.mem M8).someK (aG cL (aG G hxb))))) (eD (bL rfl (aM 1 (.int _ _) aV M8 rfl rfl rfl)) dT)))), ?_⟩)
  refine aU rfl rfl rfl (fun _ => aY rfl rfl (by omega) (by omega)) (dQ 53 (.int .i64 (aGo xb (G xb).2)) rfl (mG rfl rfl rfl (bX (aC (aE (aA (aP rfl rfl ?_)))))))
  refine bY wC rfl rfl (kE _ (aGu xb (G xb).1) 1073741824 ⟨by decide, by decide⟩) ?_
  rintro v9 w9 ⟨rfl, hb9⟩
  have M9 := M8.callB hb9
  refine wq (bA lW Tryz.underlying21 rfl (jC _ (by omega) (by omega))) rfl (aP rfl rfl (bY wC rfl rfl (kE _ (aGo xb (G xb).2) 1073741824 ⟨by decide, by decide⟩) ?_))
  rintro v10 w10 ⟨rfl, hb10⟩
  have M10 := M9.callB hb10
  refine wq (bA lW Tryz.underlying21 rfl (jC _ (by omega) (by omega))) rfl (wq (cF [(0, .int _ _), (1, .int _ _)] _ fA rfl rfl) rfl (wq (aD 6 fK rfl) rfl (tN 1 _ bM M10 rfl rfl rfl rfl rfl (aR rfl) (Nat.le_of_ble_eq_true rfl) (fun w11 M11 => (aB (aC (aE (aA ?_))))))))
  refine wq (aH (.bool _) rfl) rfl (wq (aH (.bool _) rfl) rfl ?_)
  refine jS 63 _ rfl (fun g63 => ?_) (fun g63 => ?_)
  ·refine aN rfl rfl (aN rfl rfl (aN rfl rfl (aN rfl rfl (aN rfl rfl (aN rfl rfl ?_)))))
   refine wq (bQ true (.bool true) rfl rfl) rfl (wq (aH (.bool true) rfl) rfl (aN rfl rfl (aN rfl rfl (aN rfl rfl (aN rfl rfl ?_)))))
   refine aN rfl rfl (aN rfl rfl (wq (bQ true (.bool true) rfl rfl) rfl (wq (aJ (.bool true) rfl) rfl (aB (aC (aA (dH rfl rfl ?_)))))))
   refine wq (aX 1 bP M11 rfl rfl rfl) rfl (cR [.agg (List.toArray _)] [aF (sQ xb (G xb).1 (G xb).2)] rfl dK M11 rfl rfl rfl rfl (dD rfl) (by decide) (fun b12 w12 M12 => (dG 0 [aF (sQ xb (G xb).1 (G xb).2)] dK M12 rfl rfl rfl rfl rfl hq rfl (by simp [aF, Go.Bil.one]) (dV.ofMem 2 M12 rfl) (by omega) (fun A13 c13 e13 w13 M13 hR13 => ?_))))
   refine eI rfl rfl (aB (cT (aC (aA (aP rfl rfl (wq (aY rfl rfl (by omega) (by omega)) rfl ?_))))))
   refine bH rfl rfl (aB ?_)
   refine cD (k + 1, ⟨A13, q.n + 1, c13, e13⟩) (bB rfl (bB (bv rfl (by rw [cP hxb, List.any_append, List.any_cons, List.any_nil, Bool.or_false]; rw [g63, Bool.true_or])) (bB rfl dZ))) (cK rfl (cK rfl (cK rfl (cK rfl gW)))) ?_ ?_
   ·exact ⟨⟨by omega, by rw [cP hxb, List.map_append, List.map_append]; exact hR13⟩, M13.keep [true, false, false]⟩
   ·(show n - (k + 1) < n - k; omega)
  ·refine wq (aD 6 fK rfl) rfl (wq (aD 0 cS rfl) rfl (wq (aM 1 (.int _ _) aV M11 rfl rfl rfl) rfl (wq (bA dP Tryz.underlying2 rfl (fG _ (by omega) (by omega))) rfl (aP rfl rfl (cY rfl rfl rfl rfl ?_)))))
   refine wq (bQ false (.bool (decide _)) rfl rfl) rfl (wq (aH (.bool (decide _)) rfl) rfl ?_)
   refine dN 71 rfl (fun g71 => ?_) (fun g71 => ?_)
   ·refine aN rfl rfl (aN rfl rfl (aN rfl rfl (aN rfl rfl (aN rfl rfl (aN rfl rfl ?_)))))
    refine wq (bQ true (.bool true) rfl rfl) rfl (wq (aJ (.bool true) rfl) rfl (aB (aC (aA (dH rfl rfl (wq (aX 1 bP M11 rfl rfl rfl) rfl (cR [.agg (List.toArray _)] [aF (sQ xb (G xb).1 (G xb).2)] rfl dK M11 rfl rfl rfl rfl (dD rfl) (by decide) (fun b14 w14 M14 => ?_))))))))
    refine dG 0 [aF (sQ xb (G xb).1 (G xb).2)] dK M14 rfl rfl rfl rfl rfl hq rfl (by simp [aF, Go.Bil.one]) (dV.ofMem 2 M14 rfl) (by omega) (fun A15 c15 e15 w15 M15 hR15 => (eI rfl rfl (aB (cT (aC (aA (aP rfl rfl ?_)))))))
    refine wq (aY rfl rfl (by omega) (by omega)) rfl (bH rfl rfl (aB ?_))
    refine cD (k + 1, ⟨A15, q.n + 1, c15, e15⟩) (bB rfl (bB (bv rfl (by rw [cP hxb, List.any_append, List.any_cons, List.any_nil, Bool.or_false]; rw [g63]; simp [aFw, g71])) (bB rfl dZ))) (cK rfl (cK rfl (cK rfl (cK rfl gW)))) ?_ ?_
    ·exact ⟨⟨by omega, by rw [cP hxb, List.map_append, List.map_append]; exact hR15⟩, M15.keep [true, false, false]⟩
    ·(show n - (k + 1) < n - k; omega)
   ·refine wq (aD 6 fK rfl) rfl (wq (aD 1 cN rfl) rfl (wq (aM 1 (.int _ _) aV M11 rfl rfl rfl) rfl (wq (bA dP Tryz.underlying2 rfl (fG _ (by omega) (by omega))) rfl (aP rfl rfl (cY rfl rfl rfl rfl ?_)))))
    refine wq (bQ false (.bool (decide _)) rfl rfl) rfl (wq (aJ (.bool (decide _)) rfl) rfl (aB (aC (aA (dH rfl rfl (wq (aX 1 bP M11 rfl rfl rfl) rfl (cR [.agg (List.toArray _)] [aF (sQ xb (G xb).1 (G xb).2)] rfl dK M11 rfl rfl rfl rfl (dD rfl) (by decide) (fun b16 w16 M16 => ?_))))))))
    refine dG 0 [aF (sQ xb (G xb).1 (G xb).2)] dK M16 rfl rfl rfl rfl rfl hq rfl (by simp [aF, Go.Bil.one]) (dV.ofMem 2 M16 rfl) (by omega) (fun A17 c17 e17 w17 M17 hR17 => (eI rfl rfl (aB (cT (aC (aA (aP rfl rfl ?_)))))))
    refine wq (aY rfl rfl (by omega) (by omega)) rfl (bH rfl rfl (aB ?_))
    refine cD (k + 1, ⟨A17, q.n + 1, c17, e17⟩) (bB rfl (bB (bv rfl (by rw [cP hxb, List.any_append, List.any_cons, List.any_nil, Bool.or_false]; rw [g63]; simp [aFw, g71])) (bB rfl dZ))) (cK rfl (cK rfl (cK rfl (cK rfl gW)))) ?_ ?_
    ·exact ⟨⟨by omega, by rw [cP hxb, List.map_append, List.map_append]; exact hR17⟩, M17.keep [true, false, false]⟩
    ·(show n - (k + 1) < n - k; omega)
 ·have hkn : k = n := by omega
  rw [List.take_of_length_le (by omega)] at hq
  refine cW (dE (dL (eS (aC (aE (aA (dH rfl rfl ?_)))))))
  refine wq (aH (.bool _) rfl) rfl (eI rfl rfl (wq (aJ (.bool _) rfl) rfl (aB (aC (aO (fY (.slice _ _ _) (.bool _) rfl rfl ?_))))))
  exact ⟨q, sL rfl (congrArg Value.bool (by rw [List.take_of_length_le (by omega)])), hq, hM2⟩
set_option maxHeartbeats 8000000 in
theorem aQx (w : World) (A : Option Addr) (n c : Nat) (xs : List Body) (R : Rd w 10 A n (xs.map aF)) (hb : ∀ b ∈ xs, Okb b) (hs : cU xs) (hn : n ≤ 4096) :
  Calls Tryz.prog 97 #[.slice A n c] w (fun ex w' => ∃ v, ex = .returned v ∧ (fun v w' => ∃ r : Row, v = .tuple #[.slice r.A r.n r.c, .int .i64 ((lL xs).length : Int), .bool (tW xs)] ∧ bC 39 10 r.A r.n r.c ((sE xs).map aF) r.e ∧ Mem w [] [r.e] w') v w') := by
 have hlen : xs.length = n := by simpa using R.len
 have hnn : xs.length * xs.length ≤ 4096 * 4096 := Nat.mul_le_mul (by omega) (by omega)
 have hcl := aFe xs
 have hsq := aTk (xs := xs)
 refine aI #[.tmp 2, .tmp 3, .tmp 4] 43 Tryz.func97 rfl Tryz.results97 Tryz.ntmps97 rfl ?_
 have M0 := Mem.refl w
 refine aE (aA (eI rfl rfl (bH rfl rfl (wq (aJ (.bool false) rfl) rfl (aB (aC (aE (aA (dH rfl rfl ?_)))))))))
 refine bY bKx rfl rfl (aWe _ _ _ _ xs (R.mem M0) hb hs (by first | decide | omega)) ?_
 rintro v1 w1 ⟨r, rfl, hr, hM1⟩
 have M1 : Mem _ _ [_] _ := M0.call0 hM1
 have hrn : (lL xs).length = r.n := by simpa using hr.1
 refine eI rfl rfl (aB (aC (aE (aA (dH rfl rfl (bY bKq rfl rfl (aGr _ A n c xs (R.mem M1) hb (by omega)) ?_))))))
 rintro v2 w2 ⟨g, rfl, hg, hM2⟩
 have M2 : Mem _ _ [_, _] _ := M1.call0 hM2
 have hgn : (pM xs).length = g.n := by simpa using hg.1
 have hgl := (kR xs).len
 refine wq (aH (.tuple (List.toArray _)) rfl) rfl (wq (bN (.slice _ _ _) rfl rfl) rfl (wq (bN (.bool _) rfl rfl) rfl (eI rfl rfl (wq (aJ (.bool _) rfl) rfl (aB (aC (aE (aA ?_))))))))
 refine dH rfl rfl (dH rfl rfl (bY bMp rfl rfl (aMk _ g.A g.n g.c (pM xs) (hg.rd M2 (aZ (i := 1) rfl)) ((kR xs).sorted hs) (xF hb) (by omega) r.A r.n r.c (lL xs) (hr.rd M2 (aZ (i := 0) rfl)) (fun c h => (kR xs).okc (qH hs hb c h)) (by omega)) ?_))
 rintro v3 w3 ⟨⟨sA, sn, sc, se⟩, rfl, hsv, hM3⟩
 have hsn : (lF xs).length = sn := by have h := hsv.1; rwa [List.length_map] at h
 have hlk : Like xs (lF xs) := (kR xs).trans (iX _ _ 4)
 have hsl := hlk.len
 obtain rfl : n = sn := by omega
 have M3 : Mem _ _ [_, _, _] _ := M2.call0 hM3
 refine wq (aH (.tuple (List.toArray _)) rfl) rfl (wq (bN (.slice _ _ _) rfl rfl) rfl (wq (bN (.bool _) rfl rfl) rfl (eI rfl rfl (wq (aJ (.bool _) rfl) rfl (aB (aC (aE (aA ?_))))))))
 refine dH rfl rfl (dH rfl rfl (dH rfl rfl (bY bLj rfl rfl (aJa _ A n c xs (R.mem M3) hs hb (by omega) r.A r.n r.c (lL xs) (hr.rd M3 (aZ (i := 0) rfl)) (qH hs hb) (by omega)) ?_)))
 rintro v4 w4 ⟨⟨qA, qn, qc, qe⟩, rfl, hq, hM4⟩
 have hqn : xs.length = qn := by simpa using hq.1
 obtain rfl : n = qn := by omega
 rw [aFf hlk] at hq
 have M4 : Mem _ _ [_, _, _, _] _ := M3.call0 hM4
 refine bY bOd rfl rfl (aRz _ sA n sc (lF xs) (hsv.rd M4 (aZ (i := 2) rfl)) (qS (xF hb) 4) (by omega) (jR xs (lL xs)) (aTe hs hb (qH hs hb) (by omega) hlk) qA qc (hq.rd M4 (aZ (i := 3) rfl))) ?_
 rintro v5 w5 ⟨m, rfl, hm, hM5⟩
 have M5 : Mem _ _ [_, _, _, _, _] _ := M4.call0 hM5
 refine wq (aH (.tuple (List.toArray _)) rfl) rfl (wq (bN (.slice _ _ _) rfl rfl) rfl (wq (bN (.bool _) rfl rfl) rfl (eI rfl rfl (wq (aJ (.bool _) rfl) rfl (aB (aC (aE (aA ?_))))))))
 refine dH rfl rfl (dH rfl rfl (wq (cZ Tryz.underlying166 rfl) rfl (wq (aH (.bool _) rfl) rfl (wq (aH (.bool _) rfl) rfl ?_))))
 refine jS 37 _ rfl (fun g37 => ?_) (fun g37 => ?_)
 ·refine aN rfl rfl (wq (bQ true (.bool true) rfl rfl) rfl (wq (aH (.bool true) rfl) rfl (aN rfl rfl (wq (bQ true (.bool true) rfl rfl) rfl (eI rfl rfl ?_)))))
  refine bH rfl rfl (wq (aJ (.bool true) rfl) rfl (aB (aC (aO (aZz (.slice _ _ _) (.int _ _) (.bool true) rfl rfl rfl ?_)))))
  exact ⟨m, bKv rfl (iE (by rw [hrn])) (congrArg Value.bool (by rw [aEz]; first | (simp only [g37, Bool.true_or]; done) | (simp only [g37, g40, Bool.false_or, Bool.true_or]; done) | (rw [g37, g40]; rfl))), hm, M5.keep [false, false, false, false, true]⟩
 ·refine wq (aH (.bool _) rfl) rfl (wq (bQ false (.bool _) rfl rfl) rfl (wq (aH (.bool _) rfl) rfl ?_))
  refine jS 40 _ rfl (fun g40 => ?_) (fun g40 => ?_)
  ·refine aN rfl rfl (wq (bQ true (.bool true) rfl rfl) rfl (eI rfl rfl (bH rfl rfl (wq (aJ (.bool true) rfl) rfl (aB (aC (aO ?_)))))))
   refine aZz (.slice _ _ _) (.int _ _) (.bool true) rfl rfl rfl ?_
   exact ⟨m, bKv rfl (iE (by rw [hrn])) (congrArg Value.bool (by rw [aEz]; first | (simp only [g37, Bool.true_or]; done) | (simp only [g37, g40, Bool.false_or, Bool.true_or]; done) | (rw [g37, g40]; rfl))), hm, M5.keep [false, false, false, false, true]⟩
  ·refine wq (aH (.bool _) rfl) rfl (wq (bQ false (.bool _) rfl rfl) rfl (eI rfl rfl (bH rfl rfl (wq (aJ (.bool _) rfl) rfl (aB (aC (aO ?_)))))))
   refine aZz (.slice _ _ _) (.int _ _) (.bool _) rfl rfl rfl ?_
   exact ⟨m, bKv rfl (iE (by rw [hrn])) (congrArg Value.bool (by rw [aEz]; first | (simp only [g37, Bool.true_or]; done) | (simp only [g37, g40, Bool.false_or, Bool.true_or]; done) | (rw [g37, g40]; rfl))), hm, M5.keep [false, false, false, false, true]⟩
end Go.Proofs.YtaoaknafiegfoaaGreatDoor
