/- Part of the proof of the laws of this seat: S20i, S20j, S20k, S20l, S20m, S20n, R20a, R20b, R20c, R20d, R20e, R20f, Aw20, Aw20b, L20. No conditions. -/
import Derived.Test.YtlmcphcgiclanaaGreatDoorK5
import Derived.Test.YtlmcphcgiclanaaGreatDoorK27
import Derived.Test.YtlmcphcgiclanaaGreatDoorK30
import Derived.Test.YtlmcphcgiclanaaGreatDoorK29
import Derived.Test.YtlmcphcgiclanaaGreatDoorK28
import Derived.Test.YtlmcphcgiclanaaGreatDoorK26
import Derived.Test.YtlmcphcgiclanaaGreatDoorK18
import Derived.Test.YtlmcphcgiclanaaGreatDoorK17
import Derived.Test.YtlmcphcgiclanaaGreatDoorK3
set_option linter.unusedVariables false
set_option linter.unusedSimpArgs false
set_option linter.unnecessarySimpa false
namespace Go.Proofs.YtlmcphcgiclanaaGreatDoor
open Go.Bil
open Go.RowKit (Below)
open Go.Proofs
set_option maxHeartbeats 4000000 in
theorem mL (w : World) (a l : Int) (hl : 0 ≤ l ∧ l ≤ 2147483647) (bf : Nat) (fl : Bool) (F : Option Addr) (cf : Nat) (RF : Rd w 1 F 1 [[.pointer (some ⟨bf, 0, none⟩)]]) (hdF : 0 < 1 → ∀ q off, F = some ⟨q, off, none⟩ → q ∉ bU [(some bf, bc [.bool fl] 4)]) (hO : Own [(some bf, bc [.bool fl] 4)] w) :
    Calls Tryz.prog 85 #[.int .i64 a, .int .i64 l, .slice F 1 cf] w (fun ex w' => ∃ v, ex = .returned v ∧ (fun v w' => v = .int .i32 (hP a l) ∧ Mem w (bU [(some bf, bc [.bool fl] 4)]) [(some bf, bc [.bool (fl || decide (hP a l ≠ a))] 4)] w') v w') := by
  have hr := eP a hl.1
  refine aJ #[.tmp 6] 34 Tryz.func85 rfl Tryz.results85 Tryz.ntmps85 rfl ?_
  have M0 := hO.mem
  refine aG (aB ?_)
  refine aA (aD (.int _ _) rfl) rfl rfl ?_
  refine aE (aF (aG (aB ?_)))
  refine aA (aC (.int _ _) rfl) rfl rfl ?_
  refine aA (aC (.int _ _) rfl) rfl rfl ?_
  refine aK aDa rfl rfl rfl ?_
  refine (uC _ a l (by omega)).mono ?_
  rintro _ w1 ⟨v1, rfl, ⟨rfl, hb1⟩⟩
  refine ⟨_, rfl, ?_⟩
  have M1 := M0.callB hb1
  refine aA (aC (.tuple (List.toArray _)) rfl) rfl rfl ?_
  refine aA (bC (.int _ _) rfl rfl) rfl rfl ?_
  refine aA (bC (.bool (decide _)) rfl rfl) rfl rfl ?_
  refine aA (aD (.int _ _) rfl) rfl rfl ?_
  refine aA (aD (.bool (decide _)) rfl) rfl rfl ?_
  refine aE (aF (aG (aG (aB ?_))))
  refine aA (aC (.slice _ _ _) rfl) rfl rfl ?_
  refine aA (cR Tryz.underlying175 rfl) rfl rfl ?_
  refine aM 18 (.int .i64 1) (iE rfl) ?_
  refine aA (aC (.int _ _) rfl) rfl rfl ?_
  refine aE (aF (bA ?_))
  refine mT 2 (mK ?_)
  refine aG (aB ?_)
  refine aA (aO (.bool (decide _)) rfl rfl rfl) rfl rfl ?_
  refine aM 20 (.bool true) (bT (by first | decide | omega)).symm ?_
  refine aE (aF (aG ?_))
  refine dR rfl ?_
  refine aN (aF (aG (bA (aG (aB ?_)))))
  refine aA (bO (0) aFm rfl rfl rfl ((RF.memY M1 hdF).below_len ((show ([[.pointer (some ⟨bf, 0, none⟩)]] : List (List Value))[0]? = some [.pointer (some ⟨bf, 0, none⟩)] from rfl))) ((RF.memY M1 hdF).someK ((show ([[.pointer (some ⟨bf, 0, none⟩)]] : List (List Value))[0]? = some [.pointer (some ⟨bf, 0, none⟩)] from rfl)))) rfl rfl ?_
  refine aA (jM (.pointer _) aTd (RF.memY M1 hdF) ((show ([[.pointer (some ⟨bf, 0, none⟩)]] : List (List Value))[0]? = some [.pointer (some ⟨bf, 0, none⟩)] from rfl)) rfl) rfl rfl ?_
  refine aA (aD (.pointer _) rfl) rfl rfl ?_
  refine aE (aF (aB ?_))
  refine aA (aC (.pointer _) rfl) rfl rfl ?_
  refine aA (aC (.pointer _) rfl) rfl rfl ?_
  refine aA (aV rfl) rfl rfl ?_
  refine aA (aW 0 (.bool _) jU M1 rfl rfl rfl) rfl rfl ?_
  refine aA (aC (.bool _) rfl) rfl rfl ?_
  refine iL 27 _ rfl (fun g27 => ?_) (fun g27 => ?_)
  · refine aT rfl rfl ?_
    refine aA (bL true (.bool true) rfl rfl) rfl rfl ?_
    refine aA (aV rfl) rfl rfl ?_
    refine eC 0 (.bool true) jU M1 rfl rfl rfl rfl rfl rfl (fun w2 M2 => ?_)
    refine aE ?_
    refine dL ?_
    refine aF (aB ?_)
    refine aA (bW rfl rfl (by first | decide | omega) (by first | decide | omega)) rfl rfl ?_
    refine aM 31 (.int .i64 1) (iE (by first | decide | omega)) ?_
    refine aA (aC (.int _ _) rfl) rfl rfl ?_
    refine aE ?_
    refine aF (mK ?_)
    refine aG (aB ?_)
    refine aA (aO (.bool (decide _)) rfl rfl rfl) rfl rfl ?_
    refine aM 20 (.bool false) (bF (by first | decide | omega)).symm ?_
    refine aE (aF (aG ?_))
    refine cJ rfl ?_
    refine cL ?_
    refine dD (dD ?_)
    refine eM ?_
    refine aF (aG (aB ?_))
    refine aA (aC (.int _ _) rfl) rfl rfl ?_
    refine aA (bQ us2 Tryz.underlying21 rfl (jX _ (by omega) (by omega))) rfl rfl ?_
    refine aA (aD (.int _ _) rfl) rfl rfl ?_
    refine aE (aF (aR ?_))
    refine cH (.int _ _) rfl ?_
    first | exact ⟨rfl, by rw [(by simp only [g27, Bool.true_or] : (fl || decide (hP a l ≠ a)) = true)]; exact M2⟩ | exact ⟨rfl, by rw [(by simp only [g27, Bool.false_or] : (fl || decide (hP a l ≠ a)) = decide (hP a l ≠ a))]; exact M2⟩
  · refine aA (aC (.bool (decide _)) rfl) rfl rfl ?_
    refine aA (bL false (.bool (decide _)) rfl rfl) rfl rfl ?_
    refine aA (aV rfl) rfl rfl ?_
    refine eC 0 (.bool (decide _)) jU M1 rfl rfl rfl rfl rfl rfl (fun w3 M3 => ?_)
    refine aE ?_
    refine dL ?_
    refine aF (aB ?_)
    refine aA (bW rfl rfl (by first | decide | omega) (by first | decide | omega)) rfl rfl ?_
    refine aM 31 (.int .i64 1) (iE (by first | decide | omega)) ?_
    refine aA (aC (.int _ _) rfl) rfl rfl ?_
    refine aE ?_
    refine aF (mK ?_)
    refine aG (aB ?_)
    refine aA (aO (.bool (decide _)) rfl rfl rfl) rfl rfl ?_
    refine aM 20 (.bool false) (bF (by first | decide | omega)).symm ?_
    refine aE (aF (aG ?_))
    refine cJ rfl ?_
    refine cL ?_
    refine dD (dD ?_)
    refine eM ?_
    refine aF (aG (aB ?_))
    refine aA (aC (.int _ _) rfl) rfl rfl ?_
    refine aA (bQ us2 Tryz.underlying21 rfl (jX _ (by omega) (by omega))) rfl rfl ?_
    refine aA (aD (.int _ _) rfl) rfl rfl ?_
    refine aE (aF (aR ?_))
    refine cH (.int _ _) rfl ?_
    first | exact ⟨rfl, by rw [(by simp only [g27, Bool.true_or] : (fl || decide (hP a l ≠ a)) = true)]; exact M3⟩ | exact ⟨rfl, by rw [(by simp only [g27, Bool.false_or] : (fl || decide (hP a l ≠ a)) = decide (hP a l ≠ a))]; exact M3⟩
set_option maxHeartbeats 4000000 in
theorem aGp (w : World) (i : Int) (b : Body) (hb : Okb b) (bf : Nat) (fl : Bool) (hO : Own [(some bf, bc [.bool fl] 4)] w) :
    Calls Tryz.prog 83 #[.int .i64 i, (.agg (aI b).toArray), .pointer (some ⟨bf, 0, none⟩)] w (fun ex w' => ∃ v, ex = .returned v ∧ (fun v w' => v = (.agg (aI (iM b)).toArray) ∧ Mem w (bU [(some bf, bc [.bool fl] 4)]) [(some bf, bc [.bool (fl || mR b)] 4)] w') v w') := by
  have hv := hb.v
  refine aJ #[.cell 5 40] 19 Tryz.func83 rfl Tryz.results83 Tryz.ntmps83 rfl ?_
  have M0 := hO.mem
  refine aG (aB ?_)
  refine bK (.agg (List.toArray _)) M0 rfl rfl rfl (fun b1 w1 M1 => ?_)
  refine aS lU M1 rfl rfl (fun b2 w2 M2 => ?_)
  refine aE (aF (aG (aG (aB ?_))))
  refine aA (bB 1 bX M2 rfl rfl rfl) rfl rfl ?_
  refine aK aWk rfl rfl rfl ?_
  refine (vZ _ b).mono ?_
  rintro _ w3 ⟨v3, rfl, ⟨rfl, hb3⟩⟩
  refine ⟨_, rfl, ?_⟩
  have M3 := M2.callB hb3
  refine aA (oD rfl) rfl rfl ?_
  refine aE (aF ?_)
  refine aZ rfl (fun h8 => ?_) (fun h8 => ?_)
  · refine aB ?_
    refine aA (aH 8 eO rfl) rfl rfl ?_
    refine aA (aH 1 dI rfl) rfl rfl ?_
    refine aA (aW 1 (.int _ _) bH M3 rfl rfl rfl) rfl rfl ?_
    refine aA (bQ fT Tryz.underlying2 rfl (jT _ (by omega) (by omega))) rfl rfl ?_
    refine aA (mY rfl rfl (by omega) (by omega)) rfl rfl ?_
    refine cM [.pointer _] [[.pointer (some ⟨bf, 0, none⟩)]] rfl aFm M3 rfl rfl rfl rfl (cW rfl) (by decide) (fun b4 w4 M4 => ?_)
    have hlit14 := gW (T := 133) (sz := 1) (b := b4) (nn := 1) [[.pointer (some ⟨bf, 0, none⟩)]] (by simp) rfl (by decide)
    refine aK aNs rfl rfl rfl ?_
    refine (mL _ (b.vy - 1024) 16777216 ⟨by decide, by decide⟩ bf _ _ 1 (hlit14.rd M4 (aP (i := 3) rfl)) (hlit14.awayB M4 3 0 rfl rfl rfl) (M4.ownSeg 0 1)).mono ?_
    rintro _ w5 ⟨v5, rfl, ⟨rfl, hM5⟩⟩
    refine ⟨_, rfl, ?_⟩
    have M5 : Mem _ _ [_, _, _, _] _ := M4.seg 0 1 hM5
    refine aA (aH 8 eO rfl) rfl rfl ?_
    refine aA (aH 1 dI rfl) rfl rfl ?_
    refine eC 1 (.int _ _) bH M5 rfl rfl rfl rfl rfl rfl (fun w6 M6 => ?_)
    refine aE (aF (aG (aB ?_)))
    refine aA (bB 1 bX M6 rfl rfl rfl) rfl rfl ?_
    refine bJ 2 _ bX M6 rfl rfl rfl rfl rfl (aU rfl) rfl (fun w7 M7 => ?_)
    refine aE (aF (aR ?_))
    refine kG 2 bX M7 rfl rfl rfl ?_
    exact ⟨by unfold iM; rw [if_neg h8]; rfl, by rw [show mR b = decide (hP (b.vy - 1024) 16777216 ≠ b.vy - 1024) by unfold mR; rw [decide_eq_true h8, Bool.true_and]]; exact M7.keep [true, false, false, false]⟩
  · refine aN (aF (aG (aB ?_)))
    refine aA (bB 1 bX M3 rfl rfl rfl) rfl rfl ?_
    refine bJ 2 _ bX M3 rfl rfl rfl rfl rfl (aU rfl) rfl (fun w8 M8 => ?_)
    refine aE (aF (aR ?_))
    refine kG 2 bX M8 rfl rfl rfl ?_
    exact ⟨by unfold iM; rw [if_pos (Decidable.not_not.1 h8)]; rfl, by rw [show mR b = false by unfold mR; rw [decide_eq_false h8, Bool.false_and], Bool.or_false]; exact M8.keep [true, false, false]⟩
set_option maxHeartbeats 4000000 in
theorem aEn (w : World) (A : Option Addr) (n c : Nat) (xs : List Body) (R : Rd w 10 A n (xs.map aI)) (hb : ∀ b ∈ xs, Okb b) (hn : n ≤ 1048576) (bf : Nat) (hO : Own [(some bf, bc [.bool false] 4)] w) (hdA : 0 < n → ∀ q off, A = some ⟨q, off, none⟩ → q ∉ bU [(some bf, bc [.bool false] 4)]) :
    Calls Tryz.prog 82 #[.slice A n c, .func (.func 83) #[] #[.pointer (some ⟨bf, 0, none⟩)]] w (fun ex w' => ∃ v, ex = .returned v ∧ (fun v w' => ∃ r : Row, v = .slice r.A r.n r.c ∧ aY 40 10 r.A r.n r.c ((nZ xs).map aI) r.e ∧ Mem w (bU [(some bf, bc [.bool false] 4)]) [(some bf, bc [.bool (xs.any mR)] 4), r.e] w') v w') := by
  have hlen : xs.length = n := by simpa using R.len
  have hbd := R.bound
  refine aJ #[.tmp 4] 24 Tryz.func82 rfl Tryz.results82 Tryz.ntmps82 rfl ?_
  have M0 := hO.mem
  refine aG (aB ?_)
  refine aA (aD (.slice _ _ _) rfl) rfl rfl ?_
  refine aE (aF (aG (aB ?_)))
  refine aA (aD (.slice _ _ _) rfl) rfl rfl ?_
  have M1 := M0.dummy default
  refine aE (aF (aG (aG (aB ?_))))
  refine aA (aC (.slice _ _ _) rfl) rfl rfl ?_
  refine aA (cR Tryz.underlying22 rfl) rfl rfl ?_
  refine aA (aC (.int _ _) rfl) rfl rfl ?_
  refine aE (aF (bA ?_))
  refine dJ (σ := Nat × Row) [1, 4, 8, 9] (fun (k, q) => [(5, .slice q.A q.n q.c), (10, .int .i64 (k : Int))]) (fun (k, q) w' => (k ≤ n ∧ aY 40 10 q.A q.n q.c (((xs.take k).map iM).map aI) q.e) ∧ Mem w (bU [(some bf, bc [.bool false] 4)]) [(some bf, bc [.bool ((xs.take k).any mR)] 4), q.e] w') (fun (k, q) => n - k) (0, gJ) (bV rfl (bV rfl eX)) (⟨⟨by omega, aY.nil _ _ _⟩, M1⟩) ?_
  rintro ⟨k, q⟩ ρ2 w2 ⟨⟨hk, hq⟩, hM2⟩
  have htl := List.length_take_le k xs
  have hqn : (xs.take k).length = q.n := by simpa using hq.1
  refine aG (aB ?_)
  refine aA (aO (.bool (decide _)) rfl rfl rfl) rfl rfl ?_
  refine aE (aF (aG ?_))
  refine aZ rfl (fun h11 => ?_) (fun h11 => ?_)
  · obtain ⟨xb, hxb⟩ := cN (xs := xs) (k := k) hlen (by omega)
    refine aN (aF (aG (bA (aG (aB ?_)))))
    refine aA (aC (.int _ _) rfl) rfl rfl ?_
    refine aA (bO (k) dG rfl rfl rfl ((R.memY hM2 hdA).below_len (aL aI hxb)) ((R.memY hM2 hdA).someK (aL aI hxb))) rfl rfl ?_
    refine aA (dK _ bX (R.memY hM2 hdA) (aL aI hxb) rfl) rfl rfl ?_
    refine aS lU hM2 rfl rfl (fun b3 w3 M3 => ?_)
    refine aA (aD (.int _ _) rfl) rfl rfl ?_
    refine bJ 2 _ bX M3 rfl rfl rfl rfl rfl (aU rfl) rfl (fun w4 M4 => ?_)
    refine aE (aF (aB ?_))
    refine aA (aC (.slice _ _ _) rfl) rfl rfl ?_
    refine aA (aC (.func _ _ _) rfl) rfl rfl ?_
    refine aA (aC (.int _ _) rfl) rfl rfl ?_
    refine aA (bB 2 bX M4 rfl rfl rfl) rfl rfl ?_
    refine aK aVx rfl rfl rfl ?_
    refine (aGp _ _ xb (hb xb (List.mem_of_getElem? hxb)) bf _ (M4.ownSeg 0 1)).mono ?_
    rintro _ w5 ⟨v5, rfl, ⟨rfl, hM5⟩⟩
    refine ⟨_, rfl, ?_⟩
    have M5 : Mem _ _ [_, _, _] _ := M4.seg 0 1 hM5
    refine cM [.agg (List.toArray _)] [aI (iM xb)] rfl dG M5 rfl rfl rfl rfl (cW rfl) (by decide) (fun b6 w6 M6 => ?_)
    refine dO 1 [aI (iM xb)] dG M6 rfl rfl rfl rfl rfl hq rfl (by simp [aI, Go.Bil.one]) (cO.ofMem 3 M6 rfl) (by omega) (fun A7 c7 e7 w7 M7 hR7 => ?_)
    refine aA (aD (.slice _ _ _) rfl) rfl rfl ?_
    refine aE ?_
    refine dL ?_
    refine aF (aB ?_)
    refine aA (bW rfl rfl (by omega) (by omega)) rfl rfl ?_
    refine aA (aC (.int _ _) rfl) rfl rfl ?_
    refine aE ?_
    refine cE (k + 1, ⟨A7, q.n + 1, c7, e7⟩) (bV rfl (bV rfl eX)) (cI rfl (cI rfl (cI rfl (cI rfl iO)))) ?_ ?_
    · exact ⟨⟨by omega, by rw [cK hxb, List.map_append, List.map_append]; exact hR7⟩, by rw [cK hxb, List.any_append, List.any_cons, List.any_nil, Bool.or_false]; exact M7.keep [true, true, false, false]⟩
    · (show n - (k + 1) < n - k; omega)
  · have hkn : k = n := by omega
    rw [List.take_of_length_le (by omega)] at hq
    rw [List.take_of_length_le (by omega)] at hM2
    refine cL ?_
    refine dD ?_
    refine cY ?_
    refine eM ?_
    refine aF (aG (aB ?_))
    refine aA (aC (.slice _ _ _) rfl) rfl rfl ?_
    refine aA (aD (.slice _ _ _) rfl) rfl rfl ?_
    refine aE (aF (aR ?_))
    refine cH (.slice _ _ _) rfl ?_
    exact ⟨q, rfl, hq, hM2⟩
set_option maxHeartbeats 4000000 in
theorem rB (w : World) (A : Option Addr) (n c : Nat) (xs : List Body) (R : Rd w 10 A n (xs.map aI)) (hb : ∀ b ∈ xs, Okb b) (hn : n ≤ 1048576) :
    Calls Tryz.prog 53 #[.slice A n c] w (fun ex w' => ∃ v, ex = .returned v ∧ (fun v w' => ∃ r : Row, v = .tuple #[.slice r.A r.n r.c, .bool (xs.any mR)] ∧ aY 40 10 r.A r.n r.c ((nZ xs).map aI) r.e ∧ Mem w [] [r.e] w') v w') := by
  refine aJ #[.tmp 2, .tmp 3] 11 Tryz.func53 rfl Tryz.results53 Tryz.ntmps53 rfl ?_
  have M0 := Mem.refl w
  refine aG (aB ?_)
  refine aA (aD (.slice _ _ _) rfl) rfl rfl ?_
  refine aA (aD (.bool false) rfl) rfl rfl ?_
  refine aE (aF (aG (aB ?_)))
  refine aS aNr M0 rfl rfl (fun b1 w1 M1 => ?_)
  refine eC 0 (.bool false) jU M1 rfl rfl rfl rfl rfl rfl (fun w2 M2 => ?_)
  refine aE (aF (aG (aB ?_)))
  refine aA (aC (.slice _ _ _) rfl) rfl rfl ?_
  refine aA (dC [] [.pointer _] rfl rfl) rfl rfl ?_
  refine aK aRm rfl rfl rfl ?_
  refine (aEn _ A n c xs (R.mem M2) hb hn b1 (M2.ownSeg 0 1) (M2.away 0 1 R (by simp))).mono ?_
  rintro _ w3 ⟨v3, rfl, ⟨r, rfl, hr, hM3⟩⟩
  refine ⟨_, rfl, ?_⟩
  have M3 : Mem _ _ [_, _] _ := M2.seg 0 1 hM3
  refine aA (aD (.slice _ _ _) rfl) rfl rfl ?_
  refine aE (aF (aG ?_))
  refine bZ [(0, 0), (1, 1), (2, 0), (3, 0)] mixed rfl (by kernel_rfl) (fun w4 hb4 hh4 => ?_)
  have M4 := M3.drew hb4 hh4
  refine aX rfl rfl rfl (fun _ => aC (.slice _ _ _) rfl) ?_
  refine cC rfl rfl rfl (aW 0 (.bool _) jU M4 rfl rfl rfl) ?_
  refine aX rfl rfl rfl (fun _ => aD (.slice _ _ _) rfl) ?_
  refine aX rfl rfl rfl (fun _ => aD (.bool _) rfl) ?_
  refine cF ?_
  refine aF (aR ?_)
  refine fI (.slice _ _ _) (.bool _) rfl rfl ?_
  exact ⟨r, rfl, hr, M4.keep [false, true]⟩
end Go.Proofs.YtlmcphcgiclanaaGreatDoor

namespace Go.Proofs.YtlmcphcgiclanaaGreatDoor
open Go.Bil
open Go.RowKit (Below)
open Go.Proofs
set_option maxHeartbeats 4000000 in
theorem aIa (w : World) (i : Nat) (b : Body) (hb : Okb b) (bf bl : Nat) (fl : Bool) (C : Option Addr) (m cm : Nat) (l : List (Int × Int)) (RS : Rd w 2 C m (l.map bP)) (s : Int × Int) (hs : l[i]? = some s) (hsb : (-1152921504606846976 ≤ s.1 ∧ s.1 ≤ 1152921504606846976) ∧ -1152921504606846976 ≤ s.2 ∧ s.2 ≤ 1152921504606846976) (hO : Own [(some bf, bc [.bool fl] 4), (some bl, bc [.slice C m cm] 97)] w) (hdS : 0 < m → ∀ q off, C = some ⟨q, off, none⟩ → q ∉ bU [(some bf, bc [.bool fl] 4), (some bl, bc [.slice C m cm] 97)]) :
    Calls Tryz.prog 86 #[.int .i64 (i : Int), (.agg (aI b).toArray), .pointer (some ⟨bl, 0, none⟩), .pointer (some ⟨bf, 0, none⟩)] w (fun ex w' => ∃ v, ex = .returned v ∧ (fun v w' => v = (.agg (aI (qL b s.1 s.2)).toArray) ∧ Mem w (bU [(some bf, bc [.bool fl] 4), (some bl, bc [.slice C m cm] 97)]) [(some bf, bc [.bool (fl || aHu b s.1 s.2)] 4), (some bl, bc [.slice C m cm] 97)] w') v w') := by
  have hv := hb.v
  have hpp := hb.p
  have hlm : l.length = m := by simpa using RS.len
  have hil := (List.getElem?_eq_some_iff.1 hs).1
  refine aJ #[.cell 6 40] 50 Tryz.func86 rfl Tryz.results86 Tryz.ntmps86 rfl ?_
  have M0 := hO.mem
  refine aG (aB ?_)
  refine bK (.agg (List.toArray _)) M0 rfl rfl rfl (fun b1 w1 M1 => ?_)
  refine aS lU M1 rfl rfl (fun b2 w2 M2 => ?_)
  refine aE (aF (aG ?_))
  refine bZ [(0, 0), (1, 0), (2, 1), (3, 0), (4, 1), (5, 0), (6, 1), (7, 1), (8, 1), (9, 0), (10, 0), (11, 0), (12, 1), (13, 0), (14, 0), (15, 0), (16, 0)] mixed rfl (by kernel_rfl) (fun w3 hb3 hh3 => ?_)
  have M3 := M2.drew hb3 hh3
  refine aX rfl rfl rfl (fun _ => aH 6 fC rfl) ?_
  refine aX rfl rfl rfl (fun _ => aH 0 dQ rfl) ?_
  refine cC rfl rfl rfl (aW 2 (.int _ _) bH M3 rfl rfl rfl) ?_
  refine aX rfl rfl rfl (fun _ => bQ fT Tryz.underlying2 rfl (jT _ (by omega) (by omega))) ?_
  refine cC rfl rfl rfl (aW 1 (.slice _ _ _) wO M3 rfl rfl rfl) ?_
  refine aX rfl rfl rfl (fun _ => aC (.int _ _) rfl) ?_
  refine cC rfl rfl rfl (bO (i) aAe rfl rfl rfl ((RS.memY M3 hdS).below_len (aL bP hs)) ((RS.memY M3 hdS).someK (aL bP hs))) ?_
  refine cC rfl rfl rfl (bR 0 tT (RS.memY M3 hdS) (Nat.lt_of_le_of_lt (Nat.zero_le _) ((RS.memY M3 hdS).below_len (aL bP hs))) rfl) ?_
  refine cC rfl rfl rfl (eV (o := 0) (.int _ _) jL (RS.memY M3 hdS) (aL bP hs) rfl rfl) ?_
  refine aX rfl rfl rfl (fun _ => bW rfl rfl (by omega) (by omega)) ?_
  refine aX rfl rfl rfl (fun _ => aH 8 eO rfl) ?_
  refine aX rfl rfl rfl (fun _ => aH 0 dQ rfl) ?_
  refine cC rfl rfl rfl (aW 2 (.int _ _) bH M3 rfl rfl rfl) ?_
  refine aX rfl rfl rfl (fun _ => gO rfl rfl (by decide)) ?_
  refine nS 22 (.int .i32 (b.vx / 64)) (iE (aAc _)) ?_
  refine aX rfl rfl rfl (fun _ => bQ fT Tryz.underlying2 rfl (jT _ (by omega) (by omega))) ?_
  refine aX rfl rfl rfl (fun _ => bW rfl rfl (by omega) (by omega)) ?_
  refine nS 24 (.int .i64 (aCp b s.1)) rfl ?_
  refine aX rfl rfl rfl (fun _ => aD (.int _ _) rfl) ?_
  refine cF ?_
  refine aF (aG ?_)
  refine bZ [(0, 0), (1, 0), (2, 1), (3, 0), (4, 1), (5, 0), (6, 1), (7, 1), (8, 1), (9, 0), (10, 0), (11, 0), (12, 1), (13, 0), (14, 0), (15, 0), (16, 0)] mixed rfl (by kernel_rfl) (fun w4 hb4 hh4 => ?_)
  have M4 := M3.drew hb4 hh4
  refine aX rfl rfl rfl (fun _ => aH 6 fC rfl) ?_
  refine aX rfl rfl rfl (fun _ => aH 1 dI rfl) ?_
  refine cC rfl rfl rfl (aW 2 (.int _ _) bH M4 rfl rfl rfl) ?_
  refine aX rfl rfl rfl (fun _ => bQ fT Tryz.underlying2 rfl (jT _ (by omega) (by omega))) ?_
  refine cC rfl rfl rfl (aW 1 (.slice _ _ _) wO M4 rfl rfl rfl) ?_
  refine aX rfl rfl rfl (fun _ => aC (.int _ _) rfl) ?_
  refine cC rfl rfl rfl (bO (i) aAe rfl rfl rfl ((RS.memY M4 hdS).below_len (aL bP hs)) ((RS.memY M4 hdS).someK (aL bP hs))) ?_
  refine cC rfl rfl rfl (bR 1 tH (RS.memY M4 hdS) (Nat.lt_of_le_of_lt (Nat.zero_le _) ((RS.memY M4 hdS).below_len (aL bP hs))) rfl) ?_
  refine cC rfl rfl rfl (eV (o := 1) (.int _ _) jL (RS.memY M4 hdS) (aL bP hs) rfl rfl) ?_
  refine aX rfl rfl rfl (fun _ => bW rfl rfl (by omega) (by omega)) ?_
  refine aX rfl rfl rfl (fun _ => aH 8 eO rfl) ?_
  refine aX rfl rfl rfl (fun _ => aH 1 dI rfl) ?_
  refine cC rfl rfl rfl (aW 2 (.int _ _) bH M4 rfl rfl rfl) ?_
  refine aX rfl rfl rfl (fun _ => gO rfl rfl (by decide)) ?_
  refine nS 38 (.int .i32 (b.vy / 64)) (iE (aAc _)) ?_
  refine aX rfl rfl rfl (fun _ => bQ fT Tryz.underlying2 rfl (jT _ (by omega) (by omega))) ?_
  refine aX rfl rfl rfl (fun _ => bW rfl rfl (by omega) (by omega)) ?_
  refine nS 40 (.int .i64 (aEf b s.2)) rfl ?_
  refine aX rfl rfl rfl (fun _ => aD (.int _ _) rfl) ?_
  refine cF ?_
  refine aF (aG (aB ?_))
  refine aA (aC (.int _ _) rfl) rfl rfl ?_
  refine cM [.pointer _] [[.pointer (some ⟨bf, 0, none⟩)]] rfl aFm M4 rfl rfl rfl rfl (cW rfl) (by decide) (fun b5 w5 M5 => ?_)
  have hlit42 := gW (T := 133) (sz := 1) (b := b5) (nn := 1) [[.pointer (some ⟨bf, 0, none⟩)]] (by simp) rfl (by decide)
  refine aK aNs rfl rfl rfl ?_
  refine (mL _ (aCp b s.1) 1073741824 ⟨by decide, by decide⟩ bf _ _ 1 (hlit42.rd M5 (aP (i := 4) rfl)) (hlit42.awayB M5 4 0 rfl rfl rfl) (M5.ownSeg 0 1)).mono ?_
  rintro _ w6 ⟨v6, rfl, ⟨rfl, hM6⟩⟩
  refine ⟨_, rfl, ?_⟩
  have M6 : Mem _ _ [_, _, _, _, _] _ := M5.seg 0 1 hM6
  refine aA (aC (.int _ _) rfl) rfl rfl ?_
  refine cM [.pointer _] [[.pointer (some ⟨bf, 0, none⟩)]] rfl aFm M6 rfl rfl rfl rfl (cW rfl) (by decide) (fun b7 w7 M7 => ?_)
  have hlit45 := gW (T := 133) (sz := 1) (b := b7) (nn := 1) [[.pointer (some ⟨bf, 0, none⟩)]] (by simp) rfl (by decide)
  refine aK aNs rfl rfl rfl ?_
  refine (mL _ (aEf b s.2) 1073741824 ⟨by decide, by decide⟩ bf _ _ 1 (hlit45.rd M7 (aP (i := 5) rfl)) (hlit45.awayB M7 5 0 rfl rfl rfl) (M7.ownSeg 0 1)).mono ?_
  rintro _ w8 ⟨v8, rfl, ⟨rfl, hM8⟩⟩
  refine ⟨_, rfl, ?_⟩
  have M8 : Mem _ _ [_, _, _, _, _, _] _ := M7.seg 0 1 hM8
  refine aA (cB [(0, .int _ _), (1, .int _ _)] _ dZ rfl rfl) rfl rfl ?_
  refine aA (aH 6 fC rfl) rfl rfl ?_
  refine yX 2 _ bI M8 rfl rfl rfl rfl rfl (aU rfl) (Nat.le_of_ble_eq_true rfl) (fun w9 M9 => ?_)
  refine aE (aF (aG (aB ?_)))
  refine aA (bB 2 bX M9 rfl rfl rfl) rfl rfl ?_
  refine bJ 3 _ bX M9 rfl rfl rfl rfl rfl (aU rfl) rfl (fun w10 M10 => ?_)
  refine aE (aF (aR ?_))
  refine kG 3 bX M10 rfl rfl rfl ?_
  exact ⟨rfl, by rw [show (fl || aHu b s.1 s.2) = ((fl || decide (hP (aCp b s.1) 1073741824 ≠ aCp b s.1)) || decide (hP (aEf b s.2) 1073741824 ≠ aEf b s.2)) from (Bool.or_assoc _ _ _).symm]; exact M10.keep [true, true, false, false, false, false]⟩
end Go.Proofs.YtlmcphcgiclanaaGreatDoor

namespace Go.Proofs.YtlmcphcgiclanaaGreatDoor
open Go.Bil
open Go.RowKit (Below)
open Go.Proofs
set_option maxHeartbeats 4000000 in
theorem aDw (w : World) (A : Option Addr) (n c : Nat) (xs : List Body) (R : Rd w 10 A n (xs.map aI)) (hb : ∀ b ∈ xs, Okb b) (hn : n ≤ 1048576) (bf bl : Nat) (G : Body → Int × Int) (hG : ∀ b ∈ xs, (-1152921504606846976 ≤ (G b).1 ∧ (G b).1 ≤ 1152921504606846976) ∧ -1152921504606846976 ≤ (G b).2 ∧ (G b).2 ≤ 1152921504606846976) (C : Option Addr) (cm : Nat) (RS : Rd w 2 C n ((xs.map G).map bP)) (hO : Own [(some bf, bc [.bool false] 4), (some bl, bc [.slice C n cm] 97)] w) (hdA : 0 < n → ∀ q off, A = some ⟨q, off, none⟩ → q ∉ bU [(some bf, bc [.bool false] 4), (some bl, bc [.slice C n cm] 97)]) (hdS : 0 < n → ∀ q off, C = some ⟨q, off, none⟩ → q ∉ bU [(some bf, bc [.bool false] 4), (some bl, bc [.slice C n cm] 97)]) :
    Calls Tryz.prog 82 #[.slice A n c, .func (.func 86) #[] #[.pointer (some ⟨bl, 0, none⟩), .pointer (some ⟨bf, 0, none⟩)]] w (fun ex w' => ∃ v, ex = .returned v ∧ (fun v w' => ∃ r : Row, v = .slice r.A r.n r.c ∧ aY 40 10 r.A r.n r.c ((xs.map (fun b => qL b (G b).1 (G b).2)).map aI) r.e ∧ Mem w (bU [(some bf, bc [.bool false] 4), (some bl, bc [.slice C n cm] 97)]) [(some bf, bc [.bool (xs.any (fun b => aHu b (G b).1 (G b).2))] 4), (some bl, bc [.slice C n cm] 97), r.e] w') v w') := by
  have hlen : xs.length = n := by simpa using R.len
  have hbd := R.bound
  refine aJ #[.tmp 4] 24 Tryz.func82 rfl Tryz.results82 Tryz.ntmps82 rfl ?_
  have M0 := hO.mem
  refine aG (aB ?_)
  refine aA (aD (.slice _ _ _) rfl) rfl rfl ?_
  refine aE (aF (aG (aB ?_)))
  refine aA (aD (.slice _ _ _) rfl) rfl rfl ?_
  have M1 := M0.dummy default
  refine aE (aF (aG (aG (aB ?_))))
  refine aA (aC (.slice _ _ _) rfl) rfl rfl ?_
  refine aA (cR Tryz.underlying22 rfl) rfl rfl ?_
  refine aA (aC (.int _ _) rfl) rfl rfl ?_
  refine aE (aF (bA ?_))
  refine dJ (σ := Nat × Row) [1, 4, 8, 9] (fun (k, q) => [(5, .slice q.A q.n q.c), (10, .int .i64 (k : Int))]) (fun (k, q) w' => (k ≤ n ∧ aY 40 10 q.A q.n q.c (((xs.take k).map (fun b => qL b (G b).1 (G b).2)).map aI) q.e) ∧ Mem w (bU [(some bf, bc [.bool false] 4), (some bl, bc [.slice C n cm] 97)]) [(some bf, bc [.bool ((xs.take k).any (fun b => aHu b (G b).1 (G b).2))] 4), (some bl, bc [.slice C n cm] 97), q.e] w') (fun (k, q) => n - k) (0, gJ) (bV rfl (bV rfl eX)) (⟨⟨by omega, aY.nil _ _ _⟩, M1⟩) ?_
  rintro ⟨k, q⟩ ρ2 w2 ⟨⟨hk, hq⟩, hM2⟩
  have htl := List.length_take_le k xs
  have hqn : (xs.take k).length = q.n := by simpa using hq.1
  refine aG (aB ?_)
  refine aA (aO (.bool (decide _)) rfl rfl rfl) rfl rfl ?_
  refine aE (aF (aG ?_))
  refine aZ rfl (fun h11 => ?_) (fun h11 => ?_)
  · obtain ⟨xb, hxb⟩ := cN (xs := xs) (k := k) hlen (by omega)
    refine aN (aF (aG (bA (aG (aB ?_)))))
    refine aA (aC (.int _ _) rfl) rfl rfl ?_
    refine aA (bO (k) dG rfl rfl rfl ((R.memY hM2 hdA).below_len (aL aI hxb)) ((R.memY hM2 hdA).someK (aL aI hxb))) rfl rfl ?_
    refine aA (dK _ bX (R.memY hM2 hdA) (aL aI hxb) rfl) rfl rfl ?_
    refine aS lU hM2 rfl rfl (fun b3 w3 M3 => ?_)
    refine aA (aD (.int _ _) rfl) rfl rfl ?_
    refine bJ 3 _ bX M3 rfl rfl rfl rfl rfl (aU rfl) rfl (fun w4 M4 => ?_)
    refine aE (aF (aB ?_))
    refine aA (aC (.slice _ _ _) rfl) rfl rfl ?_
    refine aA (aC (.func _ _ _) rfl) rfl rfl ?_
    refine aA (aC (.int _ _) rfl) rfl rfl ?_
    refine aA (bB 3 bX M4 rfl rfl rfl) rfl rfl ?_
    refine aK aVt rfl rfl rfl ?_
    refine (aIa _ k xb (hb xb (List.mem_of_getElem? hxb)) bf bl _ C n cm (xs.map G) (RS.memY M4 hdS) (G xb) (aL G hxb) (hG xb (List.mem_of_getElem? hxb)) (M4.ownSeg 0 2) (M4.away 0 2 RS hdS)).mono ?_
    rintro _ w5 ⟨v5, rfl, ⟨rfl, hM5⟩⟩
    refine ⟨_, rfl, ?_⟩
    have M5 : Mem _ _ [_, _, _, _] _ := M4.seg 0 2 hM5
    refine cM [.agg (List.toArray _)] [aI (qL xb (G xb).1 (G xb).2)] rfl dG M5 rfl rfl rfl rfl (cW rfl) (by decide) (fun b6 w6 M6 => ?_)
    refine dO 2 [aI (qL xb (G xb).1 (G xb).2)] dG M6 rfl rfl rfl rfl rfl hq rfl (by simp [aI, Go.Bil.one]) (cO.ofMem 4 M6 rfl) (by omega) (fun A7 c7 e7 w7 M7 hR7 => ?_)
    refine aA (aD (.slice _ _ _) rfl) rfl rfl ?_
    refine aE ?_
    refine dL ?_
    refine aF (aB ?_)
    refine aA (bW rfl rfl (by omega) (by omega)) rfl rfl ?_
    refine aA (aC (.int _ _) rfl) rfl rfl ?_
    refine aE ?_
    refine cE (k + 1, ⟨A7, q.n + 1, c7, e7⟩) (bV rfl (bV rfl eX)) (cI rfl (cI rfl (cI rfl (cI rfl iO)))) ?_ ?_
    · exact ⟨⟨by omega, by rw [cK hxb, List.map_append, List.map_append]; exact hR7⟩, by rw [cK hxb, List.any_append, List.any_cons, List.any_nil, Bool.or_false]; exact M7.keep [true, true, true, false, false]⟩
    · (show n - (k + 1) < n - k; omega)
  · have hkn : k = n := by omega
    rw [List.take_of_length_le (by omega)] at hq
    rw [List.take_of_length_le (by omega)] at hM2
    refine cL ?_
    refine dD ?_
    refine cY ?_
    refine eM ?_
    refine aF (aG (aB ?_))
    refine aA (aC (.slice _ _ _) rfl) rfl rfl ?_
    refine aA (aD (.slice _ _ _) rfl) rfl rfl ?_
    refine aE (aF (aR ?_))
    refine cH (.slice _ _ _) rfl ?_
    exact ⟨q, rfl, hq, hM2⟩
set_option maxHeartbeats 4000000 in
theorem aCc (w : World) (A : Option Addr) (n c : Nat) (xs : List Body) (R : Rd w 10 A n (xs.map aI)) (hb : ∀ b ∈ xs, Okb b) (hn : n ≤ 1048576) (G : Body → Int × Int) (hG : ∀ b ∈ xs, (-1152921504606846976 ≤ (G b).1 ∧ (G b).1 ≤ 1152921504606846976) ∧ -1152921504606846976 ≤ (G b).2 ∧ (G b).2 ≤ 1152921504606846976) (C : Option Addr) (cm : Nat) (RS : Rd w 2 C n ((xs.map G).map bP)) :
    Calls Tryz.prog 54 #[.slice A n c, .slice C n cm] w (fun ex w' => ∃ v, ex = .returned v ∧ (fun v w' => ∃ r : Row, v = .tuple #[.slice r.A r.n r.c, .bool (xs.any (fun b => aHu b (G b).1 (G b).2))] ∧ aY 40 10 r.A r.n r.c ((xs.map (fun b => qL b (G b).1 (G b).2)).map aI) r.e ∧ Mem w [] [r.e] w') v w') := by
  refine aJ #[.tmp 4, .tmp 5] 13 Tryz.func54 rfl Tryz.results54 Tryz.ntmps54 rfl ?_
  have M0 := Mem.refl w
  refine aG (aB ?_)
  refine bK (.slice _ _ _) M0 rfl rfl rfl (fun b1 w1 M1 => ?_)
  refine aA (aD (.slice _ _ _) rfl) rfl rfl ?_
  refine aA (aD (.bool false) rfl) rfl rfl ?_
  refine aE (aF (aG (aB ?_)))
  refine aS aNr M1 rfl rfl (fun b2 w2 M2 => ?_)
  refine eC 1 (.bool false) jU M2 rfl rfl rfl rfl rfl rfl (fun w3 M3 => ?_)
  refine aE (aF (aG (aB ?_)))
  have M4 : Mem _ _ [_, _] _ := Mem.swap2 M3
  refine aA (aC (.slice _ _ _) rfl) rfl rfl ?_
  refine aA (dC [] [.pointer _, .pointer _] rfl rfl) rfl rfl ?_
  refine aK aRm rfl rfl rfl ?_
  refine (aDw _ A n c xs (R.mem M4) hb hn b2 b1 G hG C cm (RS.mem M4) (M4.ownSeg 0 2) (M4.away 0 2 R (by simp)) (M4.away 0 2 RS (by simp))).mono ?_
  rintro _ w5 ⟨v5, rfl, ⟨r, rfl, hr, hM5⟩⟩
  refine ⟨_, rfl, ?_⟩
  have M5 : Mem _ _ [_, _, _] _ := M4.seg 0 2 hM5
  refine aA (aD (.slice _ _ _) rfl) rfl rfl ?_
  refine aE (aF (aG ?_))
  refine bZ [(0, 0), (1, 1), (2, 0), (3, 0)] mixed rfl (by kernel_rfl) (fun w6 hb6 hh6 => ?_)
  have M6 := M5.drew hb6 hh6
  refine aX rfl rfl rfl (fun _ => aC (.slice _ _ _) rfl) ?_
  refine cC rfl rfl rfl (aW 0 (.bool _) jU M6 rfl rfl rfl) ?_
  refine aX rfl rfl rfl (fun _ => aD (.slice _ _ _) rfl) ?_
  refine aX rfl rfl rfl (fun _ => aD (.bool _) rfl) ?_
  refine cF ?_
  refine aF (aR ?_)
  refine fI (.slice _ _ _) (.bool _) rfl rfl ?_
  exact ⟨r, rfl, hr, M6.keep [false, false, true]⟩
set_option maxHeartbeats 4000000 in
theorem xN (w : World) (b : Body) (hb : Okb b) :
    Calls Tryz.prog 23 #[(.agg (aI b).toArray)] w (fun ex w' => ∃ v, ex = .returned v ∧ (fun v w' => v = (.agg (aI (uV b)).toArray) ∧ Below w.heap.size w w') v w') := by
  refine aJ #[.cell 2 40] 20 Tryz.func23 rfl Tryz.results23 Tryz.ntmps23 rfl ?_
  have M0 := Mem.refl w
  refine aG (aB ?_)
  refine bK (.agg (List.toArray _)) M0 rfl rfl rfl (fun b1 w1 M1 => ?_)
  refine aS lU M1 rfl rfl (fun b2 w2 M2 => ?_)
  refine aE (aF (aG (aB ?_)))
  refine aA (bB 0 bX M2 rfl rfl rfl) rfl rfl ?_
  refine cM [.agg (List.toArray _)] [aI (b)] rfl dG M2 rfl rfl rfl rfl (cW rfl) (by decide) (fun b3 w3 M3 => ?_)
  have hlit7 := gW (T := 40) (b := b3) (nn := 1) (([b] : List Body).map aI) (lR _) rfl (by decide)
  refine aK aRj rfl rfl rfl ?_
  refine (rB _ _ _ _ [b] (hlit7.rd M3 (aP (i := 2) rfl)) (by intro y hy; rw [List.mem_singleton] at hy; subst hy; exact hb) (by decide)).mono ?_
  rintro _ w4 ⟨v4, rfl, ⟨⟨rA, rn, rc, re⟩, rfl, hr, hM4⟩⟩
  refine ⟨_, rfl, ?_⟩
  obtain rfl : rn = 1 := hr.1.symm
  have M4 : Mem _ _ [_, _, _, _] _ := M3.call0 hM4
  refine aA (aC (.tuple (List.toArray _)) rfl) rfl rfl ?_
  refine aA (bC (.slice _ _ _) rfl rfl) rfl rfl ?_
  refine aA (bC (.bool _) rfl rfl) rfl rfl ?_
  refine aA (aD (.slice _ _ _) rfl) rfl rfl ?_
  refine aA (aD (.bool _) rfl) rfl rfl ?_
  refine aE (aF (aG (aB ?_)))
  refine aA (aC (.slice _ _ _) rfl) rfl rfl ?_
  refine fU (1) [.int .i64 0, .int .i64 0] aAe aFu rfl M4 rfl rfl rfl rfl rfl rfl (by omega) (by omega) (fun b5 w5 M5 => ?_)
  have hL13 := gW (T := 135) (sz := 2) (b := b5) (nn := 1) (([iM b].map (fun _ => ((0, 0) : Int × Int))).map bP) (aJr _) rfl (by omega)
  refine aK aRx rfl rfl rfl ?_
  refine (aCc _ rA 1 rc [iM b] (hr.rd M5 (aP (i := 3) rfl)) (by intro y hy; rw [List.mem_singleton] at hy; subst hy; exact sX hb) (by decide) (fun _ => (0, 0)) (fun _ _ => ⟨⟨by decide, by decide⟩, by decide, by decide⟩) _ _ (hL13.rd M5 (aP (i := 4) rfl))).mono ?_
  rintro _ w6 ⟨v6, rfl, ⟨r2, rfl, hr2, hM6⟩⟩
  refine ⟨_, rfl, ?_⟩
  have M6 : Mem _ _ [_, _, _, _, _, _] _ := M5.call0 hM6
  refine aA (aC (.tuple (List.toArray _)) rfl) rfl rfl ?_
  refine aA (bC (.slice _ _ _) rfl rfl) rfl rfl ?_
  refine aA (bC (.bool _) rfl rfl) rfl rfl ?_
  refine aA (aD (.slice _ _ _) rfl) rfl rfl ?_
  refine aE (aF (aG (aB ?_)))
  refine aA (aC (.slice _ _ _) rfl) rfl rfl ?_
  refine aA (bO (0) dG rfl rfl rfl ((hr2.rd M6 (aP (i := 5) rfl)).below_len ((show (([iM b].map (fun b => qL b 0 0)).map aI)[0]? = some (aI (uV b)) from rfl))) ((hr2.rd M6 (aP (i := 5) rfl)).someK ((show (([iM b].map (fun b => qL b 0 0)).map aI)[0]? = some (aI (uV b)) from rfl)))) rfl rfl ?_
  refine aA (dK _ bX (hr2.rd M6 (aP (i := 5) rfl)) ((show (([iM b].map (fun b => qL b 0 0)).map aI)[0]? = some (aI (uV b)) from rfl)) rfl) rfl rfl ?_
  refine bJ 1 _ bX M6 rfl rfl rfl rfl rfl (aU rfl) rfl (fun w7 M7 => ?_)
  refine aE (aF (aR ?_))
  refine kG 1 bX M7 rfl rfl rfl ?_
  exact ⟨rfl, M7.below⟩
end Go.Proofs.YtlmcphcgiclanaaGreatDoor

namespace Go.Proofs.YtlmcphcgiclanaaGreatDoor
open Go.Bil
open Go.RowKit (Below)
open Go.Proofs
set_option maxHeartbeats 4000000 in
theorem aDb (w : World) (bs : Nat) (vr lr : Row) (tt mm : Int) (cl : Bool) (A : Option Addr) (n c : Nat) (q : Row) (c2 : Bool) (hO : Own [(some bs, bc [.slice A n c, .slice vr.A vr.n vr.c, .slice lr.A lr.n lr.c, .int .i64 tt, .int .i64 mm, .bool cl] 84)] w) :
    Calls Tryz.prog 72 #[.pointer (some ⟨bs, 0, none⟩), .slice q.A q.n q.c, .bool c2] w (fun ex w' => ∃ v, ex = .returned v ∧ (fun v w' => v = .tuple #[] ∧ Mem w (bU [(some bs, bc [.slice A n c, .slice vr.A vr.n vr.c, .slice lr.A lr.n lr.c, .int .i64 tt, .int .i64 mm, .bool cl] 84)]) [(some bs, bc [.slice A n c, .slice q.A q.n q.c, .slice lr.A lr.n lr.c, .int .i64 tt, .int .i64 mm, .bool (cl || c2)] 84)] w') v w') := by
  refine aJ #[] 22 Tryz.func72 rfl Tryz.results72 Tryz.ntmps72 rfl ?_
  have M0 := hO.mem
  refine aG (aB ?_)
  refine aA (aC (.pointer _) rfl) rfl rfl ?_
  refine aA (aC (.slice _ _ _) rfl) rfl rfl ?_
  refine aA (aV rfl) rfl rfl ?_
  refine aA (aH 1 sG rfl) rfl rfl ?_
  refine eC 0 (.slice _ _ _) kA M0 rfl rfl rfl rfl rfl rfl (fun w1 M1 => ?_)
  refine aE (aF (aB ?_))
  refine aA (aC (.pointer _) rfl) rfl rfl ?_
  refine aA (aC (.pointer _) rfl) rfl rfl ?_
  refine aA (aV rfl) rfl rfl ?_
  refine aA (aH 3 nM rfl) rfl rfl ?_
  refine aA (aH 2 iI rfl) rfl rfl ?_
  refine aA (aW 0 (.bool _) jU M1 rfl rfl rfl) rfl rfl ?_
  refine aA (aC (.bool _) rfl) rfl rfl ?_
  refine iL 16 _ rfl (fun g16 => ?_) (fun g16 => ?_)
  · refine aT rfl rfl ?_
    refine aA (bL true (.bool true) rfl rfl) rfl rfl ?_
    refine aA (aV rfl) rfl rfl ?_
    refine aA (aH 3 nM rfl) rfl rfl ?_
    refine aA (aH 2 iI rfl) rfl rfl ?_
    refine eC 0 (.bool true) jU M1 rfl rfl rfl rfl rfl rfl (fun w2 M2 => ?_)
    refine aE ?_
    refine gR ?_
    first | exact ⟨rfl, by rw [(by simp only [g16, Bool.true_or] : (cl || c2) = true)]; exact M2⟩ | exact ⟨rfl, by rw [(by simp only [g16, Bool.false_or] : (cl || c2) = c2)]; exact M2⟩
  · refine aA (aC (.bool _) rfl) rfl rfl ?_
    refine aA (bL false (.bool _) rfl rfl) rfl rfl ?_
    refine aA (aV rfl) rfl rfl ?_
    refine aA (aH 3 nM rfl) rfl rfl ?_
    refine aA (aH 2 iI rfl) rfl rfl ?_
    refine eC 0 (.bool _) jU M1 rfl rfl rfl rfl rfl rfl (fun w3 M3 => ?_)
    refine aE ?_
    refine gR ?_
    first | exact ⟨rfl, by rw [(by simp only [g16, Bool.true_or] : (cl || c2) = true)]; exact M3⟩ | exact ⟨rfl, by rw [(by simp only [g16, Bool.false_or] : (cl || c2) = c2)]; exact M3⟩
set_option maxHeartbeats 4000000 in
theorem aPi (w : World) (F : Rd w 2 (some ⟨0, 0, none⟩) 1 [[.int .u32 73856093, .int .u32 19349663]]) (N : Rd w 4 (some ⟨3, 0, none⟩) 1 [cS gY]) (bs : Nat) (vr lr : Row) (tt mm : Int) (cl : Bool) (A : Option Addr) (n c : Nat) (xs : List Body) (R : Rd w 10 A n (xs.map aI)) (hb : ∀ b ∈ xs, Okb b) (hs : bM xs) (hn : n ≤ 4096) (hO : Own [(some bs, bc [.slice A n c, .slice vr.A vr.n vr.c, .slice lr.A lr.n lr.c, .int .i64 tt, .int .i64 mm, .bool cl] 84)] w) (hdA : 0 < n → ∀ q off, A = some ⟨q, off, none⟩ → q ∉ bU [(some bs, bc [.slice A n c, .slice vr.A vr.n vr.c, .slice lr.A lr.n lr.c, .int .i64 tt, .int .i64 mm, .bool cl] 84)]) (hdF : 0 < 1 → ∀ q off, (some ⟨0, 0, none⟩ : Option Addr) = some ⟨q, off, none⟩ → q ∉ bU [(some bs, bc [.slice A n c, .slice vr.A vr.n vr.c, .slice lr.A lr.n lr.c, .int .i64 tt, .int .i64 mm, .bool cl] 84)]) (hdN : 0 < 1 → ∀ q off, (some ⟨3, 0, none⟩ : Option Addr) = some ⟨q, off, none⟩ → q ∉ bU [(some bs, bc [.slice A n c, .slice vr.A vr.n vr.c, .slice lr.A lr.n lr.c, .int .i64 tt, .int .i64 mm, .bool cl] 84)]) :
    Calls Tryz.prog 40 #[.pointer (some ⟨bs, 0, none⟩)] w (fun ex w' => ∃ v, ex = .returned v ∧ (fun v w' => v = .tuple #[] ∧ ∃ (r : Row) (m : Nat), (iV xs).length ≤ m ∧ 2 * m ≤ xs.length * (xs.length - 1) ∧ aY 121 5 r.A r.n r.c ((iY xs).map bY) r.e ∧ Mem w (bU [(some bs, bc [.slice A n c, .slice vr.A vr.n vr.c, .slice lr.A lr.n lr.c, .int .i64 tt, .int .i64 mm, .bool cl] 84)]) [(some bs, bc [.slice A n c, .slice vr.A vr.n vr.c, .slice r.A r.n r.c, .int .i64 (m : Int), .int .i64 (r.n : Int), .bool cl] 84), r.e] w') v w') := by
  refine aJ #[] 26 Tryz.func40 rfl Tryz.results40 Tryz.ntmps40 rfl ?_
  have M0 := hO.mem
  refine aG (aB ?_)
  refine aA (aC (.pointer _) rfl) rfl rfl ?_
  refine aA (aC (.pointer _) rfl) rfl rfl ?_
  refine aA (aC (.pointer _) rfl) rfl rfl ?_
  refine aA (aV rfl) rfl rfl ?_
  refine aA (aH 0 yV rfl) rfl rfl ?_
  refine aA (aW 0 (.slice _ _ _) kA M0 rfl rfl rfl) rfl rfl ?_
  refine aK aWw rfl rfl rfl ?_
  refine (zL _ (F.memY M0 hdF) (N.memY M0 hdN) A n c xs (R.memY M0 hdA) hb hs hn).mono ?_
  rintro _ w1 ⟨v1, rfl, ⟨r, m, rfl, hm1, hm2, hr, hM1⟩⟩
  refine ⟨_, rfl, ?_⟩
  have M1 : Mem _ _ [_, _] _ := M0.call0 hM1
  refine aA (aC (.tuple (List.toArray _)) rfl) rfl rfl ?_
  refine aA (bC (.slice _ _ _) rfl rfl) rfl rfl ?_
  refine aA (bC (.int _ _) rfl rfl) rfl rfl ?_
  refine aA (aV rfl) rfl rfl ?_
  refine aA (aH 2 sK rfl) rfl rfl ?_
  refine eC 0 (.slice _ _ _) mN M1 rfl rfl rfl rfl rfl rfl (fun w2 M2 => ?_)
  refine aA (aV rfl) rfl rfl ?_
  refine aA (aH 3 nM rfl) rfl rfl ?_
  refine aA (aH 0 nQ rfl) rfl rfl ?_
  refine eC 0 (.int _ _) iA M2 rfl rfl rfl rfl rfl rfl (fun w3 M3 => ?_)
  refine aE (aF (aB ?_))
  refine aA (aC (.pointer _) rfl) rfl rfl ?_
  refine aA (aC (.pointer _) rfl) rfl rfl ?_
  refine aA (aV rfl) rfl rfl ?_
  refine aA (aH 2 sK rfl) rfl rfl ?_
  refine aA (aW 0 (.slice _ _ _) mN M3 rfl rfl rfl) rfl rfl ?_
  refine aA (cR Tryz.underlying82 rfl) rfl rfl ?_
  refine aA (aV rfl) rfl rfl ?_
  refine aA (aH 3 nM rfl) rfl rfl ?_
  refine aA (aH 1 iX rfl) rfl rfl ?_
  refine eC 0 (.int _ _) iA M3 rfl rfl rfl rfl rfl rfl (fun w4 M4 => ?_)
  refine aE ?_
  refine gR ?_
  exact ⟨rfl, r, m, hm1, hm2, hr, M4⟩
set_option maxHeartbeats 4000000 in
theorem aQl (w : World) (bs : Nat) (vr lr : Row) (tt mm : Int) (cl : Bool) (A : Option Addr) (n c : Nat) (xs : List Body) (R : Rd w 10 A n (xs.map aI)) (hb : ∀ b ∈ xs, Okb b) (hn : n ≤ 1048576) (hO : Own [(some bs, bc [.slice A n c, .slice vr.A vr.n vr.c, .slice lr.A lr.n lr.c, .int .i64 tt, .int .i64 mm, .bool cl] 84)] w) (hdA : 0 < n → ∀ q off, A = some ⟨q, off, none⟩ → q ∉ bU [(some bs, bc [.slice A n c, .slice vr.A vr.n vr.c, .slice lr.A lr.n lr.c, .int .i64 tt, .int .i64 mm, .bool cl] 84)]) :
    Calls Tryz.prog 41 #[.pointer (some ⟨bs, 0, none⟩)] w (fun ex w' => ∃ v, ex = .returned v ∧ (fun v w' => v = .tuple #[] ∧ ∃ r : Row, aY 40 10 r.A r.n r.c ((nZ xs).map aI) r.e ∧ Mem w (bU [(some bs, bc [.slice A n c, .slice vr.A vr.n vr.c, .slice lr.A lr.n lr.c, .int .i64 tt, .int .i64 mm, .bool cl] 84)]) [(some bs, bc [.slice A n c, .slice r.A r.n r.c, .slice lr.A lr.n lr.c, .int .i64 tt, .int .i64 mm, .bool (cl || xs.any mR)] 84), r.e] w') v w') := by
  refine aJ #[] 11 Tryz.func41 rfl Tryz.results41 Tryz.ntmps41 rfl ?_
  have M0 := hO.mem
  refine aB ?_
  refine aA (aC (.pointer _) rfl) rfl rfl ?_
  refine aA (aC (.pointer _) rfl) rfl rfl ?_
  refine aA (aV rfl) rfl rfl ?_
  refine aA (aH 0 yV rfl) rfl rfl ?_
  refine aA (aW 0 (.slice _ _ _) kA M0 rfl rfl rfl) rfl rfl ?_
  refine aK aRj rfl rfl rfl ?_
  refine (rB _ A n c xs (R.memY M0 hdA) hb hn).mono ?_
  rintro _ w1 ⟨v1, rfl, ⟨r, rfl, hr, hM1⟩⟩
  refine ⟨_, rfl, ?_⟩
  have M1 : Mem _ _ [_, _] _ := M0.call0 hM1
  refine aA (bC (.slice _ _ _) rfl rfl) rfl rfl ?_
  refine aA (bC (.bool _) rfl rfl) rfl rfl ?_
  refine aK aJw rfl rfl rfl ?_
  refine (aDb _ bs vr lr tt mm cl A n c r _ (M1.ownSeg 0 1)).mono ?_
  rintro _ w2 ⟨v2, rfl, ⟨rfl, hM2⟩⟩
  refine ⟨_, rfl, ?_⟩
  have M2 : Mem _ _ [_, _] _ := M1.seg 0 1 hM2
  refine aE ?_
  refine gR ?_
  exact ⟨rfl, r, hr, M2⟩
set_option maxHeartbeats 4000000 in
theorem aLn (w : World) (bs : Nat) (vr lr : Row) (tt mm : Int) (cl : Bool) (A : Option Addr) (n c : Nat) (ys : List Body) (cs : List Con) (RV : Rd w 10 vr.A vr.n (ys.map aI)) (RL : Rd w 5 lr.A lr.n (cs.map bY)) (hs : bM ys) (hb : ∀ b ∈ ys, Okb b) (hn : vr.n ≤ 1048576) (hcs : ∀ c ∈ cs, OkC ys c) (hmc : lr.n ≤ 8589934592) (hO : Own [(some bs, bc [.slice A n c, .slice vr.A vr.n vr.c, .slice lr.A lr.n lr.c, .int .i64 tt, .int .i64 mm, .bool cl] 84)] w) (hdV : 0 < vr.n → ∀ q off, vr.A = some ⟨q, off, none⟩ → q ∉ bU [(some bs, bc [.slice A n c, .slice vr.A vr.n vr.c, .slice lr.A lr.n lr.c, .int .i64 tt, .int .i64 mm, .bool cl] 84)]) (hdL : 0 < lr.n → ∀ q off, lr.A = some ⟨q, off, none⟩ → q ∉ bU [(some bs, bc [.slice A n c, .slice vr.A vr.n vr.c, .slice lr.A lr.n lr.c, .int .i64 tt, .int .i64 mm, .bool cl] 84)]) :
    Calls Tryz.prog 42 #[.pointer (some ⟨bs, 0, none⟩)] w (fun ex w' => ∃ v, ex = .returned v ∧ (fun v w' => v = .tuple #[] ∧ ∃ r : Row, aY 40 10 r.A r.n r.c (((fP ys cs 4).1).map aI) r.e ∧ Mem w (bU [(some bs, bc [.slice A n c, .slice vr.A vr.n vr.c, .slice lr.A lr.n lr.c, .int .i64 tt, .int .i64 mm, .bool cl] 84)]) [(some bs, bc [.slice A n c, .slice r.A r.n r.c, .slice lr.A lr.n lr.c, .int .i64 tt, .int .i64 mm, .bool (cl || (fP ys cs 4).2)] 84), r.e] w') v w') := by
  refine aJ #[] 15 Tryz.func42 rfl Tryz.results42 Tryz.ntmps42 rfl ?_
  have M0 := hO.mem
  refine bZ [(0, 0), (1, 0), (2, 0), (3, 0), (4, 1), (5, 0), (6, 0), (7, 0), (8, 1), (9, 2), (10, 0), (11, 0), (12, 2)] mixed rfl (by kernel_rfl) (fun w1 hb1 hh1 => ?_)
  have M1 := M0.drew hb1 hh1
  refine aX rfl rfl rfl (fun _ => aC (.pointer _) rfl) ?_
  refine aX rfl rfl rfl (fun _ => aC (.pointer _) rfl) ?_
  refine aX rfl rfl rfl (fun _ => aV rfl) ?_
  refine aX rfl rfl rfl (fun _ => aH 1 sG rfl) ?_
  refine cC rfl rfl rfl (aW 0 (.slice _ _ _) kA M1 rfl rfl rfl) ?_
  refine aX rfl rfl rfl (fun _ => aC (.pointer _) rfl) ?_
  refine aX rfl rfl rfl (fun _ => aV rfl) ?_
  refine aX rfl rfl rfl (fun _ => aH 2 sK rfl) ?_
  refine cC rfl rfl rfl (aW 0 (.slice _ _ _) mN M1 rfl rfl rfl) ?_
  refine eD [true, true] rfl (by kernel_rfl) ?_
  refine aK aWi rfl rfl rfl ?_
  refine (aJa _ vr.A vr.n vr.c ys (RV.memY M1 hdV) hs hb hn lr.A lr.n lr.c cs (RL.memY M1 hdL) hcs hmc).mono ?_
  rintro _ w2 ⟨v2, rfl, ⟨r, rfl, hr, hM2⟩⟩
  refine ⟨_, rfl, ?_⟩
  have M2 : Mem _ _ [_, _] _ := M1.call0 hM2
  refine aE (aF ⟨eF, ?_⟩)
  refine aX rfl rfl rfl (fun _ => bC (.slice _ _ _) rfl rfl) ?_
  refine aX rfl rfl rfl (fun _ => bC (.bool _) rfl rfl) ?_
  refine eD [] rfl (by kernel_rfl) ?_
  refine aK aJw rfl rfl rfl ?_
  refine (aDb _ bs vr lr tt mm cl A n c r _ (M2.ownSeg 0 1)).mono ?_
  rintro _ w3 ⟨v3, rfl, ⟨rfl, hM3⟩⟩
  refine ⟨_, rfl, ?_⟩
  have M3 : Mem _ _ [_, _] _ := M2.seg 0 1 hM3
  refine aE (aF ⟨eF, ?_⟩)
  refine cF ?_
  refine gR ?_
  exact ⟨rfl, r, hr, M3⟩
set_option maxHeartbeats 4000000 in
theorem aQu (w : World) (bs : Nat) (vr lr : Row) (tt mm : Int) (cl : Bool) (A : Option Addr) (n c : Nat) (xs : List Body) (R : Rd w 10 A n (xs.map aI)) (ys : List Body) (cs : List Con) (RV : Rd w 10 vr.A vr.n (ys.map aI)) (RL : Rd w 5 lr.A lr.n (cs.map bY)) (hs : bM xs) (hb : ∀ b ∈ xs, Okb b) (hb2 : ∀ b ∈ ys, Okb b) (hn : n ≤ 1048576) (hvn : vr.n = n) (hcs : ∀ c ∈ cs, OkC xs c) (hmc : lr.n ≤ 1073741824) (hsh : xs.map (gE xs cs) = ys.map (gE xs cs)) (hG : ∀ b ∈ ys, (-1152921504606846976 ≤ (gE xs cs b).1 ∧ (gE xs cs b).1 ≤ 1152921504606846976) ∧ -1152921504606846976 ≤ (gE xs cs b).2 ∧ (gE xs cs b).2 ≤ 1152921504606846976) (hO : Own [(some bs, bc [.slice A n c, .slice vr.A vr.n vr.c, .slice lr.A lr.n lr.c, .int .i64 tt, .int .i64 mm, .bool cl] 84)] w) (hdA : 0 < n → ∀ q off, A = some ⟨q, off, none⟩ → q ∉ bU [(some bs, bc [.slice A n c, .slice vr.A vr.n vr.c, .slice lr.A lr.n lr.c, .int .i64 tt, .int .i64 mm, .bool cl] 84)]) (hdV : 0 < vr.n → ∀ q off, vr.A = some ⟨q, off, none⟩ → q ∉ bU [(some bs, bc [.slice A n c, .slice vr.A vr.n vr.c, .slice lr.A lr.n lr.c, .int .i64 tt, .int .i64 mm, .bool cl] 84)]) (hdL : 0 < lr.n → ∀ q off, lr.A = some ⟨q, off, none⟩ → q ∉ bU [(some bs, bc [.slice A n c, .slice vr.A vr.n vr.c, .slice lr.A lr.n lr.c, .int .i64 tt, .int .i64 mm, .bool cl] 84)]) :
    Calls Tryz.prog 43 #[.pointer (some ⟨bs, 0, none⟩)] w (fun ex w' => ∃ v, ex = .returned v ∧ (fun v w' => v = .tuple #[] ∧ ∃ r : Row, aY 40 10 r.A r.n r.c ((aFi xs cs ys).map aI) r.e ∧ Mem w (bU [(some bs, bc [.slice A n c, .slice vr.A vr.n vr.c, .slice lr.A lr.n lr.c, .int .i64 tt, .int .i64 mm, .bool cl] 84)]) [(some bs, bc [.slice A n c, .slice r.A r.n r.c, .slice lr.A lr.n lr.c, .int .i64 tt, .int .i64 mm, .bool (cl || aOf xs cs ys)] 84), r.e] w') v w') := by
  have hlen : xs.length = n := by simpa using R.len
  refine aJ #[] 20 Tryz.func43 rfl Tryz.results43 Tryz.ntmps43 rfl ?_
  have M0 := hO.mem
  refine bZ [(0, 0), (1, 0), (2, 0), (3, 0), (4, 1), (5, 0), (6, 0), (7, 0), (8, 1), (9, 0), (10, 0), (11, 0), (12, 1), (13, 2), (14, 2), (15, 0), (16, 0), (17, 2)] mixed rfl (by kernel_rfl) (fun w1 hb1 hh1 => ?_)
  have M1 := M0.drew hb1 hh1
  refine aX rfl rfl rfl (fun _ => aC (.pointer _) rfl) ?_
  refine aX rfl rfl rfl (fun _ => aC (.pointer _) rfl) ?_
  refine aX rfl rfl rfl (fun _ => aV rfl) ?_
  refine aX rfl rfl rfl (fun _ => aH 1 sG rfl) ?_
  refine cC rfl rfl rfl (aW 0 (.slice _ _ _) kA M1 rfl rfl rfl) ?_
  refine aX rfl rfl rfl (fun _ => aC (.pointer _) rfl) ?_
  refine aX rfl rfl rfl (fun _ => aV rfl) ?_
  refine aX rfl rfl rfl (fun _ => aH 0 yV rfl) ?_
  refine cC rfl rfl rfl (aW 0 (.slice _ _ _) kA M1 rfl rfl rfl) ?_
  refine aX rfl rfl rfl (fun _ => aC (.pointer _) rfl) ?_
  refine aX rfl rfl rfl (fun _ => aV rfl) ?_
  refine aX rfl rfl rfl (fun _ => aH 2 sK rfl) ?_
  refine cC rfl rfl rfl (aW 0 (.slice _ _ _) mN M1 rfl rfl rfl) ?_
  refine eD [true, true, false] rfl (by kernel_rfl) ?_
  refine aK aWs rfl rfl rfl ?_
  refine (aDx _ A n c xs (R.memY M1 hdA) hs hb hn lr.A lr.n lr.c cs (RL.memY M1 hdL) hcs hmc).mono ?_
  rintro _ w2 ⟨v2, rfl, ⟨⟨qA, qn, qc, qe⟩, rfl, hq, hM2⟩⟩
  refine ⟨_, rfl, ?_⟩
  have hqn : xs.length = qn := by simpa using hq.1
  obtain rfl : qn = vr.n := by omega
  rw [hsh] at hq
  have M2 : Mem _ _ [_, _] _ := M1.call0 hM2
  refine aE (aF ⟨(lF (dH rfl (aW 0 (.slice _ _ _) kA M2 rfl rfl rfl)) eF), ?_⟩)
  refine eD [true] rfl (by kernel_rfl) ?_
  refine aK aRx rfl rfl rfl ?_
  refine (aCc _ vr.A vr.n vr.c ys (RV.memY M2 hdV) hb2 (by omega) (gE xs cs) hG qA qc (hq.rd M2 (aP (i := 1) rfl))).mono ?_
  rintro _ w3 ⟨v3, rfl, ⟨r, rfl, hr, hM3⟩⟩
  refine ⟨_, rfl, ?_⟩
  have M3 : Mem _ _ [_, _, _] _ := M2.call0 hM3
  refine aE (aF ⟨eF, ?_⟩)
  refine aX rfl rfl rfl (fun _ => bC (.slice _ _ _) rfl rfl) ?_
  refine aX rfl rfl rfl (fun _ => bC (.bool _) rfl rfl) ?_
  refine eD [] rfl (by kernel_rfl) ?_
  refine aK aJw rfl rfl rfl ?_
  refine (aDb _ bs vr lr tt mm cl A n c r _ (M3.ownSeg 0 1)).mono ?_
  rintro _ w4 ⟨v4, rfl, ⟨rfl, hM4⟩⟩
  refine ⟨_, rfl, ?_⟩
  have M4 : Mem _ _ [_, _, _] _ := M3.seg 0 1 hM4
  refine aE (aF ⟨eF, ?_⟩)
  refine cF ?_
  refine gR ?_
  exact ⟨rfl, r, hr, M4.keep [true, false, true]⟩
end Go.Proofs.YtlmcphcgiclanaaGreatDoor

namespace Go.Proofs.YtlmcphcgiclanaaGreatDoor
open Go.Bil
open Go.RowKit (Below)
open Go.Proofs
theorem aJm {xs : List Body} {cs : List Con} {b b' : Body} (h : SameB b b') : gE xs cs b = gE xs cs b' := by
  unfold gE pD vA
  rw [h.key, h.mass]
theorem zO {xs ys zs : List Body} {cs : List Con} (h : Like ys zs) : ys.map (gE xs cs) = zs.map (gE xs cs) := by
  apply List.ext_getElem?
  intro i
  rw [List.getElem?_map, List.getElem?_map]
  by_cases hi : i < ys.length
  · have h1 : ys[i]? = some ys[i] := List.getElem?_eq_getElem hi
    have h2 : zs[i]? = some (zs[i]'(by rw [h.len]; exact hi)) := List.getElem?_eq_getElem _
    rw [h1, h2]
    exact congrArg some (aJm (h.at_ i _ _ h1 h2)).symm
  · have hl := h.len
    rw [List.getElem?_eq_none (show ys.length ≤ i by omega), List.getElem?_eq_none (show zs.length ≤ i by omega)]
theorem aPx {xs : List Body} {cs : List Con} (hs : bM xs) (hb : ∀ b ∈ xs, Okb b) (hcs : ∀ c ∈ cs, OkC xs c) (hl : cs.length ≤ 1073741824) {zs : List Body} (h : Like xs zs) : ∀ b ∈ zs, (-1152921504606846976 ≤ (gE xs cs b).1 ∧ (gE xs cs b).1 ≤ 1152921504606846976) ∧ -1152921504606846976 ≤ (gE xs cs b).2 ∧ (gE xs cs b).2 ≤ 1152921504606846976 := fun b hbm => by
  have hm : gE xs cs b ∈ zs.map (gE xs cs) := List.mem_map_of_mem hbm
  rw [← zO h] at hm
  obtain ⟨x, hx, e⟩ := List.mem_map.1 hm
  rw [← e]
  have := yJ hs hb hcs rfl hl cs.length hx
  rwa [List.take_of_length_le (Nat.le_refl _)] at this
set_option maxHeartbeats 16000000 in
theorem qO (w : World) (F : Rd w 2 (some ⟨0, 0, none⟩) 1 [[.int .u32 73856093, .int .u32 19349663]]) (N : Rd w 4 (some ⟨3, 0, none⟩) 1 [cS gY]) (A : Option Addr) (n c : Nat) (xs : List Body) (R : Rd w 10 A n (xs.map aI)) (hb : ∀ b ∈ xs, Okb b) (hs : bM xs) (hn : n ≤ 4096) :
    Calls Tryz.prog 16 #[.slice A n c] w (fun ex w' => ∃ v, ex = .returned v ∧ (fun v w' => ∃ (r : Row) (t : Nat), v = .tuple #[.slice r.A r.n r.c, .agg [.int .i64 (t : Int), .int .i64 ((iY xs).length : Int), .bool (pM xs)].toArray] ∧ (iY xs).length ≤ t ∧ 2 * t ≤ xs.length * (xs.length - 1) ∧ aY 40 10 r.A r.n r.c ((oC xs).map aI) r.e ∧ Mem w [] [r.e] w') v w') := by
  have hlen : xs.length = n := by simpa using R.len
  have hnn : xs.length * xs.length ≤ 4096 * 4096 := Nat.mul_le_mul (by omega) (by omega)
  have hcl := aBt xs
  have hsq := aPl (xs := xs)
  refine aJ #[.tmp 2, .cell 3 27] 26 Tryz.func16 rfl Tryz.results16 Tryz.ntmps16 rfl ?_
  have M0 := Mem.refl w
  refine aG (aB ?_)
  refine aA (aD (.slice _ _ _) rfl) rfl rfl ?_
  refine aS jF M0 rfl rfl (fun b1 w1 M1 => ?_)
  refine aE (aF (aG (aB ?_)))
  refine aA (aC (.slice _ _ _) rfl) rfl rfl ?_
  refine aA (cB [(0, .slice _ _ _)] _ aNo rfl rfl) rfl rfl ?_
  refine bK (.agg (List.toArray _)) M1 rfl rfl rfl (fun b2 w2 M2 => ?_)
  refine aA (aD (.pointer _) rfl) rfl rfl ?_
  refine aE (aF (aG (aG (aB ?_))))
  refine aA (sU [.func _ _ _, .func _ _ _, .func _ _ _, .func _ _ _] aAf aVg rfl rfl (cW rfl)) rfl rfl ?_
  refine aA (aC (.int _ _) rfl) rfl rfl ?_
  refine aE (aF (bA ?_))
  refine mT 5 (mK ?_)
  refine aG (aB ?_)
  refine aA (aO (.bool (decide _)) rfl rfl rfl) rfl rfl ?_
  refine aM 12 (.bool true) (bT (by first | decide | omega)).symm ?_
  refine aE (aF (aG ?_))
  refine dR rfl ?_
  refine aN (aF (aG (bA (aG (aB ?_)))))
  refine aA (vF 0 (.func _ _ _) aAf aGd rfl rfl (by decide) (by decide) rfl rfl) rfl rfl ?_
  refine aA (aD (.func _ _ _) rfl) rfl rfl ?_
  refine aE (aF (aB ?_))
  refine aA (aC (.func _ _ _) rfl) rfl rfl ?_
  refine aA (aC (.pointer _) rfl) rfl rfl ?_
  refine aK aWp rfl rfl rfl ?_
  refine (aPi _ (F.mem M2) (N.mem M2) b2 gJ gJ 0 0 false A n c xs (R.mem M2) hb hs hn (M2.ownSeg 1 1) (M2.away 1 1 R (by simp)) (M2.away 1 1 F (by simp)) (M2.away 1 1 N (by simp))).mono ?_
  rintro _ w3 ⟨v3, rfl, ⟨rfl, r, tm, ht1, ht2, hr, hM3⟩⟩
  refine ⟨_, rfl, ?_⟩
  have M3 : Mem _ _ [_, _, _] _ := M2.seg 1 1 hM3
  have hrn : (iY xs).length = r.n := by simpa using hr.1
  refine aE ?_
  refine dL ?_
  refine aF (aB ?_)
  refine aA (bW rfl rfl (by first | decide | omega) (by first | decide | omega)) rfl rfl ?_
  refine aM 17 (.int .i64 1) (iE (by first | decide | omega)) ?_
  refine aA (aC (.int _ _) rfl) rfl rfl ?_
  refine aE ?_
  refine aF (mK ?_)
  refine aG (aB ?_)
  refine aA (aO (.bool (decide _)) rfl rfl rfl) rfl rfl ?_
  refine aM 12 (.bool true) (bT (by first | decide | omega)).symm ?_
  refine aE (aF (aG ?_))
  refine dR rfl ?_
  refine aN (aF (aG (bA (aG (aB ?_)))))
  refine aA (vF 1 (.func _ _ _) aAf aGd rfl rfl (by decide) (by decide) rfl rfl) rfl rfl ?_
  refine aA (aD (.func _ _ _) rfl) rfl rfl ?_
  refine aE (aF (aB ?_))
  refine aA (aC (.func _ _ _) rfl) rfl rfl ?_
  refine aA (aC (.pointer _) rfl) rfl rfl ?_
  refine aK aWr rfl rfl rfl ?_
  refine (aQl _ b2 gJ r (tm : Int) (r.n : Int) false A n c xs (R.mem M3) hb (by omega) (M3.ownSeg 1 1) (M3.away 1 1 R (by simp))).mono ?_
  rintro _ w4 ⟨v4, rfl, ⟨rfl, g, hg, hM4⟩⟩
  refine ⟨_, rfl, ?_⟩
  have M4 : Mem _ _ [_, _, _, _] _ := M3.seg 1 1 hM4
  have hgn : (nZ xs).length = g.n := by simpa using hg.1
  have hgl := (lJ xs).len
  refine aE ?_
  refine dL ?_
  refine aF (aB ?_)
  refine aA (bW rfl rfl (by first | decide | omega) (by first | decide | omega)) rfl rfl ?_
  refine aM 17 (.int .i64 2) (iE (by first | decide | omega)) ?_
  refine aA (aC (.int _ _) rfl) rfl rfl ?_
  refine aE ?_
  refine aF (mK ?_)
  refine aG (aB ?_)
  refine aA (aO (.bool (decide _)) rfl rfl rfl) rfl rfl ?_
  refine aM 12 (.bool true) (bT (by first | decide | omega)).symm ?_
  refine aE (aF (aG ?_))
  refine dR rfl ?_
  refine aN (aF (aG (bA (aG (aB ?_)))))
  refine aA (vF 2 (.func _ _ _) aAf aGd rfl rfl (by decide) (by decide) rfl rfl) rfl rfl ?_
  refine aA (aD (.func _ _ _) rfl) rfl rfl ?_
  refine aE (aF (aB ?_))
  refine aA (aC (.func _ _ _) rfl) rfl rfl ?_
  refine aA (aC (.pointer _) rfl) rfl rfl ?_
  refine aK aWm rfl rfl rfl ?_
  refine (aLn _ b2 g r (tm : Int) (r.n : Int) _ A n c (nZ xs) (iY xs) (hg.rd M4 (aP (i := 3) rfl)) (hr.rd M4 (aP (i := 2) rfl)) ((lJ xs).sorted hs) (zI hb) (by omega) (fun c h => (lJ xs).okc (sS hs hb c h)) (by omega) (M4.ownSeg 1 1) (hg.awayB M4 3 1 rfl rfl rfl) (hr.awayB M4 2 1 rfl rfl rfl)).mono ?_
  rintro _ w5 ⟨v5, rfl, ⟨rfl, s, hsv, hM5⟩⟩
  refine ⟨_, rfl, ?_⟩
  have M5 : Mem _ _ [_, _, _, _, _] _ := M4.seg 1 1 hM5
  have hsn : (kL xs).length = s.n := by have h := hsv.1; rwa [List.length_map] at h
  have hlk : Like xs (kL xs) := (lJ xs).trans (iB _ _ 4)
  have hsl := hlk.len
  refine aE ?_
  refine dL ?_
  refine aF (aB ?_)
  refine aA (bW rfl rfl (by first | decide | omega) (by first | decide | omega)) rfl rfl ?_
  refine aM 17 (.int .i64 3) (iE (by first | decide | omega)) ?_
  refine aA (aC (.int _ _) rfl) rfl rfl ?_
  refine aE ?_
  refine aF (mK ?_)
  refine aG (aB ?_)
  refine aA (aO (.bool (decide _)) rfl rfl rfl) rfl rfl ?_
  refine aM 12 (.bool true) (bT (by first | decide | omega)).symm ?_
  refine aE (aF (aG ?_))
  refine dR rfl ?_
  refine aN (aF (aG (bA (aG (aB ?_)))))
  refine aA (vF 3 (.func _ _ _) aAf aGd rfl rfl (by decide) (by decide) rfl rfl) rfl rfl ?_
  refine aA (aD (.func _ _ _) rfl) rfl rfl ?_
  refine aE (aF (aB ?_))
  refine aA (aC (.func _ _ _) rfl) rfl rfl ?_
  refine aA (aC (.pointer _) rfl) rfl rfl ?_
  refine aK aWf rfl rfl rfl ?_
  refine (aQu _ b2 s r (tm : Int) (r.n : Int) _ A n c xs (R.mem M5) (kL xs) (iY xs) (hsv.rd M5 (aP (i := 4) rfl)) (hr.rd M5 (aP (i := 2) rfl)) hs hb (oX (zI hb) 4) (by omega) (by omega) (sS hs hb) (by omega) (zO hlk) (aPx hs hb (sS hs hb) (by omega) hlk) (M5.ownSeg 1 1) (M5.away 1 1 R (by simp)) (hsv.awayB M5 4 1 rfl rfl rfl) (hr.awayB M5 2 1 rfl rfl rfl)).mono ?_
  rintro _ w6 ⟨v6, rfl, ⟨rfl, m, hm, hM6⟩⟩
  refine ⟨_, rfl, ?_⟩
  have M6 : Mem _ _ [_, _, _, _, _, _] _ := M5.seg 1 1 hM6
  refine aE ?_
  refine dL ?_
  refine aF (aB ?_)
  refine aA (bW rfl rfl (by first | decide | omega) (by first | decide | omega)) rfl rfl ?_
  refine aM 17 (.int .i64 4) (iE (by first | decide | omega)) ?_
  refine aA (aC (.int _ _) rfl) rfl rfl ?_
  refine aE ?_
  refine aF (mK ?_)
  refine aG (aB ?_)
  refine aA (aO (.bool (decide _)) rfl rfl rfl) rfl rfl ?_
  refine aM 12 (.bool false) (bF (by first | decide | omega)).symm ?_
  refine aE (aF (aG ?_))
  refine cJ rfl ?_
  refine cL ?_
  refine dD (dD ?_)
  refine eM ?_
  refine aF (aG ?_)
  refine bZ [(0, 0), (1, 0), (2, 0), (3, 1), (4, 0), (5, 0), (6, 0), (7, 1), (8, 0), (9, 2)] mixed rfl (by kernel_rfl) (fun w7 hb7 hh7 => ?_)
  have M7 := M6.drew hb7 hh7
  refine aX rfl rfl rfl (fun _ => aC (.pointer _) rfl) ?_
  refine aX rfl rfl rfl (fun _ => aV rfl) ?_
  refine aX rfl rfl rfl (fun _ => aH 1 sG rfl) ?_
  refine cC rfl rfl rfl (aW 1 (.slice _ _ _) kA M7 rfl rfl rfl) ?_
  refine aX rfl rfl rfl (fun _ => aC (.pointer _) rfl) ?_
  refine aX rfl rfl rfl (fun _ => aV rfl) ?_
  refine aX rfl rfl rfl (fun _ => aH 3 nM rfl) ?_
  refine cC rfl rfl rfl (tJ 1 _ hJ M7 rfl rfl rfl rfl) ?_
  refine aX rfl rfl rfl (fun _ => aD (.slice _ _ _) rfl) ?_
  refine eD [true, true] rfl (by kernel_rfl) ?_
  refine bJ 0 _ hJ M7 rfl rfl rfl rfl rfl (aU rfl) rfl (fun w8 M8 => ?_)
  refine aE (aF ⟨eF, ?_⟩)
  refine cF ?_
  refine aF (aR ?_)
  refine aRq (.slice _ _ _) 0 hJ M8 rfl rfl rfl rfl ?_
  exact ⟨m, tm, rV rfl (by rw [hrn]; show Value.agg _ = _; rw [show pM xs = (((false || xs.any mR) || (fP (nZ xs) (iY xs) 4).2) || aOf xs (iY xs) (kL xs)) by unfold pM; rw [Bool.false_or]]; rfl), by omega, ht2, hm, M8.keep [false, false, false, false, false, true]⟩
end Go.Proofs.YtlmcphcgiclanaaGreatDoor

namespace Go.Proofs.YtlmcphcgiclanaaGreatDoor
open Go.Bil
open Go.RowKit (Below)
open Go.Proofs
set_option maxHeartbeats 16000000 in
theorem jP (w : World) (F : Rd w 2 (some ⟨0, 0, none⟩) 1 [[.int .u32 73856093, .int .u32 19349663]]) (N_ : Rd w 4 (some ⟨3, 0, none⟩) 1 [cS gY]) (A : Option Addr) (n c : Nat) (xs : List Body) (R : Rd w 10 A n (xs.map aI)) (hb : ∀ b ∈ xs, Okb b) (hs : bM xs) (hn : n ≤ 4096) (z : Int) (N : Nat) (hz : max z 0 = (N : Int)) (hN : N ≤ 1048576) :
    Calls Tryz.prog 19 #[.slice A n c, .int .i64 z] w (fun ex w' => ∃ v, ex = .returned v ∧ (fun v w' => ∃ (r : Row) (t : Nat), v = .tuple #[.slice r.A r.n r.c, .agg [.int .i64 (t : Int), .int .i64 (fS xs N : Int), .bool (gX xs N)].toArray] ∧ fS xs N ≤ t ∧ t ≤ N * 16777216 ∧ aY 40 10 r.A r.n r.c ((dB xs N).map aI) r.e ∧ Mem w [] [r.e] w') v w') := by
  have hlen : xs.length = n := by simpa using R.len
  have hnn : xs.length * (xs.length - 1) ≤ 4096 * 4096 := Nat.mul_le_mul (by omega) (by omega)
  refine aJ #[.tmp 4, .cell 5 27] 43 Tryz.func19 rfl Tryz.results19 Tryz.ntmps19 rfl ?_
  have M0 := Mem.refl w
  refine aG (aB ?_)
  refine aA (aD (.slice _ _ _) rfl) rfl rfl ?_
  refine aS jF M0 rfl rfl (fun b1 w1 M1 => ?_)
  refine aE (aF (aG (aB ?_)))
  refine aS jF M1 rfl rfl (fun b2 w2 M2 => ?_)
  refine aE (aF (aG (aB ?_)))
  refine aA (aC (.slice _ _ _) rfl) rfl rfl ?_
  refine aK aWe rfl rfl rfl ?_
  refine (wC _ _ _ _ _ (R.mem M2) (aCw xs) (by omega)).mono ?_
  rintro _ w3 ⟨v3, rfl, ⟨qA, qn, qc, qe, rfl, hq0, hM3, _⟩⟩
  refine ⟨_, rfl, ?_⟩
  have M3 : Mem _ _ [_, _, _] _ := M2.call0 hM3
  refine aA (aD (.slice _ _ _) rfl) rfl rfl ?_
  refine aE (aF (aG (aG (aB ?_))))
  refine aA (aC (.int _ _) rfl) rfl rfl ?_
  refine aA (kS rfl rfl ) rfl rfl ?_
  refine aM 12 (.int .i64 (N : Int)) (iE (by omega)) ?_
  refine aA (aC (.int _ _) rfl) rfl rfl ?_
  refine aE (aF (bA ?_))
  refine dJ (σ := Nat × Row × Nat) [4, 5, 6, 12] (fun (k, q, t) => [(0, .slice q.A q.n q.c), (13, .int .i64 (k : Int))]) (fun (k, q, t) w' => (k ≤ N ∧ fS xs k ≤ t ∧ t ≤ k * 16777216 ∧ aY 40 10 q.A q.n q.c ((dB xs k).map aI) q.e) ∧ Mem w [] [(some b1, bc [.int .i64 0, .int .i64 0, .bool false] 27), (some b2, bc [.int .i64 (t : Int), .int .i64 (fS xs k : Int), .bool (gX xs k)] 27), q.e] w') (fun (k, q, t) => N - k) (0, ⟨qA, qn, qc, qe⟩, 0) (bV rfl (bV rfl eX)) (⟨⟨by omega, (show 0 ≤ 0 by omega), by omega, hq0⟩, M3⟩) ?_
  rintro ⟨k, q, t⟩ ρ4 w4 ⟨⟨hk, htn, htk, hq⟩, hM4⟩
  have hkl := (gI xs k).len
  have hqn : (dB xs k).length = q.n := by simpa using hq.1
  refine aG (aB ?_)
  refine aA (aO (.bool (decide _)) rfl rfl rfl) rfl rfl ?_
  refine aE (aF (aG ?_))
  refine aZ rfl (fun h14 => ?_) (fun h14 => ?_)
  · refine aN (aF (aG (bA (aG (aB ?_)))))
    refine aA (aC (.slice _ _ _) rfl) rfl rfl ?_
    refine aK aKg rfl rfl rfl ?_
    refine (qO _ (F.mem hM4) (N_.mem hM4) q.A q.n q.c (dB xs k) (hq.rd hM4 (aP (i := 2) rfl)) (sZ hb k) (pG hs k) (by omega)).mono ?_
    rintro _ w5 ⟨v5, rfl, ⟨r, t2, rfl, h1, h2, hr, hM5⟩⟩
    refine ⟨_, rfl, ?_⟩
    have M5 : Mem _ _ [_, _, _, _] _ := hM4.call0 hM5
    rw [show (dB xs k).length = xs.length from hkl] at h2
    have hsuc : fS xs (k + 1) = fS xs k + (iY (dB xs k)).length := rfl
    refine aA (aC (.tuple (List.toArray _)) rfl) rfl rfl ?_
    refine aA (bC (.slice _ _ _) rfl rfl) rfl rfl ?_
    refine aA (bC (.agg (List.toArray _)) rfl rfl) rfl rfl ?_
    refine aS jF M5 rfl rfl (fun b6 w6 M6 => ?_)
    refine aA (aD (.slice _ _ _) rfl) rfl rfl ?_
    refine bJ 4 _ hJ M6 rfl rfl rfl rfl rfl (aU rfl) rfl (fun w7 M7 => ?_)
    refine aE (aF (aG (aB ?_)))
    refine aA (aH 0 nQ rfl) rfl rfl ?_
    refine aA (aW 1 (.int _ _) iA M7 rfl rfl rfl) rfl rfl ?_
    refine aA (aH 0 nQ rfl) rfl rfl ?_
    refine aA (aW 4 (.int _ _) iA M7 rfl rfl rfl) rfl rfl ?_
    refine aA (bW rfl rfl (by omega) (by omega)) rfl rfl ?_
    refine aA (aH 0 nQ rfl) rfl rfl ?_
    refine eC 1 (.int _ _) iA M7 rfl rfl rfl rfl rfl rfl (fun w8 M8 => ?_)
    refine aE (aF (aG (aB ?_)))
    refine aA (aH 1 iX rfl) rfl rfl ?_
    refine aA (aW 1 (.int _ _) iA M8 rfl rfl rfl) rfl rfl ?_
    refine aA (aH 1 iX rfl) rfl rfl ?_
    refine aA (aW 4 (.int _ _) iA M8 rfl rfl rfl) rfl rfl ?_
    refine aA (bW rfl rfl (by omega) (by omega)) rfl rfl ?_
    refine aA (aH 1 iX rfl) rfl rfl ?_
    refine eC 1 (.int _ _) iA M8 rfl rfl rfl rfl rfl rfl (fun w9 M9 => ?_)
    refine aE (aF (aG (aB ?_)))
    refine aA (aH 2 iI rfl) rfl rfl ?_
    refine aA (aW 1 (.bool _) jU M9 rfl rfl rfl) rfl rfl ?_
    refine aA (aC (.bool _) rfl) rfl rfl ?_
    refine iL 34 _ rfl (fun g34 => ?_) (fun g34 => ?_)
    · refine aT rfl rfl ?_
      refine aT rfl rfl ?_
      refine aA (bL true (.bool true) rfl rfl) rfl rfl ?_
      refine aA (aH 2 iI rfl) rfl rfl ?_
      refine eC 1 (.bool true) jU M9 rfl rfl rfl rfl rfl rfl (fun w10 M10 => ?_)
      refine aE (aF (aB ?_))
      refine aA (aC (.slice _ _ _) rfl) rfl rfl ?_
      refine aA (aD (.slice _ _ _) rfl) rfl rfl ?_
      refine aE ?_
      refine dL ?_
      refine aF (aB ?_)
      refine aA (bW rfl rfl (by omega) (by omega)) rfl rfl ?_
      refine aA (aC (.int _ _) rfl) rfl rfl ?_
      refine aE ?_
      refine cE (k + 1, r, t + t2) (bV rfl (bV rfl eX)) (cI rfl (cI rfl (cI rfl (cI rfl iO)))) ?_ ?_
      · exact ⟨⟨by omega, by rw [hsuc]; omega, by omega, hr⟩, by rw [hsuc, Int.natCast_add, Int.natCast_add, show gX xs (k + 1) = _ from by show (_ || _) = true; rw [g34, Bool.true_or]]; exact M10.keep [true, true, false, true, false]⟩
      · (show N - (k + 1) < N - k; omega)
    · refine aA (aH 2 iI rfl) rfl rfl ?_
      refine aA (aW 4 (.bool _) jU M9 rfl rfl rfl) rfl rfl ?_
      refine aA (bL false (.bool _) rfl rfl) rfl rfl ?_
      refine aA (aH 2 iI rfl) rfl rfl ?_
      refine eC 1 (.bool _) jU M9 rfl rfl rfl rfl rfl rfl (fun w11 M11 => ?_)
      refine aE (aF (aB ?_))
      refine aA (aC (.slice _ _ _) rfl) rfl rfl ?_
      refine aA (aD (.slice _ _ _) rfl) rfl rfl ?_
      refine aE ?_
      refine dL ?_
      refine aF (aB ?_)
      refine aA (bW rfl rfl (by omega) (by omega)) rfl rfl ?_
      refine aA (aC (.int _ _) rfl) rfl rfl ?_
      refine aE ?_
      refine cE (k + 1, r, t + t2) (bV rfl (bV rfl eX)) (cI rfl (cI rfl (cI rfl (cI rfl iO)))) ?_ ?_
      · exact ⟨⟨by omega, by rw [hsuc]; omega, by omega, hr⟩, by rw [hsuc, Int.natCast_add, Int.natCast_add, show gX xs (k + 1) = _ from by show (_ || _) = pM (dB xs k); rw [g34, Bool.false_or]]; exact M11.keep [true, true, false, true, false]⟩
      · (show N - (k + 1) < N - k; omega)
  · have hkn : k = N := by omega
    rw [hkn] at hq htn hM4
    refine cL ?_
    refine dD ?_
    refine cY ?_
    refine eM ?_
    refine aF (aG ?_)
    refine bZ [(0, 0), (1, 1), (2, 0), (3, 2)] mixed rfl (by kernel_rfl) (fun w12 hb12 hh12 => ?_)
    have M12 := hM4.drew hb12 hh12
    refine aX rfl rfl rfl (fun _ => aC (.slice _ _ _) rfl) ?_
    refine cC rfl rfl rfl (bB 1 hJ M12 rfl rfl rfl) ?_
    refine aX rfl rfl rfl (fun _ => aD (.slice _ _ _) rfl) ?_
    refine eD [true] rfl (by kernel_rfl) ?_
    refine bJ 0 _ hJ M12 rfl rfl rfl rfl rfl (aU rfl) rfl (fun w13 M13 => ?_)
    refine aE (aF ⟨eF, ?_⟩)
    refine cF ?_
    refine aF (aR ?_)
    refine aRq (.slice _ _ _) 0 hJ M13 rfl rfl rfl rfl ?_
    exact ⟨q, t, by rw [← hkn], htn, by rw [← hkn]; exact htk, hq, M13.keep [false, false, true]⟩
end Go.Proofs.YtlmcphcgiclanaaGreatDoor

namespace Go.Proofs.YtlmcphcgiclanaaGreatDoor
open Go.Bil
open Go.RowKit (Below)
open Go.Proofs
end Go.Proofs.YtlmcphcgiclanaaGreatDoor

namespace Go.Proofs.YtlmcphcgiclanaaGreatDoor
open Go.Bil
open Go.RowKit (Below)
open Go.Proofs
end Go.Proofs.YtlmcphcgiclanaaGreatDoor

namespace Go.Proofs.YtlmcphcgiclanaaGreatDoor
open Go.Bil
open Go.RowKit (Below)
open Go.Proofs
end Go.Proofs.YtlmcphcgiclanaaGreatDoor

namespace Go.Proofs.YtlmcphcgiclanaaGreatDoor
open Go.Bil
open Go.RowKit (Below)
open Go.Proofs
end Go.Proofs.YtlmcphcgiclanaaGreatDoor

namespace Go.Proofs.YtlmcphcgiclanaaGreatDoor
open Go.Bil
open Go.RowKit (Below)
open Go.Proofs
end Go.Proofs.YtlmcphcgiclanaaGreatDoor

namespace Go.Proofs.YtlmcphcgiclanaaGreatDoor
open Go.Bil
open Go.RowKit (Below)
open Go.Proofs
end Go.Proofs.YtlmcphcgiclanaaGreatDoor

namespace Go.Proofs.YtlmcphcgiclanaaGreatDoor
open Go.Bil
open Go.RowKit (Below)
open Go.Proofs
theorem aKt {T dd : Nat} {a b : Bool} {w : World} (hu : Tryz.prog.underlying T = some .bool) : (Op.equalIn (dd + 1) T (.bool a) (.bool b)).run Tryz.prog w = .ok (decide (a = b)) w := by
  simp [Op.equalIn, underlying, hu]
  cases a <;> cases b <;> rfl
theorem aQa (x0 x1 y0 y1 : Int) (x2 y2 : Bool) : EqA Tryz.prog 27 [.int .i64 x0, .int .i64 x1, .bool x2] [.int .i64 y0, .int .i64 y1, .bool y2] (decide (x0 = y0 ∧ x1 = y1 ∧ x2 = y2)) := ⟨by kernel_rfl, fun w => by
  have h := nO (P := Tryz.prog) (T := 27) (dd := 9998 + 1) (xs := [.int .i64 x0, .int .i64 x1, .bool x2]) (ys := [.int .i64 y0, .int .i64 y1, .bool y2]) (w := w) Tryz.underlying27 (by kernel_rfl) (eH rfl (fF iA rfl) (fF iA rfl) (kO (dd := 9998) Tryz.underlying3) (eH rfl (fF iA rfl) (fF iA rfl) (kO (dd := 9998) Tryz.underlying3) (eH rfl (fF jU rfl) (fF jU rfl) (aKt (dd := 9998) Tryz.underlying4) sC)))
  refine h.trans (congrArg (fun r => Result.ok r w) ?_)
  simp only [Bool.decide_and, Bool.and_true, Bool.and_assoc]⟩
theorem aJv : ∀ b ∈ ([⟨0, 65536, 0, 0, 65536, 0, 0, 0, 0, 0⟩] : List Body), Okb b := fun b hb => pZ ((by decide : ∀ b ∈ ([⟨0, 65536, 0, 0, 65536, 0, 0, 0, 0, 0⟩] : List Body), check b = 0) b hb)
theorem aQd : ∀ b ∈ ([⟨1, 65536, 0, 0, 65536, 0, 0, 0, 65536, 0⟩, ⟨2, 65536, 0, 0, 0, 0, 131071, 0, 0, 0⟩] : List Body), Okb b := fun b hb => pZ ((by decide : ∀ b ∈ ([⟨1, 65536, 0, 0, 65536, 0, 0, 0, 65536, 0⟩, ⟨2, 65536, 0, 0, 0, 0, 131071, 0, 0, 0⟩] : List Body), check b = 0) b hb)
theorem aPk : Okb (⟨0, 65536, 0, 0, 0, 0, 0, 0, 0, 0⟩ : Body) := pZ (by decide)
theorem aTf : iY ([⟨0, 65536, 0, 0, 65536, 0, 0, 0, 0, 0⟩] : List Body) = [] := by decide
theorem aLp : oC ([⟨0, 65536, 0, 0, 65536, 0, 0, 0, 0, 0⟩] : List Body) = ([⟨0, 65536, 0, 0, 65536, 0, 0, -16, 0, -1024⟩] : List Body) := by decide +kernel
theorem aUv : pM ([⟨0, 65536, 0, 0, 65536, 0, 0, 0, 0, 0⟩] : List Body) = false := by decide +kernel
theorem aTk : qX 17179607041 = 131071 := (aJo (by decide) (by decide)).symm
theorem aMg : len 131071 0 = 131071 := by
  unfold len
  rw [show vL 131071 0 = 17179607041 by decide, aTk]
  rfl
theorem aSw : kB (⟨1, 65536, 0, 0, 65536, 0, 0, 0, 65536, 0⟩ : Body) (⟨2, 65536, 0, 0, 0, 0, 131071, 0, 0, 0⟩ : Body) = some ⟨1, 2, 65536, 0, 1⟩ := by
  have e : rE (⟨1, 65536, 0, 0, 65536, 0, 0, 0, 65536, 0⟩ : Body) (⟨2, 65536, 0, 0, 0, 0, 131071, 0, 0, 0⟩ : Body) = ((0, 0), (131071, 0), 17179607041) := by decide
  have hu : jO 131071 0 = (65536, 0) := by unfold jO; rw [aMg]; decide
  unfold kB
  rw [if_neg (by decide)]
  unfold kN
  rw [e]
  show (if ((65536 : Int) + 65536).natAbs * ((65536 : Int) + 65536).natAbs ≤ vL 131071 0 then none else some (⟨1, 2, (jO 131071 0).1, (jO 131071 0).2, IntKind.wrap .i32 (65536 + 65536 - len 131071 0)⟩ : Con)) = _
  rw [if_neg (by decide), hu, aMg]
  decide
theorem aVm : iV ([⟨1, 65536, 0, 0, 65536, 0, 0, 0, 65536, 0⟩, ⟨2, 65536, 0, 0, 0, 0, 131071, 0, 0, 0⟩] : List Body) = [(1, 2)] := by decide
theorem sL : iY ([⟨1, 65536, 0, 0, 65536, 0, 0, 0, 65536, 0⟩, ⟨2, 65536, 0, 0, 0, 0, 131071, 0, 0, 0⟩] : List Body) = [⟨1, 2, 65536, 0, 1⟩] := by
  have h : yD (boM ([⟨1, 65536, 0, 0, 65536, 0, 0, 0, 65536, 0⟩, ⟨2, 65536, 0, 0, 0, 0, 131071, 0, 0, 0⟩] : List Body)) (1, 2) = some ⟨1, 2, 65536, 0, 1⟩ := (nL (show boM ([⟨1, 65536, 0, 0, 65536, 0, 0, 0, 65536, 0⟩, ⟨2, 65536, 0, 0, 0, 0, 131071, 0, 0, 0⟩] : List Body) 1 = some (⟨1, 65536, 0, 0, 65536, 0, 0, 0, 65536, 0⟩ : Body) from by decide) (show boM ([⟨1, 65536, 0, 0, 65536, 0, 0, 0, 65536, 0⟩, ⟨2, 65536, 0, 0, 0, 0, 131071, 0, 0, 0⟩] : List Body) 2 = some (⟨2, 65536, 0, 0, 0, 0, 131071, 0, 0, 0⟩ : Body) from by decide)).trans aSw
  unfold iY
  rw [aVm]
  simp only [List.filterMap_cons, List.filterMap_nil, h]
theorem aUa : oC ([⟨1, 65536, 0, 0, 65536, 0, 0, 0, 65536, 0⟩, ⟨2, 65536, 0, 0, 0, 0, 131071, 0, 0, 0⟩] : List Body) = ([⟨1, 65536, 0, 0, 65536, 0, 0, -16, 0, -1024⟩, ⟨2, 65536, 0, 0, 0, 0, 131071, 0, 0, 0⟩] : List Body) := by
  unfold oC kL
  rw [sL]
  decide +kernel
theorem aUc : pM ([⟨1, 65536, 0, 0, 65536, 0, 0, 0, 65536, 0⟩, ⟨2, 65536, 0, 0, 0, 0, 131071, 0, 0, 0⟩] : List Body) = false := by
  unfold pM kL
  rw [sL]
  decide +kernel
theorem aTu : dB ([⟨0, 65536, 0, 0, 65536, 0, 0, 0, 0, 0⟩] : List Body) 2 = ([⟨0, 65536, 0, 0, 65536, 0, 0, -48, 0, -2048⟩] : List Body) := by
  show oC (oC ([⟨0, 65536, 0, 0, 65536, 0, 0, 0, 0, 0⟩] : List Body)) = _
  rw [aLp]
  decide +kernel
theorem aUr : uV (⟨0, 65536, 0, 0, 0, 0, 0, 0, 0, 0⟩ : Body) = (⟨0, 65536, 0, 0, 0, 0, 0, 0, 0, 0⟩ : Body) := by decide
end Go.Proofs.YtlmcphcgiclanaaGreatDoor

namespace Go.Proofs.YtlmcphcgiclanaaGreatDoor
open Go.Bil
open Go.RowKit (Below)
open Go.Proofs
set_option maxHeartbeats 16000000 in
theorem aXd (w : World) (F : Rd w 2 (some ⟨0, 0, none⟩) 1 [[.int .u32 73856093, .int .u32 19349663]]) (N : Rd w 4 (some ⟨3, 0, none⟩) 1 [cS gY]) :
    Calls Tryz.prog 15 #[] w (fun ex w' => ∃ v, ex = .returned v ∧ (fun v w' => v = .bool true ∧ Below w.heap.size w w') v w') := by
  refine aJ #[.tmp 0] 95 Tryz.func15 rfl Tryz.results15 Tryz.ntmps15 rfl ?_
  have M0 := Mem.refl w
  refine aG (aB ?_)
  refine aA (aD (.bool false) rfl) rfl rfl ?_
  refine aE (aF (aG (aB ?_)))
  refine aA (cB [(1, .int _ _), (3, .int _ _)] _ lH rfl rfl) rfl rfl ?_
  refine cM [.agg (List.toArray _)] [aI ⟨0, 65536, 0, 0, 65536, 0, 0, 0, 0, 0⟩] rfl dG M0 rfl rfl rfl rfl (cW rfl) (by decide) (fun b1 w1 M1 => ?_)
  have hlit9 := gW (T := 40) (b := b1) (([⟨0, 65536, 0, 0, 65536, 0, 0, 0, 0, 0⟩] : List Body).map aI) (lR _) rfl (by decide)
  refine aK aKg rfl rfl rfl ?_
  refine (qO _ (F.mem M1) (N.mem M1) _ _ _ ([⟨0, 65536, 0, 0, 65536, 0, 0, 0, 0, 0⟩] : List Body) (hlit9.rd M1 (aP (i := 0) rfl)) aJv (kK (by decide)) (by decide)).mono ?_
  rintro _ w2 ⟨v2, rfl, ⟨ra, tra, rfl, h1ra, h2ra, hrra, hM2⟩⟩
  refine ⟨_, rfl, ?_⟩
  have M2 : Mem _ _ [_, _] _ := M1.call0 hM2
  rw [aLp] at hrra
  have hnra : 1 = ra.n := by simpa using hrra.1
  obtain rfl : tra = 0 := by have h : 2 * tra ≤ 0 := h2ra; omega
  refine aA (aC (.tuple (List.toArray _)) rfl) rfl rfl ?_
  refine aA (bC (.slice _ _ _) rfl rfl) rfl rfl ?_
  refine aA (bC (.agg (List.toArray _)) rfl rfl) rfl rfl ?_
  refine aM 12 (.agg [.int .i64 0, .int .i64 0, .bool false].toArray) (congrArg Value.agg (by rw [aTf, aUv]; rfl)) ?_
  refine aS jF M2 rfl rfl (fun b3 w3 M3 => ?_)
  refine aA (aD (.slice _ _ _) rfl) rfl rfl ?_
  refine bJ 2 _ hJ M3 rfl rfl rfl rfl rfl (aU rfl) rfl (fun w4 M4 => ?_)
  refine aE (aF (aG (aB ?_)))
  refine aA (cB [(0, .int _ _)] _ dZ rfl rfl) rfl rfl ?_
  refine aA (cB [(0, .int _ _), (1, .int _ _), (3, .int _ _), (6, .agg (List.toArray _))] _ lH rfl rfl) rfl rfl ?_
  refine aA (cB [(0, .int _ _)] _ dZ rfl rfl) rfl rfl ?_
  refine aA (cB [(0, .int _ _), (1, .int _ _), (5, .agg (List.toArray _))] _ lH rfl rfl) rfl rfl ?_
  refine cM [.agg (List.toArray _), .agg (List.toArray _)] [aI ⟨1, 65536, 0, 0, 65536, 0, 0, 0, 65536, 0⟩, aI ⟨2, 65536, 0, 0, 0, 0, 131071, 0, 0, 0⟩] rfl dG M4 rfl rfl rfl rfl (cW rfl) (by decide) (fun b5 w5 M5 => ?_)
  have hlit18 := gW (T := 40) (b := b5) (([⟨1, 65536, 0, 0, 65536, 0, 0, 0, 65536, 0⟩, ⟨2, 65536, 0, 0, 0, 0, 131071, 0, 0, 0⟩] : List Body).map aI) (lR _) rfl (by decide)
  refine aK aKg rfl rfl rfl ?_
  refine (qO _ (F.mem M5) (N.mem M5) _ _ _ ([⟨1, 65536, 0, 0, 65536, 0, 0, 0, 65536, 0⟩, ⟨2, 65536, 0, 0, 0, 0, 131071, 0, 0, 0⟩] : List Body) (hlit18.rd M5 (aP (i := 3) rfl)) aQd (kK (by decide)) (by decide)).mono ?_
  rintro _ w6 ⟨v6, rfl, ⟨rb, trb, rfl, h1rb, h2rb, hrrb, hM6⟩⟩
  refine ⟨_, rfl, ?_⟩
  have M6 : Mem _ _ [_, _, _, _, _] _ := M5.call0 hM6
  rw [aUa] at hrrb
  have hnrb : 2 = rb.n := by simpa using hrrb.1
  rw [sL] at h1rb
  obtain rfl : trb = 1 := by have h : 2 * trb ≤ 2 := h2rb; have g : 1 ≤ trb := h1rb; omega
  refine aA (aC (.tuple (List.toArray _)) rfl) rfl rfl ?_
  refine aA (bC (.slice _ _ _) rfl rfl) rfl rfl ?_
  refine aA (bC (.agg (List.toArray _)) rfl rfl) rfl rfl ?_
  refine aM 21 (.agg [.int .i64 1, .int .i64 1, .bool false].toArray) (congrArg Value.agg (by rw [sL, aUc]; rfl)) ?_
  refine aS jF M6 rfl rfl (fun b7 w7 M7 => ?_)
  refine aA (aD (.slice _ _ _) rfl) rfl rfl ?_
  refine bJ 5 _ hJ M7 rfl rfl rfl rfl rfl (aU rfl) rfl (fun w8 M8 => ?_)
  refine aE (aF (aG (aB ?_)))
  refine aA (cB [(1, .int _ _), (3, .int _ _)] _ lH rfl rfl) rfl rfl ?_
  refine cM [.agg (List.toArray _)] [aI ⟨0, 65536, 0, 0, 65536, 0, 0, 0, 0, 0⟩] rfl dG M8 rfl rfl rfl rfl (cW rfl) (by decide) (fun b9 w9 M9 => ?_)
  have hlit24 := gW (T := 40) (b := b9) (([⟨0, 65536, 0, 0, 65536, 0, 0, 0, 0, 0⟩] : List Body).map aI) (lR _) rfl (by decide)
  refine aK zV rfl rfl rfl ?_
  refine (jP _ (F.mem M9) (N.mem M9) _ _ _ ([⟨0, 65536, 0, 0, 65536, 0, 0, 0, 0, 0⟩] : List Body) (hlit24.rd M9 (aP (i := 6) rfl)) aJv (kK (by decide)) (by decide) 2 2 rfl (by decide)).mono ?_
  rintro _ w10 ⟨v10, rfl, ⟨rc, trc, rfl, h1rc, _, hrc, hM10⟩⟩
  refine ⟨_, rfl, ?_⟩
  have M10 : Mem _ _ [_, _, _, _, _, _, _, _] _ := M9.call0 hM10
  rw [aTu] at hrc
  have hnrc : 1 = rc.n := by simpa using hrc.1
  refine aA (aC (.tuple (List.toArray _)) rfl) rfl rfl ?_
  refine aA (bC (.slice _ _ _) rfl rfl) rfl rfl ?_
  refine aA (bC (.agg (List.toArray _)) rfl rfl) rfl rfl ?_
  refine aS jF M10 rfl rfl (fun b11 w11 M11 => ?_)
  refine aA (aD (.slice _ _ _) rfl) rfl rfl ?_
  refine bJ 8 _ hJ M11 rfl rfl rfl rfl rfl (aU rfl) rfl (fun w12 M12 => ?_)
  refine aE (aF (aG (aG (aB ?_))))
  refine aA (aC (.slice _ _ _) rfl) rfl rfl ?_
  refine aA (cR Tryz.underlying22 rfl) rfl rfl ?_
  refine aA (aO (.bool (decide _)) rfl rfl rfl) rfl rfl ?_
  refine aM 30 (.bool false) (bF (by omega)).symm ?_
  refine aA (aC (.bool false) rfl) rfl rfl ?_
  refine aA (aC (.slice _ _ _) rfl) rfl rfl ?_
  refine aA (cR Tryz.underlying22 rfl) rfl rfl ?_
  refine aA (aO (.bool (decide _)) rfl rfl rfl) rfl rfl ?_
  refine aM 34 (.bool false) (bF (by omega)).symm ?_
  refine aA (bL false (.bool false) rfl rfl) rfl rfl ?_
  refine aA (aC (.bool false) rfl) rfl rfl ?_
  refine aA (aC (.slice _ _ _) rfl) rfl rfl ?_
  refine aA (cR Tryz.underlying22 rfl) rfl rfl ?_
  refine aA (aO (.bool (decide _)) rfl rfl rfl) rfl rfl ?_
  refine aM 39 (.bool false) (bF (by omega)).symm ?_
  refine aA (bL false (.bool false) rfl rfl) rfl rfl ?_
  refine aE (aF ?_)
  refine cJ rfl ?_
  refine aN (aF (aG (aB ?_)))
  refine aA (aC (.slice _ _ _) rfl) rfl rfl ?_
  refine aA (bO (0) dG rfl rfl rfl ((hrra.rd M12 (aP (i := 1) rfl)).below_len ((show (([⟨0, 65536, 0, 0, 65536, 0, 0, -16, 0, -1024⟩] : List Body).map aI)[0]? = some (aI ⟨0, 65536, 0, 0, 65536, 0, 0, -16, 0, -1024⟩) from rfl))) ((hrra.rd M12 (aP (i := 1) rfl)).someK ((show (([⟨0, 65536, 0, 0, 65536, 0, 0, -16, 0, -1024⟩] : List Body).map aI)[0]? = some (aI ⟨0, 65536, 0, 0, 65536, 0, 0, -16, 0, -1024⟩) from rfl)))) rfl rfl ?_
  refine aA (bR 6 fC (hrra.rd M12 (aP (i := 1) rfl)) (Nat.lt_of_le_of_lt (Nat.zero_le _) ((hrra.rd M12 (aP (i := 1) rfl)).below_len ((show (([⟨0, 65536, 0, 0, 65536, 0, 0, -16, 0, -1024⟩] : List Body).map aI)[0]? = some (aI ⟨0, 65536, 0, 0, 65536, 0, 0, -16, 0, -1024⟩) from rfl)))) rfl) rfl rfl ?_
  refine aA (oP (o := 6) _ bI (hrra.rd M12 (aP (i := 1) rfl)) ((show (([⟨0, 65536, 0, 0, 65536, 0, 0, -16, 0, -1024⟩] : List Body).map aI)[0]? = some (aI ⟨0, 65536, 0, 0, 65536, 0, 0, -16, 0, -1024⟩) from rfl)) rfl rfl rfl) rfl rfl ?_
  refine aA (cB [(1, .int _ _)] _ dZ rfl rfl) rfl rfl ?_
  refine aA (oB (aAx _ _ _ _) rfl rfl) rfl rfl ?_
  refine aM 46 (.bool true) (bT (by decide)).symm ?_
  refine aA (aC (.bool true) rfl) rfl rfl ?_
  refine aA (aC (.slice _ _ _) rfl) rfl rfl ?_
  refine aA (bO (0) dG rfl rfl rfl ((hrra.rd M12 (aP (i := 1) rfl)).below_len ((show (([⟨0, 65536, 0, 0, 65536, 0, 0, -16, 0, -1024⟩] : List Body).map aI)[0]? = some (aI ⟨0, 65536, 0, 0, 65536, 0, 0, -16, 0, -1024⟩) from rfl))) ((hrra.rd M12 (aP (i := 1) rfl)).someK ((show (([⟨0, 65536, 0, 0, 65536, 0, 0, -16, 0, -1024⟩] : List Body).map aI)[0]? = some (aI ⟨0, 65536, 0, 0, 65536, 0, 0, -16, 0, -1024⟩) from rfl)))) rfl rfl ?_
  refine aA (bR 8 eO (hrra.rd M12 (aP (i := 1) rfl)) (Nat.lt_of_le_of_lt (Nat.zero_le _) ((hrra.rd M12 (aP (i := 1) rfl)).below_len ((show (([⟨0, 65536, 0, 0, 65536, 0, 0, -16, 0, -1024⟩] : List Body).map aI)[0]? = some (aI ⟨0, 65536, 0, 0, 65536, 0, 0, -16, 0, -1024⟩) from rfl)))) rfl) rfl rfl ?_
  refine aA (oP (o := 8) _ bI (hrra.rd M12 (aP (i := 1) rfl)) ((show (([⟨0, 65536, 0, 0, 65536, 0, 0, -16, 0, -1024⟩] : List Body).map aI)[0]? = some (aI ⟨0, 65536, 0, 0, 65536, 0, 0, -16, 0, -1024⟩) from rfl)) rfl rfl rfl) rfl rfl ?_
  refine aA (cB [(1, .int _ _)] _ dZ rfl rfl) rfl rfl ?_
  refine aA (oB (aAx _ _ _ _) rfl rfl) rfl rfl ?_
  refine aM 53 (.bool true) (bT (by decide)).symm ?_
  refine aA (bL true (.bool true) rfl rfl) rfl rfl ?_
  refine aA (aC (.bool true) rfl) rfl rfl ?_
  refine aA (bB 2 hJ M12 rfl rfl rfl) rfl rfl ?_
  refine aA (cB [] _ oV rfl rfl) rfl rfl ?_
  refine aA (oB (aQa _ _ _ _ _ _) rfl rfl) rfl rfl ?_
  refine aM 58 (.bool true) (bT (by decide)).symm ?_
  refine aA (bL true (.bool true) rfl rfl) rfl rfl ?_
  refine aA (aC (.bool true) rfl) rfl rfl ?_
  refine aA (aC (.slice _ _ _) rfl) rfl rfl ?_
  refine aA (bO (0) dG rfl rfl rfl ((hrrb.rd M12 (aP (i := 4) rfl)).below_len ((show (([⟨1, 65536, 0, 0, 65536, 0, 0, -16, 0, -1024⟩, ⟨2, 65536, 0, 0, 0, 0, 131071, 0, 0, 0⟩] : List Body).map aI)[0]? = some (aI ⟨1, 65536, 0, 0, 65536, 0, 0, -16, 0, -1024⟩) from rfl))) ((hrrb.rd M12 (aP (i := 4) rfl)).someK ((show (([⟨1, 65536, 0, 0, 65536, 0, 0, -16, 0, -1024⟩, ⟨2, 65536, 0, 0, 0, 0, 131071, 0, 0, 0⟩] : List Body).map aI)[0]? = some (aI ⟨1, 65536, 0, 0, 65536, 0, 0, -16, 0, -1024⟩) from rfl)))) rfl rfl ?_
  refine aA (bR 8 eO (hrrb.rd M12 (aP (i := 4) rfl)) (Nat.lt_of_le_of_lt (Nat.zero_le _) ((hrrb.rd M12 (aP (i := 4) rfl)).below_len ((show (([⟨1, 65536, 0, 0, 65536, 0, 0, -16, 0, -1024⟩, ⟨2, 65536, 0, 0, 0, 0, 131071, 0, 0, 0⟩] : List Body).map aI)[0]? = some (aI ⟨1, 65536, 0, 0, 65536, 0, 0, -16, 0, -1024⟩) from rfl)))) rfl) rfl rfl ?_
  refine aA (oP (o := 8) _ bI (hrrb.rd M12 (aP (i := 4) rfl)) ((show (([⟨1, 65536, 0, 0, 65536, 0, 0, -16, 0, -1024⟩, ⟨2, 65536, 0, 0, 0, 0, 131071, 0, 0, 0⟩] : List Body).map aI)[0]? = some (aI ⟨1, 65536, 0, 0, 65536, 0, 0, -16, 0, -1024⟩) from rfl)) rfl rfl rfl) rfl rfl ?_
  refine aA (cB [(1, .int _ _)] _ dZ rfl rfl) rfl rfl ?_
  refine aA (oB (aAx _ _ _ _) rfl rfl) rfl rfl ?_
  refine aM 66 (.bool true) (bT (by decide)).symm ?_
  refine aA (bL true (.bool true) rfl rfl) rfl rfl ?_
  refine aA (aC (.bool true) rfl) rfl rfl ?_
  refine aA (aC (.slice _ _ _) rfl) rfl rfl ?_
  refine aA (bO (1) dG rfl rfl rfl ((hrrb.rd M12 (aP (i := 4) rfl)).below_len ((show (([⟨1, 65536, 0, 0, 65536, 0, 0, -16, 0, -1024⟩, ⟨2, 65536, 0, 0, 0, 0, 131071, 0, 0, 0⟩] : List Body).map aI)[1]? = some (aI ⟨2, 65536, 0, 0, 0, 0, 131071, 0, 0, 0⟩) from rfl))) ((hrrb.rd M12 (aP (i := 4) rfl)).someK ((show (([⟨1, 65536, 0, 0, 65536, 0, 0, -16, 0, -1024⟩, ⟨2, 65536, 0, 0, 0, 0, 131071, 0, 0, 0⟩] : List Body).map aI)[1]? = some (aI ⟨2, 65536, 0, 0, 0, 0, 131071, 0, 0, 0⟩) from rfl)))) rfl rfl ?_
  refine aA (bR 8 eO (hrrb.rd M12 (aP (i := 4) rfl)) (Nat.lt_of_le_of_lt (Nat.zero_le _) ((hrrb.rd M12 (aP (i := 4) rfl)).below_len ((show (([⟨1, 65536, 0, 0, 65536, 0, 0, -16, 0, -1024⟩, ⟨2, 65536, 0, 0, 0, 0, 131071, 0, 0, 0⟩] : List Body).map aI)[1]? = some (aI ⟨2, 65536, 0, 0, 0, 0, 131071, 0, 0, 0⟩) from rfl)))) rfl) rfl rfl ?_
  refine aA (oP (o := 8) _ bI (hrrb.rd M12 (aP (i := 4) rfl)) ((show (([⟨1, 65536, 0, 0, 65536, 0, 0, -16, 0, -1024⟩, ⟨2, 65536, 0, 0, 0, 0, 131071, 0, 0, 0⟩] : List Body).map aI)[1]? = some (aI ⟨2, 65536, 0, 0, 0, 0, 131071, 0, 0, 0⟩) from rfl)) rfl rfl rfl) rfl rfl ?_
  refine aA (cB [] _ dZ rfl rfl) rfl rfl ?_
  refine aA (oB (aAx _ _ _ _) rfl rfl) rfl rfl ?_
  refine aM 74 (.bool true) (bT (by decide)).symm ?_
  refine aA (bL true (.bool true) rfl rfl) rfl rfl ?_
  refine aA (aC (.bool true) rfl) rfl rfl ?_
  refine aA (bB 5 hJ M12 rfl rfl rfl) rfl rfl ?_
  refine aA (cB [(0, .int _ _), (1, .int _ _)] _ oV rfl rfl) rfl rfl ?_
  refine aA (oB (aQa _ _ _ _ _ _) rfl rfl) rfl rfl ?_
  refine aM 79 (.bool true) (bT (by decide)).symm ?_
  refine aA (bL true (.bool true) rfl rfl) rfl rfl ?_
  refine aA (aC (.bool true) rfl) rfl rfl ?_
  refine aA (aC (.slice _ _ _) rfl) rfl rfl ?_
  refine aA (bO (0) dG rfl rfl rfl ((hrc.rd M12 (aP (i := 7) rfl)).below_len ((show (([⟨0, 65536, 0, 0, 65536, 0, 0, -48, 0, -2048⟩] : List Body).map aI)[0]? = some (aI ⟨0, 65536, 0, 0, 65536, 0, 0, -48, 0, -2048⟩) from rfl))) ((hrc.rd M12 (aP (i := 7) rfl)).someK ((show (([⟨0, 65536, 0, 0, 65536, 0, 0, -48, 0, -2048⟩] : List Body).map aI)[0]? = some (aI ⟨0, 65536, 0, 0, 65536, 0, 0, -48, 0, -2048⟩) from rfl)))) rfl rfl ?_
  refine aA (bR 6 fC (hrc.rd M12 (aP (i := 7) rfl)) (Nat.lt_of_le_of_lt (Nat.zero_le _) ((hrc.rd M12 (aP (i := 7) rfl)).below_len ((show (([⟨0, 65536, 0, 0, 65536, 0, 0, -48, 0, -2048⟩] : List Body).map aI)[0]? = some (aI ⟨0, 65536, 0, 0, 65536, 0, 0, -48, 0, -2048⟩) from rfl)))) rfl) rfl rfl ?_
  refine aA (oP (o := 6) _ bI (hrc.rd M12 (aP (i := 7) rfl)) ((show (([⟨0, 65536, 0, 0, 65536, 0, 0, -48, 0, -2048⟩] : List Body).map aI)[0]? = some (aI ⟨0, 65536, 0, 0, 65536, 0, 0, -48, 0, -2048⟩) from rfl)) rfl rfl rfl) rfl rfl ?_
  refine aA (cB [(1, .int _ _)] _ dZ rfl rfl) rfl rfl ?_
  refine aA (oB (aAx _ _ _ _) rfl rfl) rfl rfl ?_
  refine aM 87 (.bool true) (bT (by decide)).symm ?_
  refine aA (bL true (.bool true) rfl rfl) rfl rfl ?_
  refine aA (aC (.bool true) rfl) rfl rfl ?_
  refine aA (cB [(1, .int _ _)] _ lH rfl rfl) rfl rfl ?_
  refine aK aRs rfl rfl rfl ?_
  refine (xN _ ⟨0, 65536, 0, 0, 0, 0, 0, 0, 0, 0⟩ aPk).mono ?_
  rintro _ w13 ⟨v13, rfl, ⟨rfl, hb13⟩⟩
  refine ⟨_, rfl, ?_⟩
  have M13 := M12.callB hb13
  refine aM 91 (.agg (aI ⟨0, 65536, 0, 0, 0, 0, 0, 0, 0, 0⟩).toArray) (congrArg (fun b => Value.agg (aI b).toArray) aUr) ?_
  refine aA (cB [(1, .int _ _)] _ lH rfl rfl) rfl rfl ?_
  refine aA (oB (aNg ⟨0, 65536, 0, 0, 0, 0, 0, 0, 0, 0⟩ ⟨0, 65536, 0, 0, 0, 0, 0, 0, 0, 0⟩) rfl rfl) rfl rfl ?_
  refine aM 93 (.bool true) (bT (by decide)).symm ?_
  refine aA (bL true (.bool true) rfl rfl) rfl rfl ?_
  refine aA (aD (.bool true) rfl) rfl rfl ?_
  refine aE (aF (aR ?_))
  refine cH (.bool true) rfl ?_
  exact ⟨rfl, M13.below⟩
end Go.Proofs.YtlmcphcgiclanaaGreatDoor

namespace Go.Proofs.YtlmcphcgiclanaaGreatDoor
open Go.Bil
open Go.RowKit (Below)
open Go.Proofs
theorem aNj {b : Body} (h : Okb b) : check b = 0 := by
  have h1 := h.r
  have h2 := h.a
  have h3 := h.m
  have h4 := h.c
  have h5 := h.p
  have h6 := h.v
  unfold check oS
  rw [if_neg (by omega), if_neg (by omega), if_neg (by omega), if_neg (by omega), if_neg (by omega), if_neg (by omega)]
end Go.Proofs.YtlmcphcgiclanaaGreatDoor
