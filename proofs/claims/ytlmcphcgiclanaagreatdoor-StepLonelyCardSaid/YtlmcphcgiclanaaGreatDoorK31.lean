/- Part of the proof of the laws of this seat: S20i, S20j, S20k, S20l, S20m, S20n, R20a, R20b, R20c, R20d, R20e, R20f, Aw20, Aw20b, L20. No conditions. -/
import Derived.Test.YtlmcphcgiclanaaGreatDoorK5
import Derived.Test.YtlmcphcgiclanaaGreatDoorK27
import Derived.Test.YtlmcphcgiclanaaGreatDoorK30
import Derived.Test.YtlmcphcgiclanaaGreatDoorK29
import Derived.Test.YtlmcphcgiclanaaGreatDoorK28
import Derived.Test.YtlmcphcgiclanaaGreatDoorK26
import Derived.Test.YtlmcphcgiclanaaGreatDoorK18
import Derived.Test.YtlmcphcgiclanaaGreatDoorK17
import Derived.Test.YtlmcphcgiclanaaGreatDoorK3
set_option linter.unusedVariables false
set_option linter.unusedSimpArgs false
set_option linter.unnecessarySimpa false
namespace Go.Proofs.YtlmcphcgiclanaaGreatDoor
open Go.Bil
open Go.RowKit (Below)
open Go.Proofs
set_option maxHeartbeats 4000000 in
theorem nC (w : World) (a l : Int) (hl : 0 ≤ l ∧ l ≤ 2147483647) (bf : Nat) (fl : Bool) (F : Option Addr) (cf : Nat) (RF : Rd w 1 F 1 [[.pointer (some ⟨bf, 0, none⟩)]]) (hdF : 0 < 1 → ∀ q off, F = some ⟨q, off, none⟩ → q ∉ bZ [(some bf, bc [.bool fl] 4)]) (hO : Own [(some bf, bc [.bool fl] 4)] w) :
    Calls Tryz.prog 85 #[.int .i64 a, .int .i64 l, .slice F 1 cf] w (fun ex w' => ∃ v, ex = .returned v ∧ (fun v w' => v = .int .i32 (iN a l) ∧ Mem w (bZ [(some bf, bc [.bool fl] 4)]) [(some bf, bc [.bool (fl || decide (iN a l ≠ a))] 4)] w') v w') := by
  have hr := fF a hl.1
  refine aK #[.tmp 6] 34 Tryz.func85 rfl Tryz.results85 Tryz.ntmps85 rfl ?_
  have M0 := hO.mem
  refine aH (aB ?_)
  refine aA (aE (.int _ _) rfl) rfl rfl ?_
  refine aD (aF (aH (aB ?_)))
  refine aA (aC (.int _ _) rfl) rfl rfl ?_
  refine aA (aC (.int _ _) rfl) rfl rfl ?_
  refine aL aEp rfl rfl rfl ?_
  refine (uE _ a l (by omega)).mono ?_
  rintro _ w1 ⟨v1, rfl, ⟨rfl, hb1⟩⟩
  refine ⟨_, rfl, ?_⟩
  have M1 := M0.callB hb1
  refine aA (aC (.tuple (List.toArray _)) rfl) rfl rfl ?_
  refine aA (bB (.int _ _) rfl rfl) rfl rfl ?_
  refine aA (bB (.bool (decide _)) rfl rfl) rfl rfl ?_
  refine aA (aE (.int _ _) rfl) rfl rfl ?_
  refine aA (aE (.bool (decide _)) rfl) rfl rfl ?_
  refine aD (aF (aH (aH (aB ?_))))
  refine aA (aC (.slice _ _ _) rfl) rfl rfl ?_
  refine aA (bV Tryz.underlying175 rfl) rfl rfl ?_
  refine aQ 18 (.int .i64 1) (iE rfl) ?_
  refine aA (aC (.int _ _) rfl) rfl rfl ?_
  refine aD (aF (bC ?_))
  refine nO 2 (nI ?_)
  refine aH (aB ?_)
  refine aA (aO (.bool (decide _)) rfl rfl rfl) rfl rfl ?_
  refine aQ 20 (.bool true) (bT (by first | decide | omega)).symm ?_
  refine aD (aF (aH ?_))
  refine dS rfl ?_
  refine aP (aF (aH (bC (aH (aB ?_)))))
  refine aA (bK (0) aHj rfl rfl rfl ((RF.memY M1 hdF).below_len ((show ([[.pointer (some ⟨bf, 0, none⟩)]] : List (List Value))[0]? = some [.pointer (some ⟨bf, 0, none⟩)] from rfl))) ((RF.memY M1 hdF).someK ((show ([[.pointer (some ⟨bf, 0, none⟩)]] : List (List Value))[0]? = some [.pointer (some ⟨bf, 0, none⟩)] from rfl)))) rfl rfl ?_
  refine aA (kP (.pointer _) aVt (RF.memY M1 hdF) ((show ([[.pointer (some ⟨bf, 0, none⟩)]] : List (List Value))[0]? = some [.pointer (some ⟨bf, 0, none⟩)] from rfl)) rfl) rfl rfl ?_
  refine aA (aE (.pointer _) rfl) rfl rfl ?_
  refine aD (aF (aB ?_))
  refine aA (aC (.pointer _) rfl) rfl rfl ?_
  refine aA (aC (.pointer _) rfl) rfl rfl ?_
  refine aA (bA rfl) rfl rfl ?_
  refine aA (aV 0 (.bool _) mL M1 rfl rfl rfl) rfl rfl ?_
  refine aA (aC (.bool _) rfl) rfl rfl ?_
  refine kQ 27 _ rfl (fun g27 => ?_) (fun g27 => ?_)
  · refine aN rfl rfl ?_
    refine aA (bI true (.bool true) rfl rfl) rfl rfl ?_
    refine aA (bA rfl) rfl rfl ?_
    refine eL 0 (.bool true) mL M1 rfl rfl rfl rfl rfl rfl (fun w2 M2 => ?_)
    refine aD ?_
    refine dU ?_
    refine aF (aB ?_)
    refine aA (bS rfl rfl (by first | decide | omega) (by first | decide | omega)) rfl rfl ?_
    refine aQ 31 (.int .i64 1) (iE (by first | decide | omega)) ?_
    refine aA (aC (.int _ _) rfl) rfl rfl ?_
    refine aD ?_
    refine aF (nI ?_)
    refine aH (aB ?_)
    refine aA (aO (.bool (decide _)) rfl rfl rfl) rfl rfl ?_
    refine aQ 20 (.bool false) (bF (by first | decide | omega)).symm ?_
    refine aD (aF (aH ?_))
    refine cJ rfl ?_
    refine cR ?_
    refine dK (dK ?_)
    refine fC ?_
    refine aF (aH (aB ?_))
    refine aA (aC (.int _ _) rfl) rfl rfl ?_
    refine aA (bW us2 Tryz.underlying21 rfl (iP _ (by omega) (by omega))) rfl rfl ?_
    refine aA (aE (.int _ _) rfl) rfl rfl ?_
    refine aD (aF (aS ?_))
    refine cG (.int _ _) rfl ?_
    first | exact ⟨rfl, by rw [(by simp only [g27, Bool.true_or] : (fl || decide (iN a l ≠ a)) = true)]; exact M2⟩ | exact ⟨rfl, by rw [(by simp only [g27, Bool.false_or] : (fl || decide (iN a l ≠ a)) = decide (iN a l ≠ a))]; exact M2⟩
  · refine aA (aC (.bool (decide _)) rfl) rfl rfl ?_
    refine aA (bI false (.bool (decide _)) rfl rfl) rfl rfl ?_
    refine aA (bA rfl) rfl rfl ?_
    refine eL 0 (.bool (decide _)) mL M1 rfl rfl rfl rfl rfl rfl (fun w3 M3 => ?_)
    refine aD ?_
    refine dU ?_
    refine aF (aB ?_)
    refine aA (bS rfl rfl (by first | decide | omega) (by first | decide | omega)) rfl rfl ?_
    refine aQ 31 (.int .i64 1) (iE (by first | decide | omega)) ?_
    refine aA (aC (.int _ _) rfl) rfl rfl ?_
    refine aD ?_
    refine aF (nI ?_)
    refine aH (aB ?_)
    refine aA (aO (.bool (decide _)) rfl rfl rfl) rfl rfl ?_
    refine aQ 20 (.bool false) (bF (by first | decide | omega)).symm ?_
    refine aD (aF (aH ?_))
    refine cJ rfl ?_
    refine cR ?_
    refine dK (dK ?_)
    refine fC ?_
    refine aF (aH (aB ?_))
    refine aA (aC (.int _ _) rfl) rfl rfl ?_
    refine aA (bW us2 Tryz.underlying21 rfl (iP _ (by omega) (by omega))) rfl rfl ?_
    refine aA (aE (.int _ _) rfl) rfl rfl ?_
    refine aD (aF (aS ?_))
    refine cG (.int _ _) rfl ?_
    first | exact ⟨rfl, by rw [(by simp only [g27, Bool.true_or] : (fl || decide (iN a l ≠ a)) = true)]; exact M3⟩ | exact ⟨rfl, by rw [(by simp only [g27, Bool.false_or] : (fl || decide (iN a l ≠ a)) = decide (iN a l ≠ a))]; exact M3⟩
set_option maxHeartbeats 4000000 in
theorem aIk (w : World) (i : Int) (b : Body) (hb : Okb b) (bf : Nat) (fl : Bool) (hO : Own [(some bf, bc [.bool fl] 4)] w) :
    Calls Tryz.prog 83 #[.int .i64 i, (.agg (aG b).toArray), .pointer (some ⟨bf, 0, none⟩)] w (fun ex w' => ∃ v, ex = .returned v ∧ (fun v w' => v = (.agg (aG (iA b)).toArray) ∧ Mem w (bZ [(some bf, bc [.bool fl] 4)]) [(some bf, bc [.bool (fl || nJ b)] 4)] w') v w') := by
  have hv := hb.v
  refine aK #[.cell 5 40] 19 Tryz.func83 rfl Tryz.results83 Tryz.ntmps83 rfl ?_
  have M0 := hO.mem
  refine aH (aB ?_)
  refine bM (.agg (List.toArray _)) M0 rfl rfl rfl (fun b1 w1 M1 => ?_)
  refine aU mI M1 rfl rfl (fun b2 w2 M2 => ?_)
  refine aD (aF (aH (aH (aB ?_))))
  refine aA (bE 1 bO M2 rfl rfl rfl) rfl rfl ?_
  refine aL aYu rfl rfl rfl ?_
  refine (wP _ b).mono ?_
  rintro _ w3 ⟨v3, rfl, ⟨rfl, hb3⟩⟩
  refine ⟨_, rfl, ?_⟩
  have M3 := M2.callB hb3
  refine aA (oS rfl) rfl rfl ?_
  refine aD (aF ?_)
  refine aY rfl (fun h8 => ?_) (fun h8 => ?_)
  · refine aB ?_
    refine aA (aI 8 fD rfl) rfl rfl ?_
    refine aA (aI 1 dJ rfl) rfl rfl ?_
    refine aA (aV 1 (.int _ _) aZ M3 rfl rfl rfl) rfl rfl ?_
    refine aA (bW gA Tryz.underlying2 rfl (kR _ (by omega) (by omega))) rfl rfl ?_
    refine aA (jO rfl rfl (by omega) (by omega)) rfl rfl ?_
    refine cF [.pointer _] [[.pointer (some ⟨bf, 0, none⟩)]] rfl aHj M3 rfl rfl rfl rfl (cO rfl) (by decide) (fun b4 w4 M4 => ?_)
    have hlit14 := iK (T := 133) (sz := 1) (b := b4) (nn := 1) [[.pointer (some ⟨bf, 0, none⟩)]] (by simp) rfl (by decide)
    refine aL aPa rfl rfl rfl ?_
    refine (nC _ (b.vy - 1024) 16777216 ⟨by decide, by decide⟩ bf _ _ 1 (hlit14.rd M4 (aM (i := 3) rfl)) (hlit14.awayB M4 3 0 rfl rfl rfl) (M4.ownSeg 0 1)).mono ?_
    rintro _ w5 ⟨v5, rfl, ⟨rfl, hM5⟩⟩
    refine ⟨_, rfl, ?_⟩
    have M5 : Mem _ _ [_, _, _, _] _ := M4.seg 0 1 hM5
    refine aA (aI 8 fD rfl) rfl rfl ?_
    refine aA (aI 1 dJ rfl) rfl rfl ?_
    refine eL 1 (.int _ _) aZ M5 rfl rfl rfl rfl rfl rfl (fun w6 M6 => ?_)
    refine aD (aF (aH (aB ?_)))
    refine aA (bE 1 bO M6 rfl rfl rfl) rfl rfl ?_
    refine bL 2 _ bO M6 rfl rfl rfl rfl rfl (aW rfl) rfl (fun w7 M7 => ?_)
    refine aD (aF (aS ?_))
    refine kC 2 bO M7 rfl rfl rfl ?_
    exact ⟨by unfold iA; rw [if_neg h8]; rfl, by rw [show nJ b = decide (iN (b.vy - 1024) 16777216 ≠ b.vy - 1024) by unfold nJ; rw [decide_eq_true h8, Bool.true_and]]; exact M7.keep [true, false, false, false]⟩
  · refine aP (aF (aH (aB ?_)))
    refine aA (bE 1 bO M3 rfl rfl rfl) rfl rfl ?_
    refine bL 2 _ bO M3 rfl rfl rfl rfl rfl (aW rfl) rfl (fun w8 M8 => ?_)
    refine aD (aF (aS ?_))
    refine kC 2 bO M8 rfl rfl rfl ?_
    exact ⟨by unfold iA; rw [if_pos (Decidable.not_not.1 h8)]; rfl, by rw [show nJ b = false by unfold nJ; rw [decide_eq_false h8, Bool.false_and], Bool.or_false]; exact M8.keep [true, false, false]⟩
set_option maxHeartbeats 4000000 in
theorem aGg (w : World) (A : Option Addr) (n c : Nat) (xs : List Body) (R : Rd w 10 A n (xs.map aG)) (hb : ∀ b ∈ xs, Okb b) (hn : n ≤ 1048576) (bf : Nat) (hO : Own [(some bf, bc [.bool false] 4)] w) (hdA : 0 < n → ∀ q off, A = some ⟨q, off, none⟩ → q ∉ bZ [(some bf, bc [.bool false] 4)]) :
    Calls Tryz.prog 82 #[.slice A n c, .func (.func 83) #[] #[.pointer (some ⟨bf, 0, none⟩)]] w (fun ex w' => ∃ v, ex = .returned v ∧ (fun v w' => ∃ r : Row, v = .slice r.A r.n r.c ∧ aX 40 10 r.A r.n r.c ((kE xs).map aG) r.e ∧ Mem w (bZ [(some bf, bc [.bool false] 4)]) [(some bf, bc [.bool (xs.any nJ)] 4), r.e] w') v w') := by
  have hlen : xs.length = n := by simpa using R.len
  have hbd := R.bound
  refine aK #[.tmp 4] 24 Tryz.func82 rfl Tryz.results82 Tryz.ntmps82 rfl ?_
  have M0 := hO.mem
  refine aH (aB ?_)
  refine aA (aE (.slice _ _ _) rfl) rfl rfl ?_
  refine aD (aF (aH (aB ?_)))
  refine aA (aE (.slice _ _ _) rfl) rfl rfl ?_
  have M1 := M0.dummy default
  refine aD (aF (aH (aH (aB ?_))))
  refine aA (aC (.slice _ _ _) rfl) rfl rfl ?_
  refine aA (bV Tryz.underlying22 rfl) rfl rfl ?_
  refine aA (aC (.int _ _) rfl) rfl rfl ?_
  refine aD (aF (bC ?_))
  refine dT (σ := Nat × Row) [1, 4, 8, 9] (fun (k, q) => [(5, .slice q.A q.n q.c), (10, .int .i64 (k : Int))]) (fun (k, q) w' => (k ≤ n ∧ aX 40 10 q.A q.n q.c (((xs.take k).map iA).map aG) q.e) ∧ Mem w (bZ [(some bf, bc [.bool false] 4)]) [(some bf, bc [.bool ((xs.take k).any nJ)] 4), q.e] w') (fun (k, q) => n - k) (0, gW) (bX rfl (bX rfl fH)) (⟨⟨by omega, aX.nil _ _ _⟩, M1⟩) ?_
  rintro ⟨k, q⟩ ρ2 w2 ⟨⟨hk, hq⟩, hM2⟩
  have htl := List.length_take_le k xs
  have hqn : (xs.take k).length = q.n := by simpa using hq.1
  refine aH (aB ?_)
  refine aA (aO (.bool (decide _)) rfl rfl rfl) rfl rfl ?_
  refine aD (aF (aH ?_))
  refine aY rfl (fun h11 => ?_) (fun h11 => ?_)
  · obtain ⟨xb, hxb⟩ := cS (xs := xs) (k := k) hlen (by omega)
    refine aP (aF (aH (bC (aH (aB ?_)))))
    refine aA (aC (.int _ _) rfl) rfl rfl ?_
    refine aA (bK (k) cA rfl rfl rfl ((R.memY hM2 hdA).below_len (aJ aG hxb)) ((R.memY hM2 hdA).someK (aJ aG hxb))) rfl rfl ?_
    refine aA (cM _ bO (R.memY hM2 hdA) (aJ aG hxb) rfl) rfl rfl ?_
    refine aU mI hM2 rfl rfl (fun b3 w3 M3 => ?_)
    refine aA (aE (.int _ _) rfl) rfl rfl ?_
    refine bL 2 _ bO M3 rfl rfl rfl rfl rfl (aW rfl) rfl (fun w4 M4 => ?_)
    refine aD (aF (aB ?_))
    refine aA (aC (.slice _ _ _) rfl) rfl rfl ?_
    refine aA (aC (.func _ _ _) rfl) rfl rfl ?_
    refine aA (aC (.int _ _) rfl) rfl rfl ?_
    refine aA (bE 2 bO M4 rfl rfl rfl) rfl rfl ?_
    refine aL aYm rfl rfl rfl ?_
    refine (aIk _ _ xb (hb xb (List.mem_of_getElem? hxb)) bf _ (M4.ownSeg 0 1)).mono ?_
    rintro _ w5 ⟨v5, rfl, ⟨rfl, hM5⟩⟩
    refine ⟨_, rfl, ?_⟩
    have M5 : Mem _ _ [_, _, _] _ := M4.seg 0 1 hM5
    refine cF [.agg (List.toArray _)] [aG (iA xb)] rfl cA M5 rfl rfl rfl rfl (cO rfl) (by decide) (fun b6 w6 M6 => ?_)
    refine dV 1 [aG (iA xb)] cA M6 rfl rfl rfl rfl rfl hq rfl (by simp [aG, Go.Bil.one]) (cV.ofMem 3 M6 rfl) (by omega) (fun A7 c7 e7 w7 M7 hR7 => ?_)
    refine aA (aE (.slice _ _ _) rfl) rfl rfl ?_
    refine aD ?_
    refine dU ?_
    refine aF (aB ?_)
    refine aA (bS rfl rfl (by omega) (by omega)) rfl rfl ?_
    refine aA (aC (.int _ _) rfl) rfl rfl ?_
    refine aD ?_
    refine cK (k + 1, ⟨A7, q.n + 1, c7, e7⟩) (bX rfl (bX rfl fH)) (cQ rfl (cQ rfl (cQ rfl (cQ rfl jF)))) ?_ ?_
    · exact ⟨⟨by omega, by rw [cP hxb, List.map_append, List.map_append]; exact hR7⟩, by rw [cP hxb, List.any_append, List.any_cons, List.any_nil, Bool.or_false]; exact M7.keep [true, true, false, false]⟩
    · (show n - (k + 1) < n - k; omega)
  · have hkn : k = n := by omega
    rw [List.take_of_length_le (by omega)] at hq
    rw [List.take_of_length_le (by omega)] at hM2
    refine cR ?_
    refine dK ?_
    refine dH ?_
    refine fC ?_
    refine aF (aH (aB ?_))
    refine aA (aC (.slice _ _ _) rfl) rfl rfl ?_
    refine aA (aE (.slice _ _ _) rfl) rfl rfl ?_
    refine aD (aF (aS ?_))
    refine cG (.slice _ _ _) rfl ?_
    exact ⟨q, rfl, hq, hM2⟩
set_option maxHeartbeats 4000000 in
theorem sL (w : World) (A : Option Addr) (n c : Nat) (xs : List Body) (R : Rd w 10 A n (xs.map aG)) (hb : ∀ b ∈ xs, Okb b) (hn : n ≤ 1048576) :
    Calls Tryz.prog 53 #[.slice A n c] w (fun ex w' => ∃ v, ex = .returned v ∧ (fun v w' => ∃ r : Row, v = .tuple #[.slice r.A r.n r.c, .bool (xs.any nJ)] ∧ aX 40 10 r.A r.n r.c ((kE xs).map aG) r.e ∧ Mem w [] [r.e] w') v w') := by
  refine aK #[.tmp 2, .tmp 3] 11 Tryz.func53 rfl Tryz.results53 Tryz.ntmps53 rfl ?_
  have M0 := Mem.refl w
  refine aH (aB ?_)
  refine aA (aE (.slice _ _ _) rfl) rfl rfl ?_
  refine aA (aE (.bool false) rfl) rfl rfl ?_
  refine aD (aF (aH (aB ?_)))
  refine aU aNq M0 rfl rfl (fun b1 w1 M1 => ?_)
  refine eL 0 (.bool false) mL M1 rfl rfl rfl rfl rfl rfl (fun w2 M2 => ?_)
  refine aD (aF (aH (aB ?_)))
  refine aA (aC (.slice _ _ _) rfl) rfl rfl ?_
  refine aA (dL [] [.pointer _] rfl rfl) rfl rfl ?_
  refine aL aUf rfl rfl rfl ?_
  refine (aGg _ A n c xs (R.mem M2) hb hn b1 (M2.ownSeg 0 1) (M2.away 0 1 R (by simp))).mono ?_
  rintro _ w3 ⟨v3, rfl, ⟨r, rfl, hr, hM3⟩⟩
  refine ⟨_, rfl, ?_⟩
  have M3 : Mem _ _ [_, _] _ := M2.seg 0 1 hM3
  refine aA (aE (.slice _ _ _) rfl) rfl rfl ?_
  refine aD (aF (aH ?_))
  refine bP [(0, 0), (1, 1), (2, 0), (3, 0)] mixed rfl (by kernel_rfl) (fun w4 hb4 hh4 => ?_)
  have M4 := M3.drew hb4 hh4
  refine aR rfl rfl rfl (fun _ => aC (.slice _ _ _) rfl) ?_
  refine cD rfl rfl rfl (aV 0 (.bool _) mL M4 rfl rfl rfl) ?_
  refine aR rfl rfl rfl (fun _ => aE (.slice _ _ _) rfl) ?_
  refine aR rfl rfl rfl (fun _ => aE (.bool _) rfl) ?_
  refine cB ?_
  refine aF (aS ?_)
  refine fV (.slice _ _ _) (.bool _) rfl rfl ?_
  exact ⟨r, rfl, hr, M4.keep [false, true]⟩
end Go.Proofs.YtlmcphcgiclanaaGreatDoor

namespace Go.Proofs.YtlmcphcgiclanaaGreatDoor
open Go.Bil
open Go.RowKit (Below)
open Go.Proofs
set_option maxHeartbeats 4000000 in
theorem aIy (w : World) (i : Nat) (b : Body) (hb : Okb b) (bf bl : Nat) (fl : Bool) (C : Option Addr) (m cm : Nat) (l : List (Int × Int)) (RS : Rd w 2 C m (l.map bU)) (s : Int × Int) (hs : l[i]? = some s) (hsb : (-1152921504606846976 ≤ s.1 ∧ s.1 ≤ 1152921504606846976) ∧ -1152921504606846976 ≤ s.2 ∧ s.2 ≤ 1152921504606846976) (hO : Own [(some bf, bc [.bool fl] 4), (some bl, bc [.slice C m cm] 97)] w) (hdS : 0 < m → ∀ q off, C = some ⟨q, off, none⟩ → q ∉ bZ [(some bf, bc [.bool fl] 4), (some bl, bc [.slice C m cm] 97)]) :
    Calls Tryz.prog 86 #[.int .i64 (i : Int), (.agg (aG b).toArray), .pointer (some ⟨bl, 0, none⟩), .pointer (some ⟨bf, 0, none⟩)] w (fun ex w' => ∃ v, ex = .returned v ∧ (fun v w' => v = (.agg (aG (rK b s.1 s.2)).toArray) ∧ Mem w (bZ [(some bf, bc [.bool fl] 4), (some bl, bc [.slice C m cm] 97)]) [(some bf, bc [.bool (fl || aIx b s.1 s.2)] 4), (some bl, bc [.slice C m cm] 97)] w') v w') := by
  have hv := hb.v
  have hpp := hb.p
  have hlm : l.length = m := by simpa using RS.len
  have hil := (List.getElem?_eq_some_iff.1 hs).1
  refine aK #[.cell 6 40] 50 Tryz.func86 rfl Tryz.results86 Tryz.ntmps86 rfl ?_
  have M0 := hO.mem
  refine aH (aB ?_)
  refine bM (.agg (List.toArray _)) M0 rfl rfl rfl (fun b1 w1 M1 => ?_)
  refine aU mI M1 rfl rfl (fun b2 w2 M2 => ?_)
  refine aD (aF (aH ?_))
  refine bP [(0, 0), (1, 0), (2, 1), (3, 0), (4, 1), (5, 0), (6, 1), (7, 1), (8, 1), (9, 0), (10, 0), (11, 0), (12, 1), (13, 0), (14, 0), (15, 0), (16, 0)] mixed rfl (by kernel_rfl) (fun w3 hb3 hh3 => ?_)
  have M3 := M2.drew hb3 hh3
  refine aR rfl rfl rfl (fun _ => aI 6 eK rfl) ?_
  refine aR rfl rfl rfl (fun _ => aI 0 dO rfl) ?_
  refine cD rfl rfl rfl (aV 2 (.int _ _) aZ M3 rfl rfl rfl) ?_
  refine aR rfl rfl rfl (fun _ => bW gA Tryz.underlying2 rfl (kR _ (by omega) (by omega))) ?_
  refine cD rfl rfl rfl (aV 1 (.slice _ _ _) xQ M3 rfl rfl rfl) ?_
  refine aR rfl rfl rfl (fun _ => aC (.int _ _) rfl) ?_
  refine cD rfl rfl rfl (bK (i) aBm rfl rfl rfl ((RS.memY M3 hdS).below_len (aJ bU hs)) ((RS.memY M3 hdS).someK (aJ bU hs))) ?_
  refine cD rfl rfl rfl (bR 0 vM (RS.memY M3 hdS) (Nat.lt_of_le_of_lt (Nat.zero_le _) ((RS.memY M3 hdS).below_len (aJ bU hs))) rfl) ?_
  refine cD rfl rfl rfl (fB (o := 0) (.int _ _) jZ (RS.memY M3 hdS) (aJ bU hs) rfl rfl) ?_
  refine aR rfl rfl rfl (fun _ => bS rfl rfl (by omega) (by omega)) ?_
  refine aR rfl rfl rfl (fun _ => aI 8 fD rfl) ?_
  refine aR rfl rfl rfl (fun _ => aI 0 dO rfl) ?_
  refine cD rfl rfl rfl (aV 2 (.int _ _) aZ M3 rfl rfl rfl) ?_
  refine aR rfl rfl rfl (fun _ => iG rfl rfl (by decide)) ?_
  refine gM 22 (.int .i32 (b.vx / 64)) (iE (aBv _)) ?_
  refine aR rfl rfl rfl (fun _ => bW gA Tryz.underlying2 rfl (kR _ (by omega) (by omega))) ?_
  refine aR rfl rfl rfl (fun _ => bS rfl rfl (by omega) (by omega)) ?_
  refine gM 24 (.int .i64 (aGv b s.1)) rfl ?_
  refine aR rfl rfl rfl (fun _ => aE (.int _ _) rfl) ?_
  refine cB ?_
  refine aF (aH ?_)
  refine bP [(0, 0), (1, 0), (2, 1), (3, 0), (4, 1), (5, 0), (6, 1), (7, 1), (8, 1), (9, 0), (10, 0), (11, 0), (12, 1), (13, 0), (14, 0), (15, 0), (16, 0)] mixed rfl (by kernel_rfl) (fun w4 hb4 hh4 => ?_)
  have M4 := M3.drew hb4 hh4
  refine aR rfl rfl rfl (fun _ => aI 6 eK rfl) ?_
  refine aR rfl rfl rfl (fun _ => aI 1 dJ rfl) ?_
  refine cD rfl rfl rfl (aV 2 (.int _ _) aZ M4 rfl rfl rfl) ?_
  refine aR rfl rfl rfl (fun _ => bW gA Tryz.underlying2 rfl (kR _ (by omega) (by omega))) ?_
  refine cD rfl rfl rfl (aV 1 (.slice _ _ _) xQ M4 rfl rfl rfl) ?_
  refine aR rfl rfl rfl (fun _ => aC (.int _ _) rfl) ?_
  refine cD rfl rfl rfl (bK (i) aBm rfl rfl rfl ((RS.memY M4 hdS).below_len (aJ bU hs)) ((RS.memY M4 hdS).someK (aJ bU hs))) ?_
  refine cD rfl rfl rfl (bR 1 vW (RS.memY M4 hdS) (Nat.lt_of_le_of_lt (Nat.zero_le _) ((RS.memY M4 hdS).below_len (aJ bU hs))) rfl) ?_
  refine cD rfl rfl rfl (fB (o := 1) (.int _ _) jZ (RS.memY M4 hdS) (aJ bU hs) rfl rfl) ?_
  refine aR rfl rfl rfl (fun _ => bS rfl rfl (by omega) (by omega)) ?_
  refine aR rfl rfl rfl (fun _ => aI 8 fD rfl) ?_
  refine aR rfl rfl rfl (fun _ => aI 1 dJ rfl) ?_
  refine cD rfl rfl rfl (aV 2 (.int _ _) aZ M4 rfl rfl rfl) ?_
  refine aR rfl rfl rfl (fun _ => iG rfl rfl (by decide)) ?_
  refine gM 38 (.int .i32 (b.vy / 64)) (iE (aBv _)) ?_
  refine aR rfl rfl rfl (fun _ => bW gA Tryz.underlying2 rfl (kR _ (by omega) (by omega))) ?_
  refine aR rfl rfl rfl (fun _ => bS rfl rfl (by omega) (by omega)) ?_
  refine gM 40 (.int .i64 (aFh b s.2)) rfl ?_
  refine aR rfl rfl rfl (fun _ => aE (.int _ _) rfl) ?_
  refine cB ?_
  refine aF (aH (aB ?_))
  refine aA (aC (.int _ _) rfl) rfl rfl ?_
  refine cF [.pointer _] [[.pointer (some ⟨bf, 0, none⟩)]] rfl aHj M4 rfl rfl rfl rfl (cO rfl) (by decide) (fun b5 w5 M5 => ?_)
  have hlit42 := iK (T := 133) (sz := 1) (b := b5) (nn := 1) [[.pointer (some ⟨bf, 0, none⟩)]] (by simp) rfl (by decide)
  refine aL aPa rfl rfl rfl ?_
  refine (nC _ (aGv b s.1) 1073741824 ⟨by decide, by decide⟩ bf _ _ 1 (hlit42.rd M5 (aM (i := 4) rfl)) (hlit42.awayB M5 4 0 rfl rfl rfl) (M5.ownSeg 0 1)).mono ?_
  rintro _ w6 ⟨v6, rfl, ⟨rfl, hM6⟩⟩
  refine ⟨_, rfl, ?_⟩
  have M6 : Mem _ _ [_, _, _, _, _] _ := M5.seg 0 1 hM6
  refine aA (aC (.int _ _) rfl) rfl rfl ?_
  refine cF [.pointer _] [[.pointer (some ⟨bf, 0, none⟩)]] rfl aHj M6 rfl rfl rfl rfl (cO rfl) (by decide) (fun b7 w7 M7 => ?_)
  have hlit45 := iK (T := 133) (sz := 1) (b := b7) (nn := 1) [[.pointer (some ⟨bf, 0, none⟩)]] (by simp) rfl (by decide)
  refine aL aPa rfl rfl rfl ?_
  refine (nC _ (aFh b s.2) 1073741824 ⟨by decide, by decide⟩ bf _ _ 1 (hlit45.rd M7 (aM (i := 5) rfl)) (hlit45.awayB M7 5 0 rfl rfl rfl) (M7.ownSeg 0 1)).mono ?_
  rintro _ w8 ⟨v8, rfl, ⟨rfl, hM8⟩⟩
  refine ⟨_, rfl, ?_⟩
  have M8 : Mem _ _ [_, _, _, _, _, _] _ := M7.seg 0 1 hM8
  refine aA (cI [(0, .int _ _), (1, .int _ _)] _ eI rfl rfl) rfl rfl ?_
  refine aA (aI 6 eK rfl) rfl rfl ?_
  refine aAr 2 _ bJ M8 rfl rfl rfl rfl rfl (aW rfl) (Nat.le_of_ble_eq_true rfl) (fun w9 M9 => ?_)
  refine aD (aF (aH (aB ?_)))
  refine aA (bE 2 bO M9 rfl rfl rfl) rfl rfl ?_
  refine bL 3 _ bO M9 rfl rfl rfl rfl rfl (aW rfl) rfl (fun w10 M10 => ?_)
  refine aD (aF (aS ?_))
  refine kC 3 bO M10 rfl rfl rfl ?_
  exact ⟨rfl, by rw [show (fl || aIx b s.1 s.2) = ((fl || decide (iN (aGv b s.1) 1073741824 ≠ aGv b s.1)) || decide (iN (aFh b s.2) 1073741824 ≠ aFh b s.2)) from (Bool.or_assoc _ _ _).symm]; exact M10.keep [true, true, false, false, false, false]⟩
end Go.Proofs.YtlmcphcgiclanaaGreatDoor

namespace Go.Proofs.YtlmcphcgiclanaaGreatDoor
open Go.Bil
open Go.RowKit (Below)
open Go.Proofs
set_option maxHeartbeats 4000000 in
theorem aGe (w : World) (A : Option Addr) (n c : Nat) (xs : List Body) (R : Rd w 10 A n (xs.map aG)) (hb : ∀ b ∈ xs, Okb b) (hn : n ≤ 1048576) (bf bl : Nat) (G : Body → Int × Int) (hG : ∀ b ∈ xs, (-1152921504606846976 ≤ (G b).1 ∧ (G b).1 ≤ 1152921504606846976) ∧ -1152921504606846976 ≤ (G b).2 ∧ (G b).2 ≤ 1152921504606846976) (C : Option Addr) (cm : Nat) (RS : Rd w 2 C n ((xs.map G).map bU)) (hO : Own [(some bf, bc [.bool false] 4), (some bl, bc [.slice C n cm] 97)] w) (hdA : 0 < n → ∀ q off, A = some ⟨q, off, none⟩ → q ∉ bZ [(some bf, bc [.bool false] 4), (some bl, bc [.slice C n cm] 97)]) (hdS : 0 < n → ∀ q off, C = some ⟨q, off, none⟩ → q ∉ bZ [(some bf, bc [.bool false] 4), (some bl, bc [.slice C n cm] 97)]) :
    Calls Tryz.prog 82 #[.slice A n c, .func (.func 86) #[] #[.pointer (some ⟨bl, 0, none⟩), .pointer (some ⟨bf, 0, none⟩)]] w (fun ex w' => ∃ v, ex = .returned v ∧ (fun v w' => ∃ r : Row, v = .slice r.A r.n r.c ∧ aX 40 10 r.A r.n r.c ((xs.map (fun b => rK b (G b).1 (G b).2)).map aG) r.e ∧ Mem w (bZ [(some bf, bc [.bool false] 4), (some bl, bc [.slice C n cm] 97)]) [(some bf, bc [.bool (xs.any (fun b => aIx b (G b).1 (G b).2))] 4), (some bl, bc [.slice C n cm] 97), r.e] w') v w') := by
  have hlen : xs.length = n := by simpa using R.len
  have hbd := R.bound
  refine aK #[.tmp 4] 24 Tryz.func82 rfl Tryz.results82 Tryz.ntmps82 rfl ?_
  have M0 := hO.mem
  refine aH (aB ?_)
  refine aA (aE (.slice _ _ _) rfl) rfl rfl ?_
  refine aD (aF (aH (aB ?_)))
  refine aA (aE (.slice _ _ _) rfl) rfl rfl ?_
  have M1 := M0.dummy default
  refine aD (aF (aH (aH (aB ?_))))
  refine aA (aC (.slice _ _ _) rfl) rfl rfl ?_
  refine aA (bV Tryz.underlying22 rfl) rfl rfl ?_
  refine aA (aC (.int _ _) rfl) rfl rfl ?_
  refine aD (aF (bC ?_))
  refine dT (σ := Nat × Row) [1, 4, 8, 9] (fun (k, q) => [(5, .slice q.A q.n q.c), (10, .int .i64 (k : Int))]) (fun (k, q) w' => (k ≤ n ∧ aX 40 10 q.A q.n q.c (((xs.take k).map (fun b => rK b (G b).1 (G b).2)).map aG) q.e) ∧ Mem w (bZ [(some bf, bc [.bool false] 4), (some bl, bc [.slice C n cm] 97)]) [(some bf, bc [.bool ((xs.take k).any (fun b => aIx b (G b).1 (G b).2))] 4), (some bl, bc [.slice C n cm] 97), q.e] w') (fun (k, q) => n - k) (0, gW) (bX rfl (bX rfl fH)) (⟨⟨by omega, aX.nil _ _ _⟩, M1⟩) ?_
  rintro ⟨k, q⟩ ρ2 w2 ⟨⟨hk, hq⟩, hM2⟩
  have htl := List.length_take_le k xs
  have hqn : (xs.take k).length = q.n := by simpa using hq.1
  refine aH (aB ?_)
  refine aA (aO (.bool (decide _)) rfl rfl rfl) rfl rfl ?_
  refine aD (aF (aH ?_))
  refine aY rfl (fun h11 => ?_) (fun h11 => ?_)
  · obtain ⟨xb, hxb⟩ := cS (xs := xs) (k := k) hlen (by omega)
    refine aP (aF (aH (bC (aH (aB ?_)))))
    refine aA (aC (.int _ _) rfl) rfl rfl ?_
    refine aA (bK (k) cA rfl rfl rfl ((R.memY hM2 hdA).below_len (aJ aG hxb)) ((R.memY hM2 hdA).someK (aJ aG hxb))) rfl rfl ?_
    refine aA (cM _ bO (R.memY hM2 hdA) (aJ aG hxb) rfl) rfl rfl ?_
    refine aU mI hM2 rfl rfl (fun b3 w3 M3 => ?_)
    refine aA (aE (.int _ _) rfl) rfl rfl ?_
    refine bL 3 _ bO M3 rfl rfl rfl rfl rfl (aW rfl) rfl (fun w4 M4 => ?_)
    refine aD (aF (aB ?_))
    refine aA (aC (.slice _ _ _) rfl) rfl rfl ?_
    refine aA (aC (.func _ _ _) rfl) rfl rfl ?_
    refine aA (aC (.int _ _) rfl) rfl rfl ?_
    refine aA (bE 3 bO M4 rfl rfl rfl) rfl rfl ?_
    refine aL aYo rfl rfl rfl ?_
    refine (aIy _ k xb (hb xb (List.mem_of_getElem? hxb)) bf bl _ C n cm (xs.map G) (RS.memY M4 hdS) (G xb) (aJ G hxb) (hG xb (List.mem_of_getElem? hxb)) (M4.ownSeg 0 2) (M4.away 0 2 RS hdS)).mono ?_
    rintro _ w5 ⟨v5, rfl, ⟨rfl, hM5⟩⟩
    refine ⟨_, rfl, ?_⟩
    have M5 : Mem _ _ [_, _, _, _] _ := M4.seg 0 2 hM5
    refine cF [.agg (List.toArray _)] [aG (rK xb (G xb).1 (G xb).2)] rfl cA M5 rfl rfl rfl rfl (cO rfl) (by decide) (fun b6 w6 M6 => ?_)
    refine dV 2 [aG (rK xb (G xb).1 (G xb).2)] cA M6 rfl rfl rfl rfl rfl hq rfl (by simp [aG, Go.Bil.one]) (cV.ofMem 4 M6 rfl) (by omega) (fun A7 c7 e7 w7 M7 hR7 => ?_)
    refine aA (aE (.slice _ _ _) rfl) rfl rfl ?_
    refine aD ?_
    refine dU ?_
    refine aF (aB ?_)
    refine aA (bS rfl rfl (by omega) (by omega)) rfl rfl ?_
    refine aA (aC (.int _ _) rfl) rfl rfl ?_
    refine aD ?_
    refine cK (k + 1, ⟨A7, q.n + 1, c7, e7⟩) (bX rfl (bX rfl fH)) (cQ rfl (cQ rfl (cQ rfl (cQ rfl jF)))) ?_ ?_
    · exact ⟨⟨by omega, by rw [cP hxb, List.map_append, List.map_append]; exact hR7⟩, by rw [cP hxb, List.any_append, List.any_cons, List.any_nil, Bool.or_false]; exact M7.keep [true, true, true, false, false]⟩
    · (show n - (k + 1) < n - k; omega)
  · have hkn : k = n := by omega
    rw [List.take_of_length_le (by omega)] at hq
    rw [List.take_of_length_le (by omega)] at hM2
    refine cR ?_
    refine dK ?_
    refine dH ?_
    refine fC ?_
    refine aF (aH (aB ?_))
    refine aA (aC (.slice _ _ _) rfl) rfl rfl ?_
    refine aA (aE (.slice _ _ _) rfl) rfl rfl ?_
    refine aD (aF (aS ?_))
    refine cG (.slice _ _ _) rfl ?_
    exact ⟨q, rfl, hq, hM2⟩
set_option maxHeartbeats 4000000 in
theorem aDe (w : World) (A : Option Addr) (n c : Nat) (xs : List Body) (R : Rd w 10 A n (xs.map aG)) (hb : ∀ b ∈ xs, Okb b) (hn : n ≤ 1048576) (G : Body → Int × Int) (hG : ∀ b ∈ xs, (-1152921504606846976 ≤ (G b).1 ∧ (G b).1 ≤ 1152921504606846976) ∧ -1152921504606846976 ≤ (G b).2 ∧ (G b).2 ≤ 1152921504606846976) (C : Option Addr) (cm : Nat) (RS : Rd w 2 C n ((xs.map G).map bU)) :
    Calls Tryz.prog 54 #[.slice A n c, .slice C n cm] w (fun ex w' => ∃ v, ex = .returned v ∧ (fun v w' => ∃ r : Row, v = .tuple #[.slice r.A r.n r.c, .bool (xs.any (fun b => aIx b (G b).1 (G b).2))] ∧ aX 40 10 r.A r.n r.c ((xs.map (fun b => rK b (G b).1 (G b).2)).map aG) r.e ∧ Mem w [] [r.e] w') v w') := by
  refine aK #[.tmp 4, .tmp 5] 13 Tryz.func54 rfl Tryz.results54 Tryz.ntmps54 rfl ?_
  have M0 := Mem.refl w
  refine aH (aB ?_)
  refine bM (.slice _ _ _) M0 rfl rfl rfl (fun b1 w1 M1 => ?_)
  refine aA (aE (.slice _ _ _) rfl) rfl rfl ?_
  refine aA (aE (.bool false) rfl) rfl rfl ?_
  refine aD (aF (aH (aB ?_)))
  refine aU aNq M1 rfl rfl (fun b2 w2 M2 => ?_)
  refine eL 1 (.bool false) mL M2 rfl rfl rfl rfl rfl rfl (fun w3 M3 => ?_)
  refine aD (aF (aH (aB ?_)))
  have M4 : Mem _ _ [_, _] _ := Mem.swap2 M3
  refine aA (aC (.slice _ _ _) rfl) rfl rfl ?_
  refine aA (dL [] [.pointer _, .pointer _] rfl rfl) rfl rfl ?_
  refine aL aUf rfl rfl rfl ?_
  refine (aGe _ A n c xs (R.mem M4) hb hn b2 b1 G hG C cm (RS.mem M4) (M4.ownSeg 0 2) (M4.away 0 2 R (by simp)) (M4.away 0 2 RS (by simp))).mono ?_
  rintro _ w5 ⟨v5, rfl, ⟨r, rfl, hr, hM5⟩⟩
  refine ⟨_, rfl, ?_⟩
  have M5 : Mem _ _ [_, _, _] _ := M4.seg 0 2 hM5
  refine aA (aE (.slice _ _ _) rfl) rfl rfl ?_
  refine aD (aF (aH ?_))
  refine bP [(0, 0), (1, 1), (2, 0), (3, 0)] mixed rfl (by kernel_rfl) (fun w6 hb6 hh6 => ?_)
  have M6 := M5.drew hb6 hh6
  refine aR rfl rfl rfl (fun _ => aC (.slice _ _ _) rfl) ?_
  refine cD rfl rfl rfl (aV 0 (.bool _) mL M6 rfl rfl rfl) ?_
  refine aR rfl rfl rfl (fun _ => aE (.slice _ _ _) rfl) ?_
  refine aR rfl rfl rfl (fun _ => aE (.bool _) rfl) ?_
  refine cB ?_
  refine aF (aS ?_)
  refine fV (.slice _ _ _) (.bool _) rfl rfl ?_
  exact ⟨r, rfl, hr, M6.keep [false, false, true]⟩
set_option maxHeartbeats 4000000 in
theorem jT (w : World) (b : Body) (hb : Okb b) :
    Calls Tryz.prog 23 #[(.agg (aG b).toArray)] w (fun ex w' => ∃ v, ex = .returned v ∧ (fun v w' => v = (.agg (aG (jP b)).toArray) ∧ Below w.heap.size w w') v w') := by
  refine aK #[.cell 2 40] 20 Tryz.func23 rfl Tryz.results23 Tryz.ntmps23 rfl ?_
  have M0 := Mem.refl w
  refine aH (aB ?_)
  refine bM (.agg (List.toArray _)) M0 rfl rfl rfl (fun b1 w1 M1 => ?_)
  refine aU mI M1 rfl rfl (fun b2 w2 M2 => ?_)
  refine aD (aF (aH (aB ?_)))
  refine aA (bE 0 bO M2 rfl rfl rfl) rfl rfl ?_
  refine cF [.agg (List.toArray _)] [aG (b)] rfl cA M2 rfl rfl rfl rfl (cO rfl) (by decide) (fun b3 w3 M3 => ?_)
  have hlit7 := iK (T := 40) (b := b3) (nn := 1) (([b] : List Body).map aG) (mG _) rfl (by decide)
  refine aL aTi rfl rfl rfl ?_
  refine (sL _ _ _ _ [b] (hlit7.rd M3 (aM (i := 2) rfl)) (by intro y hy; rw [List.mem_singleton] at hy; subst hy; exact hb) (by decide)).mono ?_
  rintro _ w4 ⟨v4, rfl, ⟨⟨rA, rn, rc, re⟩, rfl, hr, hM4⟩⟩
  refine ⟨_, rfl, ?_⟩
  obtain rfl : rn = 1 := hr.1.symm
  have M4 : Mem _ _ [_, _, _, _] _ := M3.call0 hM4
  refine aA (aC (.tuple (List.toArray _)) rfl) rfl rfl ?_
  refine aA (bB (.slice _ _ _) rfl rfl) rfl rfl ?_
  refine aA (bB (.bool _) rfl rfl) rfl rfl ?_
  refine aA (aE (.slice _ _ _) rfl) rfl rfl ?_
  refine aA (aE (.bool _) rfl) rfl rfl ?_
  refine aD (aF (aH (aB ?_)))
  refine aA (aC (.slice _ _ _) rfl) rfl rfl ?_
  refine gH (1) [.int .i64 0, .int .i64 0] aBm aHp rfl M4 rfl rfl rfl rfl rfl rfl (by omega) (by omega) (fun b5 w5 M5 => ?_)
  have hL13 := iK (T := 135) (sz := 2) (b := b5) (nn := 1) (([iA b].map (fun _ => ((0, 0) : Int × Int))).map bU) (aMv _) rfl (by omega)
  refine aL aTv rfl rfl rfl ?_
  refine (aDe _ rA 1 rc [iA b] (hr.rd M5 (aM (i := 3) rfl)) (by intro y hy; rw [List.mem_singleton] at hy; subst hy; exact vZ hb) (by decide) (fun _ => (0, 0)) (fun _ _ => ⟨⟨by decide, by decide⟩, by decide, by decide⟩) _ _ (hL13.rd M5 (aM (i := 4) rfl))).mono ?_
  rintro _ w6 ⟨v6, rfl, ⟨r2, rfl, hr2, hM6⟩⟩
  refine ⟨_, rfl, ?_⟩
  have M6 : Mem _ _ [_, _, _, _, _, _] _ := M5.call0 hM6
  refine aA (aC (.tuple (List.toArray _)) rfl) rfl rfl ?_
  refine aA (bB (.slice _ _ _) rfl rfl) rfl rfl ?_
  refine aA (bB (.bool _) rfl rfl) rfl rfl ?_
  refine aA (aE (.slice _ _ _) rfl) rfl rfl ?_
  refine aD (aF (aH (aB ?_)))
  refine aA (aC (.slice _ _ _) rfl) rfl rfl ?_
  refine aA (bK (0) cA rfl rfl rfl ((hr2.rd M6 (aM (i := 5) rfl)).below_len ((show (([iA b].map (fun b => rK b 0 0)).map aG)[0]? = some (aG (jP b)) from rfl))) ((hr2.rd M6 (aM (i := 5) rfl)).someK ((show (([iA b].map (fun b => rK b 0 0)).map aG)[0]? = some (aG (jP b)) from rfl)))) rfl rfl ?_
  refine aA (cM _ bO (hr2.rd M6 (aM (i := 5) rfl)) ((show (([iA b].map (fun b => rK b 0 0)).map aG)[0]? = some (aG (jP b)) from rfl)) rfl) rfl rfl ?_
  refine bL 1 _ bO M6 rfl rfl rfl rfl rfl (aW rfl) rfl (fun w7 M7 => ?_)
  refine aD (aF (aS ?_))
  refine kC 1 bO M7 rfl rfl rfl ?_
  exact ⟨rfl, M7.below⟩
end Go.Proofs.YtlmcphcgiclanaaGreatDoor

namespace Go.Proofs.YtlmcphcgiclanaaGreatDoor
open Go.Bil
open Go.RowKit (Below)
open Go.Proofs
set_option maxHeartbeats 4000000 in
theorem aFe (w : World) (bs : Nat) (vr lr : Row) (tt mm : Int) (cl : Bool) (A : Option Addr) (n c : Nat) (q : Row) (c2 : Bool) (hO : Own [(some bs, bc [.slice A n c, .slice vr.A vr.n vr.c, .slice lr.A lr.n lr.c, .int .i64 tt, .int .i64 mm, .bool cl] 84)] w) :
    Calls Tryz.prog 72 #[.pointer (some ⟨bs, 0, none⟩), .slice q.A q.n q.c, .bool c2] w (fun ex w' => ∃ v, ex = .returned v ∧ (fun v w' => v = .tuple #[] ∧ Mem w (bZ [(some bs, bc [.slice A n c, .slice vr.A vr.n vr.c, .slice lr.A lr.n lr.c, .int .i64 tt, .int .i64 mm, .bool cl] 84)]) [(some bs, bc [.slice A n c, .slice q.A q.n q.c, .slice lr.A lr.n lr.c, .int .i64 tt, .int .i64 mm, .bool (cl || c2)] 84)] w') v w') := by
  refine aK #[] 22 Tryz.func72 rfl Tryz.results72 Tryz.ntmps72 rfl ?_
  have M0 := hO.mem
  refine aH (aB ?_)
  refine aA (aC (.pointer _) rfl) rfl rfl ?_
  refine aA (aC (.slice _ _ _) rfl) rfl rfl ?_
  refine aA (bA rfl) rfl rfl ?_
  refine aA (aI 1 tN rfl) rfl rfl ?_
  refine eL 0 (.slice _ _ _) lF M0 rfl rfl rfl rfl rfl rfl (fun w1 M1 => ?_)
  refine aD (aF (aB ?_))
  refine aA (aC (.pointer _) rfl) rfl rfl ?_
  refine aA (aC (.pointer _) rfl) rfl rfl ?_
  refine aA (bA rfl) rfl rfl ?_
  refine aA (aI 3 oD rfl) rfl rfl ?_
  refine aA (aI 2 mJ rfl) rfl rfl ?_
  refine aA (aV 0 (.bool _) mL M1 rfl rfl rfl) rfl rfl ?_
  refine aA (aC (.bool _) rfl) rfl rfl ?_
  refine kQ 16 _ rfl (fun g16 => ?_) (fun g16 => ?_)
  · refine aN rfl rfl ?_
    refine aA (bI true (.bool true) rfl rfl) rfl rfl ?_
    refine aA (bA rfl) rfl rfl ?_
    refine aA (aI 3 oD rfl) rfl rfl ?_
    refine aA (aI 2 mJ rfl) rfl rfl ?_
    refine eL 0 (.bool true) mL M1 rfl rfl rfl rfl rfl rfl (fun w2 M2 => ?_)
    refine aD ?_
    refine iC ?_
    first | exact ⟨rfl, by rw [(by simp only [g16, Bool.true_or] : (cl || c2) = true)]; exact M2⟩ | exact ⟨rfl, by rw [(by simp only [g16, Bool.false_or] : (cl || c2) = c2)]; exact M2⟩
  · refine aA (aC (.bool _) rfl) rfl rfl ?_
    refine aA (bI false (.bool _) rfl rfl) rfl rfl ?_
    refine aA (bA rfl) rfl rfl ?_
    refine aA (aI 3 oD rfl) rfl rfl ?_
    refine aA (aI 2 mJ rfl) rfl rfl ?_
    refine eL 0 (.bool _) mL M1 rfl rfl rfl rfl rfl rfl (fun w3 M3 => ?_)
    refine aD ?_
    refine iC ?_
    first | exact ⟨rfl, by rw [(by simp only [g16, Bool.true_or] : (cl || c2) = true)]; exact M3⟩ | exact ⟨rfl, by rw [(by simp only [g16, Bool.false_or] : (cl || c2) = c2)]; exact M3⟩
set_option maxHeartbeats 4000000 in
theorem aSk (w : World) (F : Rd w 2 (some ⟨0, 0, none⟩) 1 [[.int .u32 73856093, .int .u32 19349663]]) (N : Rd w 4 (some ⟨3, 0, none⟩) 1 [cT iJ]) (bs : Nat) (vr lr : Row) (tt mm : Int) (cl : Bool) (A : Option Addr) (n c : Nat) (xs : List Body) (R : Rd w 10 A n (xs.map aG)) (hb : ∀ b ∈ xs, Okb b) (hs : bN xs) (hn : n ≤ 4096) (hO : Own [(some bs, bc [.slice A n c, .slice vr.A vr.n vr.c, .slice lr.A lr.n lr.c, .int .i64 tt, .int .i64 mm, .bool cl] 84)] w) (hdA : 0 < n → ∀ q off, A = some ⟨q, off, none⟩ → q ∉ bZ [(some bs, bc [.slice A n c, .slice vr.A vr.n vr.c, .slice lr.A lr.n lr.c, .int .i64 tt, .int .i64 mm, .bool cl] 84)]) (hdF : 0 < 1 → ∀ q off, (some ⟨0, 0, none⟩ : Option Addr) = some ⟨q, off, none⟩ → q ∉ bZ [(some bs, bc [.slice A n c, .slice vr.A vr.n vr.c, .slice lr.A lr.n lr.c, .int .i64 tt, .int .i64 mm, .bool cl] 84)]) (hdN : 0 < 1 → ∀ q off, (some ⟨3, 0, none⟩ : Option Addr) = some ⟨q, off, none⟩ → q ∉ bZ [(some bs, bc [.slice A n c, .slice vr.A vr.n vr.c, .slice lr.A lr.n lr.c, .int .i64 tt, .int .i64 mm, .bool cl] 84)]) :
    Calls Tryz.prog 40 #[.pointer (some ⟨bs, 0, none⟩)] w (fun ex w' => ∃ v, ex = .returned v ∧ (fun v w' => v = .tuple #[] ∧ ∃ (r : Row) (m : Nat), (gJ xs).length ≤ m ∧ 2 * m ≤ xs.length * (xs.length - 1) ∧ aX 121 5 r.A r.n r.c ((gR xs).map cC) r.e ∧ Mem w (bZ [(some bs, bc [.slice A n c, .slice vr.A vr.n vr.c, .slice lr.A lr.n lr.c, .int .i64 tt, .int .i64 mm, .bool cl] 84)]) [(some bs, bc [.slice A n c, .slice vr.A vr.n vr.c, .slice r.A r.n r.c, .int .i64 (m : Int), .int .i64 (r.n : Int), .bool cl] 84), r.e] w') v w') := by
  refine aK #[] 26 Tryz.func40 rfl Tryz.results40 Tryz.ntmps40 rfl ?_
  have M0 := hO.mem
  refine aH (aB ?_)
  refine aA (aC (.pointer _) rfl) rfl rfl ?_
  refine aA (aC (.pointer _) rfl) rfl rfl ?_
  refine aA (aC (.pointer _) rfl) rfl rfl ?_
  refine aA (bA rfl) rfl rfl ?_
  refine aA (aI 0 zX rfl) rfl rfl ?_
  refine aA (aV 0 (.slice _ _ _) lF M0 rfl rfl rfl) rfl rfl ?_
  refine aL aYd rfl rfl rfl ?_
  refine (zI _ (F.memY M0 hdF) (N.memY M0 hdN) A n c xs (R.memY M0 hdA) hb hs hn).mono ?_
  rintro _ w1 ⟨v1, rfl, ⟨r, m, rfl, hm1, hm2, hr, hM1⟩⟩
  refine ⟨_, rfl, ?_⟩
  have M1 : Mem _ _ [_, _] _ := M0.call0 hM1
  refine aA (aC (.tuple (List.toArray _)) rfl) rfl rfl ?_
  refine aA (bB (.slice _ _ _) rfl rfl) rfl rfl ?_
  refine aA (bB (.int _ _) rfl rfl) rfl rfl ?_
  refine aA (bA rfl) rfl rfl ?_
  refine aA (aI 2 tJ rfl) rfl rfl ?_
  refine eL 0 (.slice _ _ _) nM M1 rfl rfl rfl rfl rfl rfl (fun w2 M2 => ?_)
  refine aA (bA rfl) rfl rfl ?_
  refine aA (aI 3 oD rfl) rfl rfl ?_
  refine aA (aI 0 tI rfl) rfl rfl ?_
  refine eL 0 (.int _ _) mA M2 rfl rfl rfl rfl rfl rfl (fun w3 M3 => ?_)
  refine aD (aF (aB ?_))
  refine aA (aC (.pointer _) rfl) rfl rfl ?_
  refine aA (aC (.pointer _) rfl) rfl rfl ?_
  refine aA (bA rfl) rfl rfl ?_
  refine aA (aI 2 tJ rfl) rfl rfl ?_
  refine aA (aV 0 (.slice _ _ _) nM M3 rfl rfl rfl) rfl rfl ?_
  refine aA (bV Tryz.underlying82 rfl) rfl rfl ?_
  refine aA (bA rfl) rfl rfl ?_
  refine aA (aI 3 oD rfl) rfl rfl ?_
  refine aA (aI 1 tA rfl) rfl rfl ?_
  refine eL 0 (.int _ _) mA M3 rfl rfl rfl rfl rfl rfl (fun w4 M4 => ?_)
  refine aD ?_
  refine iC ?_
  exact ⟨rfl, r, m, hm1, hm2, hr, M4⟩
set_option maxHeartbeats 4000000 in
theorem aRh (w : World) (bs : Nat) (vr lr : Row) (tt mm : Int) (cl : Bool) (A : Option Addr) (n c : Nat) (xs : List Body) (R : Rd w 10 A n (xs.map aG)) (hb : ∀ b ∈ xs, Okb b) (hn : n ≤ 1048576) (hO : Own [(some bs, bc [.slice A n c, .slice vr.A vr.n vr.c, .slice lr.A lr.n lr.c, .int .i64 tt, .int .i64 mm, .bool cl] 84)] w) (hdA : 0 < n → ∀ q off, A = some ⟨q, off, none⟩ → q ∉ bZ [(some bs, bc [.slice A n c, .slice vr.A vr.n vr.c, .slice lr.A lr.n lr.c, .int .i64 tt, .int .i64 mm, .bool cl] 84)]) :
    Calls Tryz.prog 41 #[.pointer (some ⟨bs, 0, none⟩)] w (fun ex w' => ∃ v, ex = .returned v ∧ (fun v w' => v = .tuple #[] ∧ ∃ r : Row, aX 40 10 r.A r.n r.c ((kE xs).map aG) r.e ∧ Mem w (bZ [(some bs, bc [.slice A n c, .slice vr.A vr.n vr.c, .slice lr.A lr.n lr.c, .int .i64 tt, .int .i64 mm, .bool cl] 84)]) [(some bs, bc [.slice A n c, .slice r.A r.n r.c, .slice lr.A lr.n lr.c, .int .i64 tt, .int .i64 mm, .bool (cl || xs.any nJ)] 84), r.e] w') v w') := by
  refine aK #[] 11 Tryz.func41 rfl Tryz.results41 Tryz.ntmps41 rfl ?_
  have M0 := hO.mem
  refine aB ?_
  refine aA (aC (.pointer _) rfl) rfl rfl ?_
  refine aA (aC (.pointer _) rfl) rfl rfl ?_
  refine aA (bA rfl) rfl rfl ?_
  refine aA (aI 0 zX rfl) rfl rfl ?_
  refine aA (aV 0 (.slice _ _ _) lF M0 rfl rfl rfl) rfl rfl ?_
  refine aL aTi rfl rfl rfl ?_
  refine (sL _ A n c xs (R.memY M0 hdA) hb hn).mono ?_
  rintro _ w1 ⟨v1, rfl, ⟨r, rfl, hr, hM1⟩⟩
  refine ⟨_, rfl, ?_⟩
  have M1 : Mem _ _ [_, _] _ := M0.call0 hM1
  refine aA (bB (.slice _ _ _) rfl rfl) rfl rfl ?_
  refine aA (bB (.bool _) rfl rfl) rfl rfl ?_
  refine aL aOw rfl rfl rfl ?_
  refine (aFe _ bs vr lr tt mm cl A n c r _ (M1.ownSeg 0 1)).mono ?_
  rintro _ w2 ⟨v2, rfl, ⟨rfl, hM2⟩⟩
  refine ⟨_, rfl, ?_⟩
  have M2 : Mem _ _ [_, _] _ := M1.seg 0 1 hM2
  refine aD ?_
  refine iC ?_
  exact ⟨rfl, r, hr, M2⟩
set_option maxHeartbeats 4000000 in
theorem aLk (w : World) (bs : Nat) (vr lr : Row) (tt mm : Int) (cl : Bool) (A : Option Addr) (n c : Nat) (ys : List Body) (cs : List Con) (RV : Rd w 10 vr.A vr.n (ys.map aG)) (RL : Rd w 5 lr.A lr.n (cs.map cC)) (hs : bN ys) (hb : ∀ b ∈ ys, Okb b) (hn : vr.n ≤ 1048576) (hcs : ∀ c ∈ cs, OkC ys c) (hmc : lr.n ≤ 8589934592) (hO : Own [(some bs, bc [.slice A n c, .slice vr.A vr.n vr.c, .slice lr.A lr.n lr.c, .int .i64 tt, .int .i64 mm, .bool cl] 84)] w) (hdV : 0 < vr.n → ∀ q off, vr.A = some ⟨q, off, none⟩ → q ∉ bZ [(some bs, bc [.slice A n c, .slice vr.A vr.n vr.c, .slice lr.A lr.n lr.c, .int .i64 tt, .int .i64 mm, .bool cl] 84)]) (hdL : 0 < lr.n → ∀ q off, lr.A = some ⟨q, off, none⟩ → q ∉ bZ [(some bs, bc [.slice A n c, .slice vr.A vr.n vr.c, .slice lr.A lr.n lr.c, .int .i64 tt, .int .i64 mm, .bool cl] 84)]) :
    Calls Tryz.prog 42 #[.pointer (some ⟨bs, 0, none⟩)] w (fun ex w' => ∃ v, ex = .returned v ∧ (fun v w' => v = .tuple #[] ∧ ∃ r : Row, aX 40 10 r.A r.n r.c (((eQ ys cs 4).1).map aG) r.e ∧ Mem w (bZ [(some bs, bc [.slice A n c, .slice vr.A vr.n vr.c, .slice lr.A lr.n lr.c, .int .i64 tt, .int .i64 mm, .bool cl] 84)]) [(some bs, bc [.slice A n c, .slice r.A r.n r.c, .slice lr.A lr.n lr.c, .int .i64 tt, .int .i64 mm, .bool (cl || (eQ ys cs 4).2)] 84), r.e] w') v w') := by
  refine aK #[] 15 Tryz.func42 rfl Tryz.results42 Tryz.ntmps42 rfl ?_
  have M0 := hO.mem
  refine bP [(0, 0), (1, 0), (2, 0), (3, 0), (4, 1), (5, 0), (6, 0), (7, 0), (8, 1), (9, 2), (10, 0), (11, 0), (12, 2)] mixed rfl (by kernel_rfl) (fun w1 hb1 hh1 => ?_)
  have M1 := M0.drew hb1 hh1
  refine aR rfl rfl rfl (fun _ => aC (.pointer _) rfl) ?_
  refine aR rfl rfl rfl (fun _ => aC (.pointer _) rfl) ?_
  refine aR rfl rfl rfl (fun _ => bA rfl) ?_
  refine aR rfl rfl rfl (fun _ => aI 1 tN rfl) ?_
  refine cD rfl rfl rfl (aV 0 (.slice _ _ _) lF M1 rfl rfl rfl) ?_
  refine aR rfl rfl rfl (fun _ => aC (.pointer _) rfl) ?_
  refine aR rfl rfl rfl (fun _ => bA rfl) ?_
  refine aR rfl rfl rfl (fun _ => aI 2 tJ rfl) ?_
  refine cD rfl rfl rfl (aV 0 (.slice _ _ _) nM M1 rfl rfl rfl) ?_
  refine dM [true, true] rfl (by kernel_rfl) ?_
  refine aL aYl rfl rfl rfl ?_
  refine (aKn _ vr.A vr.n vr.c ys (RV.memY M1 hdV) hs hb hn lr.A lr.n lr.c cs (RL.memY M1 hdL) hcs hmc).mono ?_
  rintro _ w2 ⟨v2, rfl, ⟨r, rfl, hr, hM2⟩⟩
  refine ⟨_, rfl, ?_⟩
  have M2 : Mem _ _ [_, _] _ := M1.call0 hM2
  refine aD (aF ⟨cX, ?_⟩)
  refine aR rfl rfl rfl (fun _ => bB (.slice _ _ _) rfl rfl) ?_
  refine aR rfl rfl rfl (fun _ => bB (.bool _) rfl rfl) ?_
  refine dM [] rfl (by kernel_rfl) ?_
  refine aL aOw rfl rfl rfl ?_
  refine (aFe _ bs vr lr tt mm cl A n c r _ (M2.ownSeg 0 1)).mono ?_
  rintro _ w3 ⟨v3, rfl, ⟨rfl, hM3⟩⟩
  refine ⟨_, rfl, ?_⟩
  have M3 : Mem _ _ [_, _] _ := M2.seg 0 1 hM3
  refine aD (aF ⟨cX, ?_⟩)
  refine cB ?_
  refine iC ?_
  exact ⟨rfl, r, hr, M3⟩
set_option maxHeartbeats 4000000 in
theorem aSq (w : World) (bs : Nat) (vr lr : Row) (tt mm : Int) (cl : Bool) (A : Option Addr) (n c : Nat) (xs : List Body) (R : Rd w 10 A n (xs.map aG)) (ys : List Body) (cs : List Con) (RV : Rd w 10 vr.A vr.n (ys.map aG)) (RL : Rd w 5 lr.A lr.n (cs.map cC)) (hs : bN xs) (hb : ∀ b ∈ xs, Okb b) (hb2 : ∀ b ∈ ys, Okb b) (hn : n ≤ 1048576) (hvn : vr.n = n) (hcs : ∀ c ∈ cs, OkC xs c) (hmc : lr.n ≤ 1073741824) (hsh : xs.map (gP xs cs) = ys.map (gP xs cs)) (hG : ∀ b ∈ ys, (-1152921504606846976 ≤ (gP xs cs b).1 ∧ (gP xs cs b).1 ≤ 1152921504606846976) ∧ -1152921504606846976 ≤ (gP xs cs b).2 ∧ (gP xs cs b).2 ≤ 1152921504606846976) (hO : Own [(some bs, bc [.slice A n c, .slice vr.A vr.n vr.c, .slice lr.A lr.n lr.c, .int .i64 tt, .int .i64 mm, .bool cl] 84)] w) (hdA : 0 < n → ∀ q off, A = some ⟨q, off, none⟩ → q ∉ bZ [(some bs, bc [.slice A n c, .slice vr.A vr.n vr.c, .slice lr.A lr.n lr.c, .int .i64 tt, .int .i64 mm, .bool cl] 84)]) (hdV : 0 < vr.n → ∀ q off, vr.A = some ⟨q, off, none⟩ → q ∉ bZ [(some bs, bc [.slice A n c, .slice vr.A vr.n vr.c, .slice lr.A lr.n lr.c, .int .i64 tt, .int .i64 mm, .bool cl] 84)]) (hdL : 0 < lr.n → ∀ q off, lr.A = some ⟨q, off, none⟩ → q ∉ bZ [(some bs, bc [.slice A n c, .slice vr.A vr.n vr.c, .slice lr.A lr.n lr.c, .int .i64 tt, .int .i64 mm, .bool cl] 84)]) :
    Calls Tryz.prog 43 #[.pointer (some ⟨bs, 0, none⟩)] w (fun ex w' => ∃ v, ex = .returned v ∧ (fun v w' => v = .tuple #[] ∧ ∃ r : Row, aX 40 10 r.A r.n r.c ((yJ xs cs ys).map aG) r.e ∧ Mem w (bZ [(some bs, bc [.slice A n c, .slice vr.A vr.n vr.c, .slice lr.A lr.n lr.c, .int .i64 tt, .int .i64 mm, .bool cl] 84)]) [(some bs, bc [.slice A n c, .slice r.A r.n r.c, .slice lr.A lr.n lr.c, .int .i64 tt, .int .i64 mm, .bool (cl || aLi xs cs ys)] 84), r.e] w') v w') := by
  have hlen : xs.length = n := by simpa using R.len
  refine aK #[] 20 Tryz.func43 rfl Tryz.results43 Tryz.ntmps43 rfl ?_
  have M0 := hO.mem
  refine bP [(0, 0), (1, 0), (2, 0), (3, 0), (4, 1), (5, 0), (6, 0), (7, 0), (8, 1), (9, 0), (10, 0), (11, 0), (12, 1), (13, 2), (14, 2), (15, 0), (16, 0), (17, 2)] mixed rfl (by kernel_rfl) (fun w1 hb1 hh1 => ?_)
  have M1 := M0.drew hb1 hh1
  refine aR rfl rfl rfl (fun _ => aC (.pointer _) rfl) ?_
  refine aR rfl rfl rfl (fun _ => aC (.pointer _) rfl) ?_
  refine aR rfl rfl rfl (fun _ => bA rfl) ?_
  refine aR rfl rfl rfl (fun _ => aI 1 tN rfl) ?_
  refine cD rfl rfl rfl (aV 0 (.slice _ _ _) lF M1 rfl rfl rfl) ?_
  refine aR rfl rfl rfl (fun _ => aC (.pointer _) rfl) ?_
  refine aR rfl rfl rfl (fun _ => bA rfl) ?_
  refine aR rfl rfl rfl (fun _ => aI 0 zX rfl) ?_
  refine cD rfl rfl rfl (aV 0 (.slice _ _ _) lF M1 rfl rfl rfl) ?_
  refine aR rfl rfl rfl (fun _ => aC (.pointer _) rfl) ?_
  refine aR rfl rfl rfl (fun _ => bA rfl) ?_
  refine aR rfl rfl rfl (fun _ => aI 2 tJ rfl) ?_
  refine cD rfl rfl rfl (aV 0 (.slice _ _ _) nM M1 rfl rfl rfl) ?_
  refine dM [true, true, false] rfl (by kernel_rfl) ?_
  refine aL aYc rfl rfl rfl ?_
  refine (aGd _ A n c xs (R.memY M1 hdA) hs hb hn lr.A lr.n lr.c cs (RL.memY M1 hdL) hcs hmc).mono ?_
  rintro _ w2 ⟨v2, rfl, ⟨⟨qA, qn, qc, qe⟩, rfl, hq, hM2⟩⟩
  refine ⟨_, rfl, ?_⟩
  have hqn : xs.length = qn := by simpa using hq.1
  obtain rfl : qn = vr.n := by omega
  rw [hsh] at hq
  have M2 : Mem _ _ [_, _] _ := M1.call0 hM2
  refine aD (aF ⟨(iQ (cU rfl (aV 0 (.slice _ _ _) lF M2 rfl rfl rfl)) cX), ?_⟩)
  refine dM [true] rfl (by kernel_rfl) ?_
  refine aL aTv rfl rfl rfl ?_
  refine (aDe _ vr.A vr.n vr.c ys (RV.memY M2 hdV) hb2 (by omega) (gP xs cs) hG qA qc (hq.rd M2 (aM (i := 1) rfl))).mono ?_
  rintro _ w3 ⟨v3, rfl, ⟨r, rfl, hr, hM3⟩⟩
  refine ⟨_, rfl, ?_⟩
  have M3 : Mem _ _ [_, _, _] _ := M2.call0 hM3
  refine aD (aF ⟨cX, ?_⟩)
  refine aR rfl rfl rfl (fun _ => bB (.slice _ _ _) rfl rfl) ?_
  refine aR rfl rfl rfl (fun _ => bB (.bool _) rfl rfl) ?_
  refine dM [] rfl (by kernel_rfl) ?_
  refine aL aOw rfl rfl rfl ?_
  refine (aFe _ bs vr lr tt mm cl A n c r _ (M3.ownSeg 0 1)).mono ?_
  rintro _ w4 ⟨v4, rfl, ⟨rfl, hM4⟩⟩
  refine ⟨_, rfl, ?_⟩
  have M4 : Mem _ _ [_, _, _] _ := M3.seg 0 1 hM4
  refine aD (aF ⟨cX, ?_⟩)
  refine cB ?_
  refine iC ?_
  exact ⟨rfl, r, hr, M4.keep [true, false, true]⟩
end Go.Proofs.YtlmcphcgiclanaaGreatDoor

namespace Go.Proofs.YtlmcphcgiclanaaGreatDoor
open Go.Bil
open Go.RowKit (Below)
open Go.Proofs
theorem aJu {xs : List Body} {cs : List Con} {b b' : Body} (h : SameB b b') : gP xs cs b = gP xs cs b' := by
  unfold gP mU rC
  rw [h.key, h.mass]
theorem aCm {xs ys zs : List Body} {cs : List Con} (h : Like ys zs) : ys.map (gP xs cs) = zs.map (gP xs cs) := by
  apply List.ext_getElem?
  intro i
  rw [List.getElem?_map, List.getElem?_map]
  by_cases hi : i < ys.length
  · have h1 : ys[i]? = some ys[i] := List.getElem?_eq_getElem hi
    have h2 : zs[i]? = some (zs[i]'(by rw [h.len]; exact hi)) := List.getElem?_eq_getElem _
    rw [h1, h2]
    exact congrArg some (aJu (h.at_ i _ _ h1 h2)).symm
  · have hl := h.len
    rw [List.getElem?_eq_none (show ys.length ≤ i by omega), List.getElem?_eq_none (show zs.length ≤ i by omega)]
theorem aRs {xs : List Body} {cs : List Con} (hs : bN xs) (hb : ∀ b ∈ xs, Okb b) (hcs : ∀ c ∈ cs, OkC xs c) (hl : cs.length ≤ 1073741824) {zs : List Body} (h : Like xs zs) : ∀ b ∈ zs, (-1152921504606846976 ≤ (gP xs cs b).1 ∧ (gP xs cs b).1 ≤ 1152921504606846976) ∧ -1152921504606846976 ≤ (gP xs cs b).2 ∧ (gP xs cs b).2 ≤ 1152921504606846976 := fun b hbm => by
  have hm : gP xs cs b ∈ zs.map (gP xs cs) := List.mem_map_of_mem hbm
  rw [← aCm h] at hm
  obtain ⟨x, hx, e⟩ := List.mem_map.1 hm
  rw [← e]
  have := aAz hs hb hcs rfl hl cs.length hx
  rwa [List.take_of_length_le (Nat.le_refl _)] at this
set_option maxHeartbeats 16000000 in
theorem gG (w : World) (F : Rd w 2 (some ⟨0, 0, none⟩) 1 [[.int .u32 73856093, .int .u32 19349663]]) (N : Rd w 4 (some ⟨3, 0, none⟩) 1 [cT iJ]) (A : Option Addr) (n c : Nat) (xs : List Body) (R : Rd w 10 A n (xs.map aG)) (hb : ∀ b ∈ xs, Okb b) (hs : bN xs) (hn : n ≤ 4096) :
    Calls Tryz.prog 16 #[.slice A n c] w (fun ex w' => ∃ v, ex = .returned v ∧ (fun v w' => ∃ (r : Row) (t : Nat), v = .tuple #[.slice r.A r.n r.c, .agg [.int .i64 (t : Int), .int .i64 ((gR xs).length : Int), .bool (sD xs)].toArray] ∧ (gR xs).length ≤ t ∧ 2 * t ≤ xs.length * (xs.length - 1) ∧ aX 40 10 r.A r.n r.c ((eP xs).map aG) r.e ∧ Mem w [] [r.e] w') v w') := by
  have hlen : xs.length = n := by simpa using R.len
  have hnn : xs.length * xs.length ≤ 4096 * 4096 := Nat.mul_le_mul (by omega) (by omega)
  have hcl := aCl xs
  have hsq := aSb (xs := xs)
  refine aK #[.tmp 2, .cell 3 27] 26 Tryz.func16 rfl Tryz.results16 Tryz.ntmps16 rfl ?_
  have M0 := Mem.refl w
  refine aH (aB ?_)
  refine aA (aE (.slice _ _ _) rfl) rfl rfl ?_
  refine aU iY M0 rfl rfl (fun b1 w1 M1 => ?_)
  refine aD (aF (aH (aB ?_)))
  refine aA (aC (.slice _ _ _) rfl) rfl rfl ?_
  refine aA (cI [(0, .slice _ _ _)] _ aMz rfl rfl) rfl rfl ?_
  refine bM (.agg (List.toArray _)) M1 rfl rfl rfl (fun b2 w2 M2 => ?_)
  refine aA (aE (.pointer _) rfl) rfl rfl ?_
  refine aD (aF (aH (aH (aB ?_))))
  refine aA (uQ [.func _ _ _, .func _ _ _, .func _ _ _, .func _ _ _] aBp aVj rfl rfl (cO rfl)) rfl rfl ?_
  refine aA (aC (.int _ _) rfl) rfl rfl ?_
  refine aD (aF (bC ?_))
  refine nO 5 (nI ?_)
  refine aH (aB ?_)
  refine aA (aO (.bool (decide _)) rfl rfl rfl) rfl rfl ?_
  refine aQ 12 (.bool true) (bT (by first | decide | omega)).symm ?_
  refine aD (aF (aH ?_))
  refine dS rfl ?_
  refine aP (aF (aH (bC (aH (aB ?_)))))
  refine aA (wM 0 (.func _ _ _) aBp aHb rfl rfl (by decide) (by decide) rfl rfl) rfl rfl ?_
  refine aA (aE (.func _ _ _) rfl) rfl rfl ?_
  refine aD (aF (aB ?_))
  refine aA (aC (.func _ _ _) rfl) rfl rfl ?_
  refine aA (aC (.pointer _) rfl) rfl rfl ?_
  refine aL aYv rfl rfl rfl ?_
  refine (aSk _ (F.mem M2) (N.mem M2) b2 gW gW 0 0 false A n c xs (R.mem M2) hb hs hn (M2.ownSeg 1 1) (M2.away 1 1 R (by simp)) (M2.away 1 1 F (by simp)) (M2.away 1 1 N (by simp))).mono ?_
  rintro _ w3 ⟨v3, rfl, ⟨rfl, r, tm, ht1, ht2, hr, hM3⟩⟩
  refine ⟨_, rfl, ?_⟩
  have M3 : Mem _ _ [_, _, _] _ := M2.seg 1 1 hM3
  have hrn : (gR xs).length = r.n := by simpa using hr.1
  refine aD ?_
  refine dU ?_
  refine aF (aB ?_)
  refine aA (bS rfl rfl (by first | decide | omega) (by first | decide | omega)) rfl rfl ?_
  refine aQ 17 (.int .i64 1) (iE (by first | decide | omega)) ?_
  refine aA (aC (.int _ _) rfl) rfl rfl ?_
  refine aD ?_
  refine aF (nI ?_)
  refine aH (aB ?_)
  refine aA (aO (.bool (decide _)) rfl rfl rfl) rfl rfl ?_
  refine aQ 12 (.bool true) (bT (by first | decide | omega)).symm ?_
  refine aD (aF (aH ?_))
  refine dS rfl ?_
  refine aP (aF (aH (bC (aH (aB ?_)))))
  refine aA (wM 1 (.func _ _ _) aBp aHb rfl rfl (by decide) (by decide) rfl rfl) rfl rfl ?_
  refine aA (aE (.func _ _ _) rfl) rfl rfl ?_
  refine aD (aF (aB ?_))
  refine aA (aC (.func _ _ _) rfl) rfl rfl ?_
  refine aA (aC (.pointer _) rfl) rfl rfl ?_
  refine aL aXv rfl rfl rfl ?_
  refine (aRh _ b2 gW r (tm : Int) (r.n : Int) false A n c xs (R.mem M3) hb (by omega) (M3.ownSeg 1 1) (M3.away 1 1 R (by simp))).mono ?_
  rintro _ w4 ⟨v4, rfl, ⟨rfl, g, hg, hM4⟩⟩
  refine ⟨_, rfl, ?_⟩
  have M4 : Mem _ _ [_, _, _, _] _ := M3.seg 1 1 hM4
  have hgn : (kE xs).length = g.n := by simpa using hg.1
  have hgl := (jS xs).len
  refine aD ?_
  refine dU ?_
  refine aF (aB ?_)
  refine aA (bS rfl rfl (by first | decide | omega) (by first | decide | omega)) rfl rfl ?_
  refine aQ 17 (.int .i64 2) (iE (by first | decide | omega)) ?_
  refine aA (aC (.int _ _) rfl) rfl rfl ?_
  refine aD ?_
  refine aF (nI ?_)
  refine aH (aB ?_)
  refine aA (aO (.bool (decide _)) rfl rfl rfl) rfl rfl ?_
  refine aQ 12 (.bool true) (bT (by first | decide | omega)).symm ?_
  refine aD (aF (aH ?_))
  refine dS rfl ?_
  refine aP (aF (aH (bC (aH (aB ?_)))))
  refine aA (wM 2 (.func _ _ _) aBp aHb rfl rfl (by decide) (by decide) rfl rfl) rfl rfl ?_
  refine aA (aE (.func _ _ _) rfl) rfl rfl ?_
  refine aD (aF (aB ?_))
  refine aA (aC (.func _ _ _) rfl) rfl rfl ?_
  refine aA (aC (.pointer _) rfl) rfl rfl ?_
  refine aL aZf rfl rfl rfl ?_
  refine (aLk _ b2 g r (tm : Int) (r.n : Int) _ A n c (kE xs) (gR xs) (hg.rd M4 (aM (i := 3) rfl)) (hr.rd M4 (aM (i := 2) rfl)) ((jS xs).sorted hs) (aAd hb) (by omega) (fun c h => (jS xs).okc (qD hs hb c h)) (by omega) (M4.ownSeg 1 1) (hg.awayB M4 3 1 rfl rfl rfl) (hr.awayB M4 2 1 rfl rfl rfl)).mono ?_
  rintro _ w5 ⟨v5, rfl, ⟨rfl, s, hsv, hM5⟩⟩
  refine ⟨_, rfl, ?_⟩
  have M5 : Mem _ _ [_, _, _, _, _] _ := M4.seg 1 1 hM5
  have hsn : (gT xs).length = s.n := by have h := hsv.1; rwa [List.length_map] at h
  have hlk : Like xs (gT xs) := (jS xs).trans (gU _ _ 4)
  have hsl := hlk.len
  refine aD ?_
  refine dU ?_
  refine aF (aB ?_)
  refine aA (bS rfl rfl (by first | decide | omega) (by first | decide | omega)) rfl rfl ?_
  refine aQ 17 (.int .i64 3) (iE (by first | decide | omega)) ?_
  refine aA (aC (.int _ _) rfl) rfl rfl ?_
  refine aD ?_
  refine aF (nI ?_)
  refine aH (aB ?_)
  refine aA (aO (.bool (decide _)) rfl rfl rfl) rfl rfl ?_
  refine aQ 12 (.bool true) (bT (by first | decide | omega)).symm ?_
  refine aD (aF (aH ?_))
  refine dS rfl ?_
  refine aP (aF (aH (bC (aH (aB ?_)))))
  refine aA (wM 3 (.func _ _ _) aBp aHb rfl rfl (by decide) (by decide) rfl rfl) rfl rfl ?_
  refine aA (aE (.func _ _ _) rfl) rfl rfl ?_
  refine aD (aF (aB ?_))
  refine aA (aC (.func _ _ _) rfl) rfl rfl ?_
  refine aA (aC (.pointer _) rfl) rfl rfl ?_
  refine aL aYi rfl rfl rfl ?_
  refine (aSq _ b2 s r (tm : Int) (r.n : Int) _ A n c xs (R.mem M5) (gT xs) (gR xs) (hsv.rd M5 (aM (i := 4) rfl)) (hr.rd M5 (aM (i := 2) rfl)) hs hb (pL (aAd hb) 4) (by omega) (by omega) (qD hs hb) (by omega) (aCm hlk) (aRs hs hb (qD hs hb) (by omega) hlk) (M5.ownSeg 1 1) (M5.away 1 1 R (by simp)) (hsv.awayB M5 4 1 rfl rfl rfl) (hr.awayB M5 2 1 rfl rfl rfl)).mono ?_
  rintro _ w6 ⟨v6, rfl, ⟨rfl, m, hm, hM6⟩⟩
  refine ⟨_, rfl, ?_⟩
  have M6 : Mem _ _ [_, _, _, _, _, _] _ := M5.seg 1 1 hM6
  refine aD ?_
  refine dU ?_
  refine aF (aB ?_)
  refine aA (bS rfl rfl (by first | decide | omega) (by first | decide | omega)) rfl rfl ?_
  refine aQ 17 (.int .i64 4) (iE (by first | decide | omega)) ?_
  refine aA (aC (.int _ _) rfl) rfl rfl ?_
  refine aD ?_
  refine aF (nI ?_)
  refine aH (aB ?_)
  refine aA (aO (.bool (decide _)) rfl rfl rfl) rfl rfl ?_
  refine aQ 12 (.bool false) (bF (by first | decide | omega)).symm ?_
  refine aD (aF (aH ?_))
  refine cJ rfl ?_
  refine cR ?_
  refine dK (dK ?_)
  refine fC ?_
  refine aF (aH ?_)
  refine bP [(0, 0), (1, 0), (2, 0), (3, 1), (4, 0), (5, 0), (6, 0), (7, 1), (8, 0), (9, 2)] mixed rfl (by kernel_rfl) (fun w7 hb7 hh7 => ?_)
  have M7 := M6.drew hb7 hh7
  refine aR rfl rfl rfl (fun _ => aC (.pointer _) rfl) ?_
  refine aR rfl rfl rfl (fun _ => bA rfl) ?_
  refine aR rfl rfl rfl (fun _ => aI 1 tN rfl) ?_
  refine cD rfl rfl rfl (aV 1 (.slice _ _ _) lF M7 rfl rfl rfl) ?_
  refine aR rfl rfl rfl (fun _ => aC (.pointer _) rfl) ?_
  refine aR rfl rfl rfl (fun _ => bA rfl) ?_
  refine aR rfl rfl rfl (fun _ => aI 3 oD rfl) ?_
  refine cD rfl rfl rfl (uA 1 _ iS M7 rfl rfl rfl rfl) ?_
  refine aR rfl rfl rfl (fun _ => aE (.slice _ _ _) rfl) ?_
  refine dM [true, true] rfl (by kernel_rfl) ?_
  refine bL 0 _ iS M7 rfl rfl rfl rfl rfl (aW rfl) rfl (fun w8 M8 => ?_)
  refine aD (aF ⟨cX, ?_⟩)
  refine cB ?_
  refine aF (aS ?_)
  refine aTd (.slice _ _ _) 0 iS M8 rfl rfl rfl rfl ?_
  exact ⟨m, tm, sY rfl (by rw [hrn]; show Value.agg _ = _; rw [show sD xs = (((false || xs.any nJ) || (eQ (kE xs) (gR xs) 4).2) || aLi xs (gR xs) (gT xs)) by unfold sD; rw [Bool.false_or]]; rfl), by omega, ht2, hm, M8.keep [false, false, false, false, false, true]⟩
end Go.Proofs.YtlmcphcgiclanaaGreatDoor

namespace Go.Proofs.YtlmcphcgiclanaaGreatDoor
open Go.Bil
open Go.RowKit (Below)
open Go.Proofs
set_option maxHeartbeats 16000000 in
theorem aGm (w : World) (F : Rd w 2 (some ⟨0, 0, none⟩) 1 [[.int .u32 73856093, .int .u32 19349663]]) (N_ : Rd w 4 (some ⟨3, 0, none⟩) 1 [cT iJ]) (A : Option Addr) (n c : Nat) (xs : List Body) (R : Rd w 10 A n (xs.map aG)) (hb : ∀ b ∈ xs, Okb b) (hs : bN xs) (hn : n ≤ 4096) (z : Int) (N : Nat) (hz : max z 0 = (N : Int)) (hN : N ≤ 1048576) :
    Calls Tryz.prog 19 #[.slice A n c, .int .i64 z] w (fun ex w' => ∃ v, ex = .returned v ∧ (fun v w' => ∃ (r : Row) (t : Nat), v = .tuple #[.slice r.A r.n r.c, .agg [.int .i64 (t : Int), .int .i64 (pF xs N : Int), .bool (tX xs N)].toArray] ∧ pF xs N ≤ t ∧ t ≤ N * 16777216 ∧ aX 40 10 r.A r.n r.c ((iO xs N).map aG) r.e ∧ Mem w [] [r.e] w') v w') := by
  have hlen : xs.length = n := by simpa using R.len
  have hnn : xs.length * (xs.length - 1) ≤ 4096 * 4096 := Nat.mul_le_mul (by omega) (by omega)
  refine aK #[.tmp 4, .cell 5 27] 43 Tryz.func19 rfl Tryz.results19 Tryz.ntmps19 rfl ?_
  have M0 := Mem.refl w
  refine aH (aB ?_)
  refine aA (aE (.slice _ _ _) rfl) rfl rfl ?_
  refine aU iY M0 rfl rfl (fun b1 w1 M1 => ?_)
  refine aD (aF (aH (aB ?_)))
  refine aU iY M1 rfl rfl (fun b2 w2 M2 => ?_)
  refine aD (aF (aH (aB ?_)))
  refine aA (aC (.slice _ _ _) rfl) rfl rfl ?_
  refine aL aYz rfl rfl rfl ?_
  refine (xE _ _ _ _ _ (R.mem M2) (dB xs) (by omega)).mono ?_
  rintro _ w3 ⟨v3, rfl, ⟨qA, qn, qc, qe, rfl, hq0, hM3, _⟩⟩
  refine ⟨_, rfl, ?_⟩
  have M3 : Mem _ _ [_, _, _] _ := M2.call0 hM3
  refine aA (aE (.slice _ _ _) rfl) rfl rfl ?_
  refine aD (aF (aH (aH (aB ?_))))
  refine aA (aC (.int _ _) rfl) rfl rfl ?_
  refine aA (lL rfl rfl ) rfl rfl ?_
  refine aQ 12 (.int .i64 (N : Int)) (iE (by omega)) ?_
  refine aA (aC (.int _ _) rfl) rfl rfl ?_
  refine aD (aF (bC ?_))
  refine dT (σ := Nat × Row × Nat) [4, 5, 6, 12] (fun (k, q, t) => [(0, .slice q.A q.n q.c), (13, .int .i64 (k : Int))]) (fun (k, q, t) w' => (k ≤ N ∧ pF xs k ≤ t ∧ t ≤ k * 16777216 ∧ aX 40 10 q.A q.n q.c ((iO xs k).map aG) q.e) ∧ Mem w [] [(some b1, bc [.int .i64 0, .int .i64 0, .bool false] 27), (some b2, bc [.int .i64 (t : Int), .int .i64 (pF xs k : Int), .bool (tX xs k)] 27), q.e] w') (fun (k, q, t) => N - k) (0, ⟨qA, qn, qc, qe⟩, 0) (bX rfl (bX rfl fH)) (⟨⟨by omega, (show 0 ≤ 0 by omega), by omega, hq0⟩, M3⟩) ?_
  rintro ⟨k, q, t⟩ ρ4 w4 ⟨⟨hk, htn, htk, hq⟩, hM4⟩
  have hkl := (oV xs k).len
  have hqn : (iO xs k).length = q.n := by simpa using hq.1
  refine aH (aB ?_)
  refine aA (aO (.bool (decide _)) rfl rfl rfl) rfl rfl ?_
  refine aD (aF (aH ?_))
  refine aY rfl (fun h14 => ?_) (fun h14 => ?_)
  · refine aP (aF (aH (bC (aH (aB ?_)))))
    refine aA (aC (.slice _ _ _) rfl) rfl rfl ?_
    refine aL pQ rfl rfl rfl ?_
    refine (gG _ (F.mem hM4) (N_.mem hM4) q.A q.n q.c (iO xs k) (hq.rd hM4 (aM (i := 2) rfl)) (aDp hb k) (aAm hs k) (by omega)).mono ?_
    rintro _ w5 ⟨v5, rfl, ⟨r, t2, rfl, h1, h2, hr, hM5⟩⟩
    refine ⟨_, rfl, ?_⟩
    have M5 : Mem _ _ [_, _, _, _] _ := hM4.call0 hM5
    rw [show (iO xs k).length = xs.length from hkl] at h2
    have hsuc : pF xs (k + 1) = pF xs k + (gR (iO xs k)).length := rfl
    refine aA (aC (.tuple (List.toArray _)) rfl) rfl rfl ?_
    refine aA (bB (.slice _ _ _) rfl rfl) rfl rfl ?_
    refine aA (bB (.agg (List.toArray _)) rfl rfl) rfl rfl ?_
    refine aU iY M5 rfl rfl (fun b6 w6 M6 => ?_)
    refine aA (aE (.slice _ _ _) rfl) rfl rfl ?_
    refine bL 4 _ iS M6 rfl rfl rfl rfl rfl (aW rfl) rfl (fun w7 M7 => ?_)
    refine aD (aF (aH (aB ?_)))
    refine aA (aI 0 tI rfl) rfl rfl ?_
    refine aA (aV 1 (.int _ _) mA M7 rfl rfl rfl) rfl rfl ?_
    refine aA (aI 0 tI rfl) rfl rfl ?_
    refine aA (aV 4 (.int _ _) mA M7 rfl rfl rfl) rfl rfl ?_
    refine aA (bS rfl rfl (by omega) (by omega)) rfl rfl ?_
    refine aA (aI 0 tI rfl) rfl rfl ?_
    refine eL 1 (.int _ _) mA M7 rfl rfl rfl rfl rfl rfl (fun w8 M8 => ?_)
    refine aD (aF (aH (aB ?_)))
    refine aA (aI 1 tA rfl) rfl rfl ?_
    refine aA (aV 1 (.int _ _) mA M8 rfl rfl rfl) rfl rfl ?_
    refine aA (aI 1 tA rfl) rfl rfl ?_
    refine aA (aV 4 (.int _ _) mA M8 rfl rfl rfl) rfl rfl ?_
    refine aA (bS rfl rfl (by omega) (by omega)) rfl rfl ?_
    refine aA (aI 1 tA rfl) rfl rfl ?_
    refine eL 1 (.int _ _) mA M8 rfl rfl rfl rfl rfl rfl (fun w9 M9 => ?_)
    refine aD (aF (aH (aB ?_)))
    refine aA (aI 2 mJ rfl) rfl rfl ?_
    refine aA (aV 1 (.bool _) mL M9 rfl rfl rfl) rfl rfl ?_
    refine aA (aC (.bool _) rfl) rfl rfl ?_
    refine kQ 34 _ rfl (fun g34 => ?_) (fun g34 => ?_)
    · refine aN rfl rfl ?_
      refine aN rfl rfl ?_
      refine aA (bI true (.bool true) rfl rfl) rfl rfl ?_
      refine aA (aI 2 mJ rfl) rfl rfl ?_
      refine eL 1 (.bool true) mL M9 rfl rfl rfl rfl rfl rfl (fun w10 M10 => ?_)
      refine aD (aF (aB ?_))
      refine aA (aC (.slice _ _ _) rfl) rfl rfl ?_
      refine aA (aE (.slice _ _ _) rfl) rfl rfl ?_
      refine aD ?_
      refine dU ?_
      refine aF (aB ?_)
      refine aA (bS rfl rfl (by omega) (by omega)) rfl rfl ?_
      refine aA (aC (.int _ _) rfl) rfl rfl ?_
      refine aD ?_
      refine cK (k + 1, r, t + t2) (bX rfl (bX rfl fH)) (cQ rfl (cQ rfl (cQ rfl (cQ rfl jF)))) ?_ ?_
      · exact ⟨⟨by omega, by rw [hsuc]; omega, by omega, hr⟩, by rw [hsuc, Int.natCast_add, Int.natCast_add, show tX xs (k + 1) = _ from by show (_ || _) = true; rw [g34, Bool.true_or]]; exact M10.keep [true, true, false, true, false]⟩
      · (show N - (k + 1) < N - k; omega)
    · refine aA (aI 2 mJ rfl) rfl rfl ?_
      refine aA (aV 4 (.bool _) mL M9 rfl rfl rfl) rfl rfl ?_
      refine aA (bI false (.bool _) rfl rfl) rfl rfl ?_
      refine aA (aI 2 mJ rfl) rfl rfl ?_
      refine eL 1 (.bool _) mL M9 rfl rfl rfl rfl rfl rfl (fun w11 M11 => ?_)
      refine aD (aF (aB ?_))
      refine aA (aC (.slice _ _ _) rfl) rfl rfl ?_
      refine aA (aE (.slice _ _ _) rfl) rfl rfl ?_
      refine aD ?_
      refine dU ?_
      refine aF (aB ?_)
      refine aA (bS rfl rfl (by omega) (by omega)) rfl rfl ?_
      refine aA (aC (.int _ _) rfl) rfl rfl ?_
      refine aD ?_
      refine cK (k + 1, r, t + t2) (bX rfl (bX rfl fH)) (cQ rfl (cQ rfl (cQ rfl (cQ rfl jF)))) ?_ ?_
      · exact ⟨⟨by omega, by rw [hsuc]; omega, by omega, hr⟩, by rw [hsuc, Int.natCast_add, Int.natCast_add, show tX xs (k + 1) = _ from by show (_ || _) = sD (iO xs k); rw [g34, Bool.false_or]]; exact M11.keep [true, true, false, true, false]⟩
      · (show N - (k + 1) < N - k; omega)
  · have hkn : k = N := by omega
    rw [hkn] at hq htn hM4
    refine cR ?_
    refine dK ?_
    refine dH ?_
    refine fC ?_
    refine aF (aH ?_)
    refine bP [(0, 0), (1, 1), (2, 0), (3, 2)] mixed rfl (by kernel_rfl) (fun w12 hb12 hh12 => ?_)
    have M12 := hM4.drew hb12 hh12
    refine aR rfl rfl rfl (fun _ => aC (.slice _ _ _) rfl) ?_
    refine cD rfl rfl rfl (bE 1 iS M12 rfl rfl rfl) ?_
    refine aR rfl rfl rfl (fun _ => aE (.slice _ _ _) rfl) ?_
    refine dM [true] rfl (by kernel_rfl) ?_
    refine bL 0 _ iS M12 rfl rfl rfl rfl rfl (aW rfl) rfl (fun w13 M13 => ?_)
    refine aD (aF ⟨cX, ?_⟩)
    refine cB ?_
    refine aF (aS ?_)
    refine aTd (.slice _ _ _) 0 iS M13 rfl rfl rfl rfl ?_
    exact ⟨q, t, by rw [← hkn], htn, by rw [← hkn]; exact htk, hq, M13.keep [false, false, true]⟩
end Go.Proofs.YtlmcphcgiclanaaGreatDoor

namespace Go.Proofs.YtlmcphcgiclanaaGreatDoor
open Go.Bil
open Go.RowKit (Below)
open Go.Proofs
end Go.Proofs.YtlmcphcgiclanaaGreatDoor

namespace Go.Proofs.YtlmcphcgiclanaaGreatDoor
open Go.Bil
open Go.RowKit (Below)
open Go.Proofs
end Go.Proofs.YtlmcphcgiclanaaGreatDoor

namespace Go.Proofs.YtlmcphcgiclanaaGreatDoor
open Go.Bil
open Go.RowKit (Below)
open Go.Proofs
end Go.Proofs.YtlmcphcgiclanaaGreatDoor

namespace Go.Proofs.YtlmcphcgiclanaaGreatDoor
open Go.Bil
open Go.RowKit (Below)
open Go.Proofs
end Go.Proofs.YtlmcphcgiclanaaGreatDoor

namespace Go.Proofs.YtlmcphcgiclanaaGreatDoor
open Go.Bil
open Go.RowKit (Below)
open Go.Proofs
end Go.Proofs.YtlmcphcgiclanaaGreatDoor

namespace Go.Proofs.YtlmcphcgiclanaaGreatDoor
open Go.Bil
open Go.RowKit (Below)
open Go.Proofs
end Go.Proofs.YtlmcphcgiclanaaGreatDoor

namespace Go.Proofs.YtlmcphcgiclanaaGreatDoor
open Go.Bil
open Go.RowKit (Below)
open Go.Proofs
theorem aNt {T dd : Nat} {a b : Bool} {w : World} (hu : Tryz.prog.underlying T = some .bool) : (Op.equalIn (dd + 1) T (.bool a) (.bool b)).run Tryz.prog w = .ok (decide (a = b)) w := by
  simp [Op.equalIn, underlying, hu]
  cases a <;> cases b <;> rfl
theorem aZh (x0 x1 y0 y1 : Int) (x2 y2 : Bool) : EqA Tryz.prog 27 [.int .i64 x0, .int .i64 x1, .bool x2] [.int .i64 y0, .int .i64 y1, .bool y2] (decide (x0 = y0 ∧ x1 = y1 ∧ x2 = y2)) := ⟨by kernel_rfl, fun w => by
  have h := oK (P := Tryz.prog) (T := 27) (dd := 9998 + 1) (xs := [.int .i64 x0, .int .i64 x1, .bool x2]) (ys := [.int .i64 y0, .int .i64 y1, .bool y2]) (w := w) Tryz.underlying27 (by kernel_rfl) (eV rfl (fQ mA rfl) (fQ mA rfl) (lN (dd := 9998) Tryz.underlying3) (eV rfl (fQ mA rfl) (fQ mA rfl) (lN (dd := 9998) Tryz.underlying3) (eV rfl (fQ mL rfl) (fQ mL rfl) (aNt (dd := 9998) Tryz.underlying4) tL)))
  refine h.trans (congrArg (fun r => Result.ok r w) ?_)
  simp only [Bool.decide_and, Bool.and_true, Bool.and_assoc]⟩
theorem aLr : ∀ b ∈ ([⟨0, 65536, 0, 0, 65536, 0, 0, 0, 0, 0⟩] : List Body), Okb b := fun b hb => qH ((by decide : ∀ b ∈ ([⟨0, 65536, 0, 0, 65536, 0, 0, 0, 0, 0⟩] : List Body), check b = 0) b hb)
theorem aRj : ∀ b ∈ ([⟨1, 65536, 0, 0, 65536, 0, 0, 0, 65536, 0⟩, ⟨2, 65536, 0, 0, 0, 0, 131071, 0, 0, 0⟩] : List Body), Okb b := fun b hb => qH ((by decide : ∀ b ∈ ([⟨1, 65536, 0, 0, 65536, 0, 0, 0, 65536, 0⟩, ⟨2, 65536, 0, 0, 0, 0, 131071, 0, 0, 0⟩] : List Body), check b = 0) b hb)
theorem aSy : Okb (⟨0, 65536, 0, 0, 0, 0, 0, 0, 0, 0⟩ : Body) := qH (by decide)
theorem aXg : gR ([⟨0, 65536, 0, 0, 65536, 0, 0, 0, 0, 0⟩] : List Body) = [] := by decide
theorem aLx : eP ([⟨0, 65536, 0, 0, 65536, 0, 0, 0, 0, 0⟩] : List Body) = ([⟨0, 65536, 0, 0, 65536, 0, 0, -16, 0, -1024⟩] : List Body) := by decide +kernel
theorem aVp : sD ([⟨0, 65536, 0, 0, 65536, 0, 0, 0, 0, 0⟩] : List Body) = false := by decide +kernel
theorem aVy : rF 17179607041 = 131071 := (aQg (by decide) (by decide)).symm
theorem aNf : len 131071 0 = 131071 := by
  unfold len
  rw [show wO 131071 0 = 17179607041 by decide, aVy]
  rfl
theorem aUk : kV (⟨1, 65536, 0, 0, 65536, 0, 0, 0, 65536, 0⟩ : Body) (⟨2, 65536, 0, 0, 0, 0, 131071, 0, 0, 0⟩ : Body) = some ⟨1, 2, 65536, 0, 1⟩ := by
  have e : sJ (⟨1, 65536, 0, 0, 65536, 0, 0, 0, 65536, 0⟩ : Body) (⟨2, 65536, 0, 0, 0, 0, 131071, 0, 0, 0⟩ : Body) = ((0, 0), (131071, 0), 17179607041) := by decide
  have hu : kF 131071 0 = (65536, 0) := by unfold kF; rw [aNf]; decide
  unfold kV
  rw [if_neg (by decide)]
  unfold lI
  rw [e]
  show (if ((65536 : Int) + 65536).natAbs * ((65536 : Int) + 65536).natAbs ≤ wO 131071 0 then none else some (⟨1, 2, (kF 131071 0).1, (kF 131071 0).2, IntKind.wrap .i32 (65536 + 65536 - len 131071 0)⟩ : Con)) = _
  rw [if_neg (by decide), hu, aNf]
  decide
theorem aXc : gJ ([⟨1, 65536, 0, 0, 65536, 0, 0, 0, 65536, 0⟩, ⟨2, 65536, 0, 0, 0, 0, 131071, 0, 0, 0⟩] : List Body) = [(1, 2)] := by decide
theorem tQ : gR ([⟨1, 65536, 0, 0, 65536, 0, 0, 0, 65536, 0⟩, ⟨2, 65536, 0, 0, 0, 0, 131071, 0, 0, 0⟩] : List Body) = [⟨1, 2, 65536, 0, 1⟩] := by
  have h : wV (boM ([⟨1, 65536, 0, 0, 65536, 0, 0, 0, 65536, 0⟩, ⟨2, 65536, 0, 0, 0, 0, 131071, 0, 0, 0⟩] : List Body)) (1, 2) = some ⟨1, 2, 65536, 0, 1⟩ := (jR (show boM ([⟨1, 65536, 0, 0, 65536, 0, 0, 0, 65536, 0⟩, ⟨2, 65536, 0, 0, 0, 0, 131071, 0, 0, 0⟩] : List Body) 1 = some (⟨1, 65536, 0, 0, 65536, 0, 0, 0, 65536, 0⟩ : Body) from by decide) (show boM ([⟨1, 65536, 0, 0, 65536, 0, 0, 0, 65536, 0⟩, ⟨2, 65536, 0, 0, 0, 0, 131071, 0, 0, 0⟩] : List Body) 2 = some (⟨2, 65536, 0, 0, 0, 0, 131071, 0, 0, 0⟩ : Body) from by decide)).trans aUk
  unfold gR
  rw [aXc]
  simp only [List.filterMap_cons, List.filterMap_nil, h]
theorem aUw : eP ([⟨1, 65536, 0, 0, 65536, 0, 0, 0, 65536, 0⟩, ⟨2, 65536, 0, 0, 0, 0, 131071, 0, 0, 0⟩] : List Body) = ([⟨1, 65536, 0, 0, 65536, 0, 0, -16, 0, -1024⟩, ⟨2, 65536, 0, 0, 0, 0, 131071, 0, 0, 0⟩] : List Body) := by
  unfold eP gT
  rw [tQ]
  decide +kernel
theorem aWr : sD ([⟨1, 65536, 0, 0, 65536, 0, 0, 0, 65536, 0⟩, ⟨2, 65536, 0, 0, 0, 0, 131071, 0, 0, 0⟩] : List Body) = false := by
  unfold sD gT
  rw [tQ]
  decide +kernel
theorem aXq : iO ([⟨0, 65536, 0, 0, 65536, 0, 0, 0, 0, 0⟩] : List Body) 2 = ([⟨0, 65536, 0, 0, 65536, 0, 0, -48, 0, -2048⟩] : List Body) := by
  show eP (eP ([⟨0, 65536, 0, 0, 65536, 0, 0, 0, 0, 0⟩] : List Body)) = _
  rw [aLx]
  decide +kernel
theorem aVr : jP (⟨0, 65536, 0, 0, 0, 0, 0, 0, 0, 0⟩ : Body) = (⟨0, 65536, 0, 0, 0, 0, 0, 0, 0, 0⟩ : Body) := by decide
end Go.Proofs.YtlmcphcgiclanaaGreatDoor

namespace Go.Proofs.YtlmcphcgiclanaaGreatDoor
open Go.Bil
open Go.RowKit (Below)
open Go.Proofs
set_option maxHeartbeats 16000000 in
theorem aUr (w : World) (F : Rd w 2 (some ⟨0, 0, none⟩) 1 [[.int .u32 73856093, .int .u32 19349663]]) (N : Rd w 4 (some ⟨3, 0, none⟩) 1 [cT iJ]) :
    Calls Tryz.prog 15 #[] w (fun ex w' => ∃ v, ex = .returned v ∧ (fun v w' => v = .bool true ∧ Below w.heap.size w w') v w') := by
  refine aK #[.tmp 0] 95 Tryz.func15 rfl Tryz.results15 Tryz.ntmps15 rfl ?_
  have M0 := Mem.refl w
  refine aH (aB ?_)
  refine aA (aE (.bool false) rfl) rfl rfl ?_
  refine aD (aF (aH (aB ?_)))
  refine aA (cI [(1, .int _ _), (3, .int _ _)] _ lU rfl rfl) rfl rfl ?_
  refine cF [.agg (List.toArray _)] [aG ⟨0, 65536, 0, 0, 65536, 0, 0, 0, 0, 0⟩] rfl cA M0 rfl rfl rfl rfl (cO rfl) (by decide) (fun b1 w1 M1 => ?_)
  have hlit9 := iK (T := 40) (b := b1) (([⟨0, 65536, 0, 0, 65536, 0, 0, 0, 0, 0⟩] : List Body).map aG) (mG _) rfl (by decide)
  refine aL pQ rfl rfl rfl ?_
  refine (gG _ (F.mem M1) (N.mem M1) _ _ _ ([⟨0, 65536, 0, 0, 65536, 0, 0, 0, 0, 0⟩] : List Body) (hlit9.rd M1 (aM (i := 0) rfl)) aLr (kX (by decide)) (by decide)).mono ?_
  rintro _ w2 ⟨v2, rfl, ⟨ra, tra, rfl, h1ra, h2ra, hrra, hM2⟩⟩
  refine ⟨_, rfl, ?_⟩
  have M2 : Mem _ _ [_, _] _ := M1.call0 hM2
  rw [aLx] at hrra
  have hnra : 1 = ra.n := by simpa using hrra.1
  obtain rfl : tra = 0 := by have h : 2 * tra ≤ 0 := h2ra; omega
  refine aA (aC (.tuple (List.toArray _)) rfl) rfl rfl ?_
  refine aA (bB (.slice _ _ _) rfl rfl) rfl rfl ?_
  refine aA (bB (.agg (List.toArray _)) rfl rfl) rfl rfl ?_
  refine aQ 12 (.agg [.int .i64 0, .int .i64 0, .bool false].toArray) (congrArg Value.agg (by rw [aXg, aVp]; rfl)) ?_
  refine aU iY M2 rfl rfl (fun b3 w3 M3 => ?_)
  refine aA (aE (.slice _ _ _) rfl) rfl rfl ?_
  refine bL 2 _ iS M3 rfl rfl rfl rfl rfl (aW rfl) rfl (fun w4 M4 => ?_)
  refine aD (aF (aH (aB ?_)))
  refine aA (cI [(0, .int _ _)] _ eI rfl rfl) rfl rfl ?_
  refine aA (cI [(0, .int _ _), (1, .int _ _), (3, .int _ _), (6, .agg (List.toArray _))] _ lU rfl rfl) rfl rfl ?_
  refine aA (cI [(0, .int _ _)] _ eI rfl rfl) rfl rfl ?_
  refine aA (cI [(0, .int _ _), (1, .int _ _), (5, .agg (List.toArray _))] _ lU rfl rfl) rfl rfl ?_
  refine cF [.agg (List.toArray _), .agg (List.toArray _)] [aG ⟨1, 65536, 0, 0, 65536, 0, 0, 0, 65536, 0⟩, aG ⟨2, 65536, 0, 0, 0, 0, 131071, 0, 0, 0⟩] rfl cA M4 rfl rfl rfl rfl (cO rfl) (by decide) (fun b5 w5 M5 => ?_)
  have hlit18 := iK (T := 40) (b := b5) (([⟨1, 65536, 0, 0, 65536, 0, 0, 0, 65536, 0⟩, ⟨2, 65536, 0, 0, 0, 0, 131071, 0, 0, 0⟩] : List Body).map aG) (mG _) rfl (by decide)
  refine aL pQ rfl rfl rfl ?_
  refine (gG _ (F.mem M5) (N.mem M5) _ _ _ ([⟨1, 65536, 0, 0, 65536, 0, 0, 0, 65536, 0⟩, ⟨2, 65536, 0, 0, 0, 0, 131071, 0, 0, 0⟩] : List Body) (hlit18.rd M5 (aM (i := 3) rfl)) aRj (kX (by decide)) (by decide)).mono ?_
  rintro _ w6 ⟨v6, rfl, ⟨rb, trb, rfl, h1rb, h2rb, hrrb, hM6⟩⟩
  refine ⟨_, rfl, ?_⟩
  have M6 : Mem _ _ [_, _, _, _, _] _ := M5.call0 hM6
  rw [aUw] at hrrb
  have hnrb : 2 = rb.n := by simpa using hrrb.1
  rw [tQ] at h1rb
  obtain rfl : trb = 1 := by have h : 2 * trb ≤ 2 := h2rb; have g : 1 ≤ trb := h1rb; omega
  refine aA (aC (.tuple (List.toArray _)) rfl) rfl rfl ?_
  refine aA (bB (.slice _ _ _) rfl rfl) rfl rfl ?_
  refine aA (bB (.agg (List.toArray _)) rfl rfl) rfl rfl ?_
  refine aQ 21 (.agg [.int .i64 1, .int .i64 1, .bool false].toArray) (congrArg Value.agg (by rw [tQ, aWr]; rfl)) ?_
  refine aU iY M6 rfl rfl (fun b7 w7 M7 => ?_)
  refine aA (aE (.slice _ _ _) rfl) rfl rfl ?_
  refine bL 5 _ iS M7 rfl rfl rfl rfl rfl (aW rfl) rfl (fun w8 M8 => ?_)
  refine aD (aF (aH (aB ?_)))
  refine aA (cI [(1, .int _ _), (3, .int _ _)] _ lU rfl rfl) rfl rfl ?_
  refine cF [.agg (List.toArray _)] [aG ⟨0, 65536, 0, 0, 65536, 0, 0, 0, 0, 0⟩] rfl cA M8 rfl rfl rfl rfl (cO rfl) (by decide) (fun b9 w9 M9 => ?_)
  have hlit24 := iK (T := 40) (b := b9) (([⟨0, 65536, 0, 0, 65536, 0, 0, 0, 0, 0⟩] : List Body).map aG) (mG _) rfl (by decide)
  refine aL aYr rfl rfl rfl ?_
  refine (aGm _ (F.mem M9) (N.mem M9) _ _ _ ([⟨0, 65536, 0, 0, 65536, 0, 0, 0, 0, 0⟩] : List Body) (hlit24.rd M9 (aM (i := 6) rfl)) aLr (kX (by decide)) (by decide) 2 2 rfl (by decide)).mono ?_
  rintro _ w10 ⟨v10, rfl, ⟨rc, trc, rfl, h1rc, _, hrc, hM10⟩⟩
  refine ⟨_, rfl, ?_⟩
  have M10 : Mem _ _ [_, _, _, _, _, _, _, _] _ := M9.call0 hM10
  rw [aXq] at hrc
  have hnrc : 1 = rc.n := by simpa using hrc.1
  refine aA (aC (.tuple (List.toArray _)) rfl) rfl rfl ?_
  refine aA (bB (.slice _ _ _) rfl rfl) rfl rfl ?_
  refine aA (bB (.agg (List.toArray _)) rfl rfl) rfl rfl ?_
  refine aU iY M10 rfl rfl (fun b11 w11 M11 => ?_)
  refine aA (aE (.slice _ _ _) rfl) rfl rfl ?_
  refine bL 8 _ iS M11 rfl rfl rfl rfl rfl (aW rfl) rfl (fun w12 M12 => ?_)
  refine aD (aF (aH (aH (aB ?_))))
  refine aA (aC (.slice _ _ _) rfl) rfl rfl ?_
  refine aA (bV Tryz.underlying22 rfl) rfl rfl ?_
  refine aA (aO (.bool (decide _)) rfl rfl rfl) rfl rfl ?_
  refine aQ 30 (.bool false) (bF (by omega)).symm ?_
  refine aA (aC (.bool false) rfl) rfl rfl ?_
  refine aA (aC (.slice _ _ _) rfl) rfl rfl ?_
  refine aA (bV Tryz.underlying22 rfl) rfl rfl ?_
  refine aA (aO (.bool (decide _)) rfl rfl rfl) rfl rfl ?_
  refine aQ 34 (.bool false) (bF (by omega)).symm ?_
  refine aA (bI false (.bool false) rfl rfl) rfl rfl ?_
  refine aA (aC (.bool false) rfl) rfl rfl ?_
  refine aA (aC (.slice _ _ _) rfl) rfl rfl ?_
  refine aA (bV Tryz.underlying22 rfl) rfl rfl ?_
  refine aA (aO (.bool (decide _)) rfl rfl rfl) rfl rfl ?_
  refine aQ 39 (.bool false) (bF (by omega)).symm ?_
  refine aA (bI false (.bool false) rfl rfl) rfl rfl ?_
  refine aD (aF ?_)
  refine cJ rfl ?_
  refine aP (aF (aH (aB ?_)))
  refine aA (aC (.slice _ _ _) rfl) rfl rfl ?_
  refine aA (bK (0) cA rfl rfl rfl ((hrra.rd M12 (aM (i := 1) rfl)).below_len ((show (([⟨0, 65536, 0, 0, 65536, 0, 0, -16, 0, -1024⟩] : List Body).map aG)[0]? = some (aG ⟨0, 65536, 0, 0, 65536, 0, 0, -16, 0, -1024⟩) from rfl))) ((hrra.rd M12 (aM (i := 1) rfl)).someK ((show (([⟨0, 65536, 0, 0, 65536, 0, 0, -16, 0, -1024⟩] : List Body).map aG)[0]? = some (aG ⟨0, 65536, 0, 0, 65536, 0, 0, -16, 0, -1024⟩) from rfl)))) rfl rfl ?_
  refine aA (bR 6 eK (hrra.rd M12 (aM (i := 1) rfl)) (Nat.lt_of_le_of_lt (Nat.zero_le _) ((hrra.rd M12 (aM (i := 1) rfl)).below_len ((show (([⟨0, 65536, 0, 0, 65536, 0, 0, -16, 0, -1024⟩] : List Body).map aG)[0]? = some (aG ⟨0, 65536, 0, 0, 65536, 0, 0, -16, 0, -1024⟩) from rfl)))) rfl) rfl rfl ?_
  refine aA (pB (o := 6) _ bJ (hrra.rd M12 (aM (i := 1) rfl)) ((show (([⟨0, 65536, 0, 0, 65536, 0, 0, -16, 0, -1024⟩] : List Body).map aG)[0]? = some (aG ⟨0, 65536, 0, 0, 65536, 0, 0, -16, 0, -1024⟩) from rfl)) rfl rfl rfl) rfl rfl ?_
  refine aA (cI [(1, .int _ _)] _ eI rfl rfl) rfl rfl ?_
  refine aA (lT (aCv _ _ _ _) rfl rfl) rfl rfl ?_
  refine aQ 46 (.bool true) (bT (by decide)).symm ?_
  refine aA (aC (.bool true) rfl) rfl rfl ?_
  refine aA (aC (.slice _ _ _) rfl) rfl rfl ?_
  refine aA (bK (0) cA rfl rfl rfl ((hrra.rd M12 (aM (i := 1) rfl)).below_len ((show (([⟨0, 65536, 0, 0, 65536, 0, 0, -16, 0, -1024⟩] : List Body).map aG)[0]? = some (aG ⟨0, 65536, 0, 0, 65536, 0, 0, -16, 0, -1024⟩) from rfl))) ((hrra.rd M12 (aM (i := 1) rfl)).someK ((show (([⟨0, 65536, 0, 0, 65536, 0, 0, -16, 0, -1024⟩] : List Body).map aG)[0]? = some (aG ⟨0, 65536, 0, 0, 65536, 0, 0, -16, 0, -1024⟩) from rfl)))) rfl rfl ?_
  refine aA (bR 8 fD (hrra.rd M12 (aM (i := 1) rfl)) (Nat.lt_of_le_of_lt (Nat.zero_le _) ((hrra.rd M12 (aM (i := 1) rfl)).below_len ((show (([⟨0, 65536, 0, 0, 65536, 0, 0, -16, 0, -1024⟩] : List Body).map aG)[0]? = some (aG ⟨0, 65536, 0, 0, 65536, 0, 0, -16, 0, -1024⟩) from rfl)))) rfl) rfl rfl ?_
  refine aA (pB (o := 8) _ bJ (hrra.rd M12 (aM (i := 1) rfl)) ((show (([⟨0, 65536, 0, 0, 65536, 0, 0, -16, 0, -1024⟩] : List Body).map aG)[0]? = some (aG ⟨0, 65536, 0, 0, 65536, 0, 0, -16, 0, -1024⟩) from rfl)) rfl rfl rfl) rfl rfl ?_
  refine aA (cI [(1, .int _ _)] _ eI rfl rfl) rfl rfl ?_
  refine aA (lT (aCv _ _ _ _) rfl rfl) rfl rfl ?_
  refine aQ 53 (.bool true) (bT (by decide)).symm ?_
  refine aA (bI true (.bool true) rfl rfl) rfl rfl ?_
  refine aA (aC (.bool true) rfl) rfl rfl ?_
  refine aA (bE 2 iS M12 rfl rfl rfl) rfl rfl ?_
  refine aA (cI [] _ aBu rfl rfl) rfl rfl ?_
  refine aA (lT (aZh _ _ _ _ _ _) rfl rfl) rfl rfl ?_
  refine aQ 58 (.bool true) (bT (by decide)).symm ?_
  refine aA (bI true (.bool true) rfl rfl) rfl rfl ?_
  refine aA (aC (.bool true) rfl) rfl rfl ?_
  refine aA (aC (.slice _ _ _) rfl) rfl rfl ?_
  refine aA (bK (0) cA rfl rfl rfl ((hrrb.rd M12 (aM (i := 4) rfl)).below_len ((show (([⟨1, 65536, 0, 0, 65536, 0, 0, -16, 0, -1024⟩, ⟨2, 65536, 0, 0, 0, 0, 131071, 0, 0, 0⟩] : List Body).map aG)[0]? = some (aG ⟨1, 65536, 0, 0, 65536, 0, 0, -16, 0, -1024⟩) from rfl))) ((hrrb.rd M12 (aM (i := 4) rfl)).someK ((show (([⟨1, 65536, 0, 0, 65536, 0, 0, -16, 0, -1024⟩, ⟨2, 65536, 0, 0, 0, 0, 131071, 0, 0, 0⟩] : List Body).map aG)[0]? = some (aG ⟨1, 65536, 0, 0, 65536, 0, 0, -16, 0, -1024⟩) from rfl)))) rfl rfl ?_
  refine aA (bR 8 fD (hrrb.rd M12 (aM (i := 4) rfl)) (Nat.lt_of_le_of_lt (Nat.zero_le _) ((hrrb.rd M12 (aM (i := 4) rfl)).below_len ((show (([⟨1, 65536, 0, 0, 65536, 0, 0, -16, 0, -1024⟩, ⟨2, 65536, 0, 0, 0, 0, 131071, 0, 0, 0⟩] : List Body).map aG)[0]? = some (aG ⟨1, 65536, 0, 0, 65536, 0, 0, -16, 0, -1024⟩) from rfl)))) rfl) rfl rfl ?_
  refine aA (pB (o := 8) _ bJ (hrrb.rd M12 (aM (i := 4) rfl)) ((show (([⟨1, 65536, 0, 0, 65536, 0, 0, -16, 0, -1024⟩, ⟨2, 65536, 0, 0, 0, 0, 131071, 0, 0, 0⟩] : List Body).map aG)[0]? = some (aG ⟨1, 65536, 0, 0, 65536, 0, 0, -16, 0, -1024⟩) from rfl)) rfl rfl rfl) rfl rfl ?_
  refine aA (cI [(1, .int _ _)] _ eI rfl rfl) rfl rfl ?_
  refine aA (lT (aCv _ _ _ _) rfl rfl) rfl rfl ?_
  refine aQ 66 (.bool true) (bT (by decide)).symm ?_
  refine aA (bI true (.bool true) rfl rfl) rfl rfl ?_
  refine aA (aC (.bool true) rfl) rfl rfl ?_
  refine aA (aC (.slice _ _ _) rfl) rfl rfl ?_
  refine aA (bK (1) cA rfl rfl rfl ((hrrb.rd M12 (aM (i := 4) rfl)).below_len ((show (([⟨1, 65536, 0, 0, 65536, 0, 0, -16, 0, -1024⟩, ⟨2, 65536, 0, 0, 0, 0, 131071, 0, 0, 0⟩] : List Body).map aG)[1]? = some (aG ⟨2, 65536, 0, 0, 0, 0, 131071, 0, 0, 0⟩) from rfl))) ((hrrb.rd M12 (aM (i := 4) rfl)).someK ((show (([⟨1, 65536, 0, 0, 65536, 0, 0, -16, 0, -1024⟩, ⟨2, 65536, 0, 0, 0, 0, 131071, 0, 0, 0⟩] : List Body).map aG)[1]? = some (aG ⟨2, 65536, 0, 0, 0, 0, 131071, 0, 0, 0⟩) from rfl)))) rfl rfl ?_
  refine aA (bR 8 fD (hrrb.rd M12 (aM (i := 4) rfl)) (Nat.lt_of_le_of_lt (Nat.zero_le _) ((hrrb.rd M12 (aM (i := 4) rfl)).below_len ((show (([⟨1, 65536, 0, 0, 65536, 0, 0, -16, 0, -1024⟩, ⟨2, 65536, 0, 0, 0, 0, 131071, 0, 0, 0⟩] : List Body).map aG)[1]? = some (aG ⟨2, 65536, 0, 0, 0, 0, 131071, 0, 0, 0⟩) from rfl)))) rfl) rfl rfl ?_
  refine aA (pB (o := 8) _ bJ (hrrb.rd M12 (aM (i := 4) rfl)) ((show (([⟨1, 65536, 0, 0, 65536, 0, 0, -16, 0, -1024⟩, ⟨2, 65536, 0, 0, 0, 0, 131071, 0, 0, 0⟩] : List Body).map aG)[1]? = some (aG ⟨2, 65536, 0, 0, 0, 0, 131071, 0, 0, 0⟩) from rfl)) rfl rfl rfl) rfl rfl ?_
  refine aA (cI [] _ eI rfl rfl) rfl rfl ?_
  refine aA (lT (aCv _ _ _ _) rfl rfl) rfl rfl ?_
  refine aQ 74 (.bool true) (bT (by decide)).symm ?_
  refine aA (bI true (.bool true) rfl rfl) rfl rfl ?_
  refine aA (aC (.bool true) rfl) rfl rfl ?_
  refine aA (bE 5 iS M12 rfl rfl rfl) rfl rfl ?_
  refine aA (cI [(0, .int _ _), (1, .int _ _)] _ aBu rfl rfl) rfl rfl ?_
  refine aA (lT (aZh _ _ _ _ _ _) rfl rfl) rfl rfl ?_
  refine aQ 79 (.bool true) (bT (by decide)).symm ?_
  refine aA (bI true (.bool true) rfl rfl) rfl rfl ?_
  refine aA (aC (.bool true) rfl) rfl rfl ?_
  refine aA (aC (.slice _ _ _) rfl) rfl rfl ?_
  refine aA (bK (0) cA rfl rfl rfl ((hrc.rd M12 (aM (i := 7) rfl)).below_len ((show (([⟨0, 65536, 0, 0, 65536, 0, 0, -48, 0, -2048⟩] : List Body).map aG)[0]? = some (aG ⟨0, 65536, 0, 0, 65536, 0, 0, -48, 0, -2048⟩) from rfl))) ((hrc.rd M12 (aM (i := 7) rfl)).someK ((show (([⟨0, 65536, 0, 0, 65536, 0, 0, -48, 0, -2048⟩] : List Body).map aG)[0]? = some (aG ⟨0, 65536, 0, 0, 65536, 0, 0, -48, 0, -2048⟩) from rfl)))) rfl rfl ?_
  refine aA (bR 6 eK (hrc.rd M12 (aM (i := 7) rfl)) (Nat.lt_of_le_of_lt (Nat.zero_le _) ((hrc.rd M12 (aM (i := 7) rfl)).below_len ((show (([⟨0, 65536, 0, 0, 65536, 0, 0, -48, 0, -2048⟩] : List Body).map aG)[0]? = some (aG ⟨0, 65536, 0, 0, 65536, 0, 0, -48, 0, -2048⟩) from rfl)))) rfl) rfl rfl ?_
  refine aA (pB (o := 6) _ bJ (hrc.rd M12 (aM (i := 7) rfl)) ((show (([⟨0, 65536, 0, 0, 65536, 0, 0, -48, 0, -2048⟩] : List Body).map aG)[0]? = some (aG ⟨0, 65536, 0, 0, 65536, 0, 0, -48, 0, -2048⟩) from rfl)) rfl rfl rfl) rfl rfl ?_
  refine aA (cI [(1, .int _ _)] _ eI rfl rfl) rfl rfl ?_
  refine aA (lT (aCv _ _ _ _) rfl rfl) rfl rfl ?_
  refine aQ 87 (.bool true) (bT (by decide)).symm ?_
  refine aA (bI true (.bool true) rfl rfl) rfl rfl ?_
  refine aA (aC (.bool true) rfl) rfl rfl ?_
  refine aA (cI [(1, .int _ _)] _ lU rfl rfl) rfl rfl ?_
  refine aL xR rfl rfl rfl ?_
  refine (jT _ ⟨0, 65536, 0, 0, 0, 0, 0, 0, 0, 0⟩ aSy).mono ?_
  rintro _ w13 ⟨v13, rfl, ⟨rfl, hb13⟩⟩
  refine ⟨_, rfl, ?_⟩
  have M13 := M12.callB hb13
  refine aQ 91 (.agg (aG ⟨0, 65536, 0, 0, 0, 0, 0, 0, 0, 0⟩).toArray) (congrArg (fun b => Value.agg (aG b).toArray) aVr) ?_
  refine aA (cI [(1, .int _ _)] _ lU rfl rfl) rfl rfl ?_
  refine aA (lT (oW ⟨0, 65536, 0, 0, 0, 0, 0, 0, 0, 0⟩ ⟨0, 65536, 0, 0, 0, 0, 0, 0, 0, 0⟩) rfl rfl) rfl rfl ?_
  refine aQ 93 (.bool true) (bT (by decide)).symm ?_
  refine aA (bI true (.bool true) rfl rfl) rfl rfl ?_
  refine aA (aE (.bool true) rfl) rfl rfl ?_
  refine aD (aF (aS ?_))
  refine cG (.bool true) rfl ?_
  exact ⟨rfl, M13.below⟩
end Go.Proofs.YtlmcphcgiclanaaGreatDoor

namespace Go.Proofs.YtlmcphcgiclanaaGreatDoor
open Go.Bil
open Go.RowKit (Below)
open Go.Proofs
end Go.Proofs.YtlmcphcgiclanaaGreatDoor
