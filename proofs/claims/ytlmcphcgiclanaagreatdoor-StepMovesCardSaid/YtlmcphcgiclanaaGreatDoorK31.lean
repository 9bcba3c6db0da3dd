/- Part of the proof of the laws of this seat: S20i, S20j, S20k, S20l, S20m, S20n, R20a, R20b, R20c, R20d, R20e, R20f, Aw20, Aw20b, L20. No conditions. -/
import Derived.Test.YtlmcphcgiclanaaGreatDoorK5
import Derived.Test.YtlmcphcgiclanaaGreatDoorK27
import Derived.Test.YtlmcphcgiclanaaGreatDoorK30
import Derived.Test.YtlmcphcgiclanaaGreatDoorK29
import Derived.Test.YtlmcphcgiclanaaGreatDoorK28
import Derived.Test.YtlmcphcgiclanaaGreatDoorK26
import Derived.Test.YtlmcphcgiclanaaGreatDoorK18
import Derived.Test.YtlmcphcgiclanaaGreatDoorK17
import Derived.Test.YtlmcphcgiclanaaGreatDoorK3
set_option linter.unusedVariables false
set_option linter.unusedSimpArgs false
set_option linter.unnecessarySimpa false
namespace Go.Proofs.YtlmcphcgiclanaaGreatDoor
open Go.Bil
open Go.RowKit (Below)
open Go.Proofs
set_option maxHeartbeats 4000000 in
theorem nH (w : World) (a l : Int) (hl : 0 ≤ l ∧ l ≤ 2147483647) (bf : Nat) (fl : Bool) (F : Option Addr) (cf : Nat) (RF : Rd w 1 F 1 [[.pointer (some ⟨bf, 0, none⟩)]]) (hdF : 0 < 1 → ∀ q off, F = some ⟨q, off, none⟩ → q ∉ bV [(some bf, bc [.bool fl] 4)]) (hO : Own [(some bf, bc [.bool fl] 4)] w) :
    Calls Tryz.prog 85 #[.int .i64 a, .int .i64 l, .slice F 1 cf] w (fun ex w' => ∃ v, ex = .returned v ∧ (fun v w' => v = .int .i32 (gP a l) ∧ Mem w (bV [(some bf, bc [.bool fl] 4)]) [(some bf, bc [.bool (fl || decide (gP a l ≠ a))] 4)] w') v w') := by
  have hr := eX a hl.1
  refine aJ #[.tmp 6] 34 Tryz.func85 rfl Tryz.results85 Tryz.ntmps85 rfl ?_
  have M0 := hO.mem
  refine aG (aB ?_)
  refine aA (aD (.int _ _) rfl) rfl rfl ?_
  refine aE (aF (aG (aB ?_)))
  refine aA (aC (.int _ _) rfl) rfl rfl ?_
  refine aA (aC (.int _ _) rfl) rfl rfl ?_
  refine aL aEp rfl rfl rfl ?_
  refine (vL _ a l (by omega)).mono ?_
  rintro _ w1 ⟨v1, rfl, ⟨rfl, hb1⟩⟩
  refine ⟨_, rfl, ?_⟩
  have M1 := M0.callB hb1
  refine aA (aC (.tuple (List.toArray _)) rfl) rfl rfl ?_
  refine aA (bC (.int _ _) rfl rfl) rfl rfl ?_
  refine aA (bC (.bool (decide _)) rfl rfl) rfl rfl ?_
  refine aA (aD (.int _ _) rfl) rfl rfl ?_
  refine aA (aD (.bool (decide _)) rfl) rfl rfl ?_
  refine aE (aF (aG (aG (aB ?_))))
  refine aA (aC (.slice _ _ _) rfl) rfl rfl ?_
  refine aA (cS Tryz.underlying175 rfl) rfl rfl ?_
  refine aN 18 (.int .i64 1) (iE rfl) ?_
  refine aA (aC (.int _ _) rfl) rfl rfl ?_
  refine aE (aF (bB ?_))
  refine mZ 2 (nK ?_)
  refine aG (aB ?_)
  refine aA (aO (.bool (decide _)) rfl rfl rfl) rfl rfl ?_
  refine aN 20 (.bool true) (bT (by first | decide | omega)).symm ?_
  refine aE (aF (aG ?_))
  refine dE rfl ?_
  refine aM (aF (aG (bB (aG (aB ?_)))))
  refine aA (bQ (0) aGs rfl rfl rfl ((RF.memY M1 hdF).below_len ((show ([[.pointer (some ⟨bf, 0, none⟩)]] : List (List Value))[0]? = some [.pointer (some ⟨bf, 0, none⟩)] from rfl))) ((RF.memY M1 hdF).someK ((show ([[.pointer (some ⟨bf, 0, none⟩)]] : List (List Value))[0]? = some [.pointer (some ⟨bf, 0, none⟩)] from rfl)))) rfl rfl ?_
  refine aA (jK (.pointer _) aTs (RF.memY M1 hdF) ((show ([[.pointer (some ⟨bf, 0, none⟩)]] : List (List Value))[0]? = some [.pointer (some ⟨bf, 0, none⟩)] from rfl)) rfl) rfl rfl ?_
  refine aA (aD (.pointer _) rfl) rfl rfl ?_
  refine aE (aF (aB ?_))
  refine aA (aC (.pointer _) rfl) rfl rfl ?_
  refine aA (aC (.pointer _) rfl) rfl rfl ?_
  refine aA (aW rfl) rfl rfl ?_
  refine aA (aY 0 (.bool _) kV M1 rfl rfl rfl) rfl rfl ?_
  refine aA (aC (.bool _) rfl) rfl rfl ?_
  refine iN 27 _ rfl (fun g27 => ?_) (fun g27 => ?_)
  · refine aP rfl rfl ?_
    refine aA (bM true (.bool true) rfl rfl) rfl rfl ?_
    refine aA (aW rfl) rfl rfl ?_
    refine eD 0 (.bool true) kV M1 rfl rfl rfl rfl rfl rfl (fun w2 M2 => ?_)
    refine aE ?_
    refine dN ?_
    refine aF (aB ?_)
    refine aA (bX rfl rfl (by first | decide | omega) (by first | decide | omega)) rfl rfl ?_
    refine aN 31 (.int .i64 1) (iE (by first | decide | omega)) ?_
    refine aA (aC (.int _ _) rfl) rfl rfl ?_
    refine aE ?_
    refine aF (nK ?_)
    refine aG (aB ?_)
    refine aA (aO (.bool (decide _)) rfl rfl rfl) rfl rfl ?_
    refine aN 20 (.bool false) (bF (by first | decide | omega)).symm ?_
    refine aE (aF (aG ?_))
    refine cO rfl ?_
    refine cM ?_
    refine dG (dG ?_)
    refine eP ?_
    refine aF (aG (aB ?_))
    refine aA (aC (.int _ _) rfl) rfl rfl ?_
    refine aA (bP us2 Tryz.underlying21 rfl (iY _ (by omega) (by omega))) rfl rfl ?_
    refine aA (aD (.int _ _) rfl) rfl rfl ?_
    refine aE (aF (aQ ?_))
    refine cJ (.int _ _) rfl ?_
    first | exact ⟨rfl, by rw [(by simp only [g27, Bool.true_or] : (fl || decide (gP a l ≠ a)) = true)]; exact M2⟩ | exact ⟨rfl, by rw [(by simp only [g27, Bool.false_or] : (fl || decide (gP a l ≠ a)) = decide (gP a l ≠ a))]; exact M2⟩
  · refine aA (aC (.bool (decide _)) rfl) rfl rfl ?_
    refine aA (bM false (.bool (decide _)) rfl rfl) rfl rfl ?_
    refine aA (aW rfl) rfl rfl ?_
    refine eD 0 (.bool (decide _)) kV M1 rfl rfl rfl rfl rfl rfl (fun w3 M3 => ?_)
    refine aE ?_
    refine dN ?_
    refine aF (aB ?_)
    refine aA (bX rfl rfl (by first | decide | omega) (by first | decide | omega)) rfl rfl ?_
    refine aN 31 (.int .i64 1) (iE (by first | decide | omega)) ?_
    refine aA (aC (.int _ _) rfl) rfl rfl ?_
    refine aE ?_
    refine aF (nK ?_)
    refine aG (aB ?_)
    refine aA (aO (.bool (decide _)) rfl rfl rfl) rfl rfl ?_
    refine aN 20 (.bool false) (bF (by first | decide | omega)).symm ?_
    refine aE (aF (aG ?_))
    refine cO rfl ?_
    refine cM ?_
    refine dG (dG ?_)
    refine eP ?_
    refine aF (aG (aB ?_))
    refine aA (aC (.int _ _) rfl) rfl rfl ?_
    refine aA (bP us2 Tryz.underlying21 rfl (iY _ (by omega) (by omega))) rfl rfl ?_
    refine aA (aD (.int _ _) rfl) rfl rfl ?_
    refine aE (aF (aQ ?_))
    refine cJ (.int _ _) rfl ?_
    first | exact ⟨rfl, by rw [(by simp only [g27, Bool.true_or] : (fl || decide (gP a l ≠ a)) = true)]; exact M3⟩ | exact ⟨rfl, by rw [(by simp only [g27, Bool.false_or] : (fl || decide (gP a l ≠ a)) = decide (gP a l ≠ a))]; exact M3⟩
set_option maxHeartbeats 4000000 in
theorem aIb (w : World) (i : Int) (b : Body) (hb : Okb b) (bf : Nat) (fl : Bool) (hO : Own [(some bf, bc [.bool fl] 4)] w) :
    Calls Tryz.prog 83 #[.int .i64 i, (.agg (aI b).toArray), .pointer (some ⟨bf, 0, none⟩)] w (fun ex w' => ∃ v, ex = .returned v ∧ (fun v w' => v = (.agg (aI (gS b)).toArray) ∧ Mem w (bV [(some bf, bc [.bool fl] 4)]) [(some bf, bc [.bool (fl || nI b)] 4)] w') v w') := by
  have hv := hb.v
  refine aJ #[.cell 5 40] 19 Tryz.func83 rfl Tryz.results83 Tryz.ntmps83 rfl ?_
  have M0 := hO.mem
  refine aG (aB ?_)
  refine bL (.agg (List.toArray _)) M0 rfl rfl rfl (fun b1 w1 M1 => ?_)
  refine aT kR M1 rfl rfl (fun b2 w2 M2 => ?_)
  refine aE (aF (aG (aG (aB ?_))))
  refine aA (bA 1 bW M2 rfl rfl rfl) rfl rfl ?_
  refine aL aXw rfl rfl rfl ?_
  refine (wD _ b).mono ?_
  rintro _ w3 ⟨v3, rfl, ⟨rfl, hb3⟩⟩
  refine ⟨_, rfl, ?_⟩
  have M3 := M2.callB hb3
  refine aA (oN rfl) rfl rfl ?_
  refine aE (aF ?_)
  refine aZ rfl (fun h8 => ?_) (fun h8 => ?_)
  · refine aB ?_
    refine aA (aH 8 eS rfl) rfl rfl ?_
    refine aA (aH 1 dH rfl) rfl rfl ?_
    refine aA (aY 1 (.int _ _) bG M3 rfl rfl rfl) rfl rfl ?_
    refine aA (bP fE Tryz.underlying2 rfl (jB _ (by omega) (by omega))) rfl rfl ?_
    refine aA (mQ rfl rfl (by omega) (by omega)) rfl rfl ?_
    refine cL [.pointer _] [[.pointer (some ⟨bf, 0, none⟩)]] rfl aGs M3 rfl rfl rfl rfl (cU rfl) (by decide) (fun b4 w4 M4 => ?_)
    have hlit14 := iB (T := 133) (sz := 1) (b := b4) (nn := 1) [[.pointer (some ⟨bf, 0, none⟩)]] (by simp) rfl (by decide)
    refine aL aLv rfl rfl rfl ?_
    refine (nH _ (b.vy - 1024) 16777216 ⟨by decide, by decide⟩ bf _ _ 1 (hlit14.rd M4 (aS (i := 3) rfl)) (hlit14.awayB M4 3 0 rfl rfl rfl) (M4.ownSeg 0 1)).mono ?_
    rintro _ w5 ⟨v5, rfl, ⟨rfl, hM5⟩⟩
    refine ⟨_, rfl, ?_⟩
    have M5 : Mem _ _ [_, _, _, _] _ := M4.seg 0 1 hM5
    refine aA (aH 8 eS rfl) rfl rfl ?_
    refine aA (aH 1 dH rfl) rfl rfl ?_
    refine eD 1 (.int _ _) bG M5 rfl rfl rfl rfl rfl rfl (fun w6 M6 => ?_)
    refine aE (aF (aG (aB ?_)))
    refine aA (bA 1 bW M6 rfl rfl rfl) rfl rfl ?_
    refine bJ 2 _ bW M6 rfl rfl rfl rfl rfl (aV rfl) rfl (fun w7 M7 => ?_)
    refine aE (aF (aQ ?_))
    refine kH 2 bW M7 rfl rfl rfl ?_
    exact ⟨by unfold gS; rw [if_neg h8]; rfl, by rw [show nI b = decide (gP (b.vy - 1024) 16777216 ≠ b.vy - 1024) by unfold nI; rw [decide_eq_true h8, Bool.true_and]]; exact M7.keep [true, false, false, false]⟩
  · refine aM (aF (aG (aB ?_)))
    refine aA (bA 1 bW M3 rfl rfl rfl) rfl rfl ?_
    refine bJ 2 _ bW M3 rfl rfl rfl rfl rfl (aV rfl) rfl (fun w8 M8 => ?_)
    refine aE (aF (aQ ?_))
    refine kH 2 bW M8 rfl rfl rfl ?_
    exact ⟨by unfold gS; rw [if_pos (Decidable.not_not.1 h8)]; rfl, by rw [show nI b = false by unfold nI; rw [decide_eq_false h8, Bool.false_and], Bool.or_false]; exact M8.keep [true, false, false]⟩
set_option maxHeartbeats 4000000 in
theorem aDu (w : World) (A : Option Addr) (n c : Nat) (xs : List Body) (R : Rd w 10 A n (xs.map aI)) (hb : ∀ b ∈ xs, Okb b) (hn : n ≤ 1048576) (bf : Nat) (hO : Own [(some bf, bc [.bool false] 4)] w) (hdA : 0 < n → ∀ q off, A = some ⟨q, off, none⟩ → q ∉ bV [(some bf, bc [.bool false] 4)]) :
    Calls Tryz.prog 82 #[.slice A n c, .func (.func 83) #[] #[.pointer (some ⟨bf, 0, none⟩)]] w (fun ex w' => ∃ v, ex = .returned v ∧ (fun v w' => ∃ r : Row, v = .slice r.A r.n r.c ∧ aX 40 10 r.A r.n r.c ((lD xs).map aI) r.e ∧ Mem w (bV [(some bf, bc [.bool false] 4)]) [(some bf, bc [.bool (xs.any nI)] 4), r.e] w') v w') := by
  have hlen : xs.length = n := by simpa using R.len
  have hbd := R.bound
  refine aJ #[.tmp 4] 24 Tryz.func82 rfl Tryz.results82 Tryz.ntmps82 rfl ?_
  have M0 := hO.mem
  refine aG (aB ?_)
  refine aA (aD (.slice _ _ _) rfl) rfl rfl ?_
  refine aE (aF (aG (aB ?_)))
  refine aA (aD (.slice _ _ _) rfl) rfl rfl ?_
  have M1 := M0.dummy default
  refine aE (aF (aG (aG (aB ?_))))
  refine aA (aC (.slice _ _ _) rfl) rfl rfl ?_
  refine aA (cS Tryz.underlying22 rfl) rfl rfl ?_
  refine aA (aC (.int _ _) rfl) rfl rfl ?_
  refine aE (aF (bB ?_))
  refine dM (σ := Nat × Row) [1, 4, 8, 9] (fun (k, q) => [(5, .slice q.A q.n q.c), (10, .int .i64 (k : Int))]) (fun (k, q) w' => (k ≤ n ∧ aX 40 10 q.A q.n q.c (((xs.take k).map gS).map aI) q.e) ∧ Mem w (bV [(some bf, bc [.bool false] 4)]) [(some bf, bc [.bool ((xs.take k).any nI)] 4), q.e] w') (fun (k, q) => n - k) (0, fY) (bS rfl (bS rfl fC)) (⟨⟨by omega, aX.nil _ _ _⟩, M1⟩) ?_
  rintro ⟨k, q⟩ ρ2 w2 ⟨⟨hk, hq⟩, hM2⟩
  have htl := List.length_take_le k xs
  have hqn : (xs.take k).length = q.n := by simpa using hq.1
  refine aG (aB ?_)
  refine aA (aO (.bool (decide _)) rfl rfl rfl) rfl rfl ?_
  refine aE (aF (aG ?_))
  refine aZ rfl (fun h11 => ?_) (fun h11 => ?_)
  · obtain ⟨xb, hxb⟩ := cQ (xs := xs) (k := k) hlen (by omega)
    refine aM (aF (aG (bB (aG (aB ?_)))))
    refine aA (aC (.int _ _) rfl) rfl rfl ?_
    refine aA (bQ (k) dD rfl rfl rfl ((R.memY hM2 hdA).below_len (aK aI hxb)) ((R.memY hM2 hdA).someK (aK aI hxb))) rfl rfl ?_
    refine aA (dO _ bW (R.memY hM2 hdA) (aK aI hxb) rfl) rfl rfl ?_
    refine aT kR hM2 rfl rfl (fun b3 w3 M3 => ?_)
    refine aA (aD (.int _ _) rfl) rfl rfl ?_
    refine bJ 2 _ bW M3 rfl rfl rfl rfl rfl (aV rfl) rfl (fun w4 M4 => ?_)
    refine aE (aF (aB ?_))
    refine aA (aC (.slice _ _ _) rfl) rfl rfl ?_
    refine aA (aC (.func _ _ _) rfl) rfl rfl ?_
    refine aA (aC (.int _ _) rfl) rfl rfl ?_
    refine aA (bA 2 bW M4 rfl rfl rfl) rfl rfl ?_
    refine aL aWu rfl rfl rfl ?_
    refine (aIb _ _ xb (hb xb (List.mem_of_getElem? hxb)) bf _ (M4.ownSeg 0 1)).mono ?_
    rintro _ w5 ⟨v5, rfl, ⟨rfl, hM5⟩⟩
    refine ⟨_, rfl, ?_⟩
    have M5 : Mem _ _ [_, _, _] _ := M4.seg 0 1 hM5
    refine cL [.agg (List.toArray _)] [aI (gS xb)] rfl dD M5 rfl rfl rfl rfl (cU rfl) (by decide) (fun b6 w6 M6 => ?_)
    refine dK 1 [aI (gS xb)] dD M6 rfl rfl rfl rfl rfl hq rfl (by simp [aI, Go.Bil.one]) (cP.ofMem 3 M6 rfl) (by omega) (fun A7 c7 e7 w7 M7 hR7 => ?_)
    refine aA (aD (.slice _ _ _) rfl) rfl rfl ?_
    refine aE ?_
    refine dN ?_
    refine aF (aB ?_)
    refine aA (bX rfl rfl (by omega) (by omega)) rfl rfl ?_
    refine aA (aC (.int _ _) rfl) rfl rfl ?_
    refine aE ?_
    refine cH (k + 1, ⟨A7, q.n + 1, c7, e7⟩) (bS rfl (bS rfl fC)) (cN rfl (cN rfl (cN rfl (cN rfl iS)))) ?_ ?_
    · exact ⟨⟨by omega, by rw [cI hxb, List.map_append, List.map_append]; exact hR7⟩, by rw [cI hxb, List.any_append, List.any_cons, List.any_nil, Bool.or_false]; exact M7.keep [true, true, false, false]⟩
    · (show n - (k + 1) < n - k; omega)
  · have hkn : k = n := by omega
    rw [List.take_of_length_le (by omega)] at hq
    rw [List.take_of_length_le (by omega)] at hM2
    refine cM ?_
    refine dG ?_
    refine cZ ?_
    refine eP ?_
    refine aF (aG (aB ?_))
    refine aA (aC (.slice _ _ _) rfl) rfl rfl ?_
    refine aA (aD (.slice _ _ _) rfl) rfl rfl ?_
    refine aE (aF (aQ ?_))
    refine cJ (.slice _ _ _) rfl ?_
    exact ⟨q, rfl, hq, hM2⟩
set_option maxHeartbeats 4000000 in
theorem sC (w : World) (A : Option Addr) (n c : Nat) (xs : List Body) (R : Rd w 10 A n (xs.map aI)) (hb : ∀ b ∈ xs, Okb b) (hn : n ≤ 1048576) :
    Calls Tryz.prog 53 #[.slice A n c] w (fun ex w' => ∃ v, ex = .returned v ∧ (fun v w' => ∃ r : Row, v = .tuple #[.slice r.A r.n r.c, .bool (xs.any nI)] ∧ aX 40 10 r.A r.n r.c ((lD xs).map aI) r.e ∧ Mem w [] [r.e] w') v w') := by
  refine aJ #[.tmp 2, .tmp 3] 11 Tryz.func53 rfl Tryz.results53 Tryz.ntmps53 rfl ?_
  have M0 := Mem.refl w
  refine aG (aB ?_)
  refine aA (aD (.slice _ _ _) rfl) rfl rfl ?_
  refine aA (aD (.bool false) rfl) rfl rfl ?_
  refine aE (aF (aG (aB ?_)))
  refine aT aNs M0 rfl rfl (fun b1 w1 M1 => ?_)
  refine eD 0 (.bool false) kV M1 rfl rfl rfl rfl rfl rfl (fun w2 M2 => ?_)
  refine aE (aF (aG (aB ?_)))
  refine aA (aC (.slice _ _ _) rfl) rfl rfl ?_
  refine aA (dF [] [.pointer _] rfl rfl) rfl rfl ?_
  refine aL aSm rfl rfl rfl ?_
  refine (aDu _ A n c xs (R.mem M2) hb hn b1 (M2.ownSeg 0 1) (M2.away 0 1 R (by simp))).mono ?_
  rintro _ w3 ⟨v3, rfl, ⟨r, rfl, hr, hM3⟩⟩
  refine ⟨_, rfl, ?_⟩
  have M3 : Mem _ _ [_, _] _ := M2.seg 0 1 hM3
  refine aA (aD (.slice _ _ _) rfl) rfl rfl ?_
  refine aE (aF (aG ?_))
  refine bY [(0, 0), (1, 1), (2, 0), (3, 0)] mixed rfl (by kernel_rfl) (fun w4 hb4 hh4 => ?_)
  have M4 := M3.drew hb4 hh4
  refine aU rfl rfl rfl (fun _ => aC (.slice _ _ _) rfl) ?_
  refine cB rfl rfl rfl (aY 0 (.bool _) kV M4 rfl rfl rfl) ?_
  refine aU rfl rfl rfl (fun _ => aD (.slice _ _ _) rfl) ?_
  refine aU rfl rfl rfl (fun _ => aD (.bool _) rfl) ?_
  refine cF ?_
  refine aF (aQ ?_)
  refine eN (.slice _ _ _) (.bool _) rfl rfl ?_
  exact ⟨r, rfl, hr, M4.keep [false, true]⟩
end Go.Proofs.YtlmcphcgiclanaaGreatDoor

namespace Go.Proofs.YtlmcphcgiclanaaGreatDoor
open Go.Bil
open Go.RowKit (Below)
open Go.Proofs
set_option maxHeartbeats 4000000 in
theorem aIl (w : World) (i : Nat) (b : Body) (hb : Okb b) (bf bl : Nat) (fl : Bool) (C : Option Addr) (m cm : Nat) (l : List (Int × Int)) (RS : Rd w 2 C m (l.map bR)) (s : Int × Int) (hs : l[i]? = some s) (hsb : (-1152921504606846976 ≤ s.1 ∧ s.1 ≤ 1152921504606846976) ∧ -1152921504606846976 ≤ s.2 ∧ s.2 ≤ 1152921504606846976) (hO : Own [(some bf, bc [.bool fl] 4), (some bl, bc [.slice C m cm] 97)] w) (hdS : 0 < m → ∀ q off, C = some ⟨q, off, none⟩ → q ∉ bV [(some bf, bc [.bool fl] 4), (some bl, bc [.slice C m cm] 97)]) :
    Calls Tryz.prog 86 #[.int .i64 (i : Int), (.agg (aI b).toArray), .pointer (some ⟨bl, 0, none⟩), .pointer (some ⟨bf, 0, none⟩)] w (fun ex w' => ∃ v, ex = .returned v ∧ (fun v w' => v = (.agg (aI (kA b s.1 s.2)).toArray) ∧ Mem w (bV [(some bf, bc [.bool fl] 4), (some bl, bc [.slice C m cm] 97)]) [(some bf, bc [.bool (fl || aBe b s.1 s.2)] 4), (some bl, bc [.slice C m cm] 97)] w') v w') := by
  have hv := hb.v
  have hpp := hb.p
  have hlm : l.length = m := by simpa using RS.len
  have hil := (List.getElem?_eq_some_iff.1 hs).1
  refine aJ #[.cell 6 40] 50 Tryz.func86 rfl Tryz.results86 Tryz.ntmps86 rfl ?_
  have M0 := hO.mem
  refine aG (aB ?_)
  refine bL (.agg (List.toArray _)) M0 rfl rfl rfl (fun b1 w1 M1 => ?_)
  refine aT kR M1 rfl rfl (fun b2 w2 M2 => ?_)
  refine aE (aF (aG ?_))
  refine bY [(0, 0), (1, 0), (2, 1), (3, 0), (4, 1), (5, 0), (6, 1), (7, 1), (8, 1), (9, 0), (10, 0), (11, 0), (12, 1), (13, 0), (14, 0), (15, 0), (16, 0)] mixed rfl (by kernel_rfl) (fun w3 hb3 hh3 => ?_)
  have M3 := M2.drew hb3 hh3
  refine aU rfl rfl rfl (fun _ => aH 6 eG rfl) ?_
  refine aU rfl rfl rfl (fun _ => aH 0 dL rfl) ?_
  refine cB rfl rfl rfl (aY 2 (.int _ _) bG M3 rfl rfl rfl) ?_
  refine aU rfl rfl rfl (fun _ => bP fE Tryz.underlying2 rfl (jB _ (by omega) (by omega))) ?_
  refine cB rfl rfl rfl (aY 1 (.slice _ _ _) wR M3 rfl rfl rfl) ?_
  refine aU rfl rfl rfl (fun _ => aC (.int _ _) rfl) ?_
  refine cB rfl rfl rfl (bQ (i) aBs rfl rfl rfl ((RS.memY M3 hdS).below_len (aK bR hs)) ((RS.memY M3 hdS).someK (aK bR hs))) ?_
  refine cB rfl rfl rfl (bN 0 vP (RS.memY M3 hdS) (Nat.lt_of_le_of_lt (Nat.zero_le _) ((RS.memY M3 hdS).below_len (aK bR hs))) rfl) ?_
  refine cB rfl rfl rfl (eK (o := 0) (.int _ _) jM (RS.memY M3 hdS) (aK bR hs) rfl rfl) ?_
  refine aU rfl rfl rfl (fun _ => bX rfl rfl (by omega) (by omega)) ?_
  refine aU rfl rfl rfl (fun _ => aH 8 eS rfl) ?_
  refine aU rfl rfl rfl (fun _ => aH 0 dL rfl) ?_
  refine cB rfl rfl rfl (aY 2 (.int _ _) bG M3 rfl rfl rfl) ?_
  refine aU rfl rfl rfl (fun _ => gT rfl rfl (by decide)) ?_
  refine oJ 22 (.int .i32 (b.vx / 64)) (iE (aAh _)) ?_
  refine aU rfl rfl rfl (fun _ => bP fE Tryz.underlying2 rfl (jB _ (by omega) (by omega))) ?_
  refine aU rfl rfl rfl (fun _ => bX rfl rfl (by omega) (by omega)) ?_
  refine oJ 24 (.int .i64 (rL b s.1)) rfl ?_
  refine aU rfl rfl rfl (fun _ => aD (.int _ _) rfl) ?_
  refine cF ?_
  refine aF (aG ?_)
  refine bY [(0, 0), (1, 0), (2, 1), (3, 0), (4, 1), (5, 0), (6, 1), (7, 1), (8, 1), (9, 0), (10, 0), (11, 0), (12, 1), (13, 0), (14, 0), (15, 0), (16, 0)] mixed rfl (by kernel_rfl) (fun w4 hb4 hh4 => ?_)
  have M4 := M3.drew hb4 hh4
  refine aU rfl rfl rfl (fun _ => aH 6 eG rfl) ?_
  refine aU rfl rfl rfl (fun _ => aH 1 dH rfl) ?_
  refine cB rfl rfl rfl (aY 2 (.int _ _) bG M4 rfl rfl rfl) ?_
  refine aU rfl rfl rfl (fun _ => bP fE Tryz.underlying2 rfl (jB _ (by omega) (by omega))) ?_
  refine cB rfl rfl rfl (aY 1 (.slice _ _ _) wR M4 rfl rfl rfl) ?_
  refine aU rfl rfl rfl (fun _ => aC (.int _ _) rfl) ?_
  refine cB rfl rfl rfl (bQ (i) aBs rfl rfl rfl ((RS.memY M4 hdS).below_len (aK bR hs)) ((RS.memY M4 hdS).someK (aK bR hs))) ?_
  refine cB rfl rfl rfl (bN 1 uI (RS.memY M4 hdS) (Nat.lt_of_le_of_lt (Nat.zero_le _) ((RS.memY M4 hdS).below_len (aK bR hs))) rfl) ?_
  refine cB rfl rfl rfl (eK (o := 1) (.int _ _) jM (RS.memY M4 hdS) (aK bR hs) rfl rfl) ?_
  refine aU rfl rfl rfl (fun _ => bX rfl rfl (by omega) (by omega)) ?_
  refine aU rfl rfl rfl (fun _ => aH 8 eS rfl) ?_
  refine aU rfl rfl rfl (fun _ => aH 1 dH rfl) ?_
  refine cB rfl rfl rfl (aY 2 (.int _ _) bG M4 rfl rfl rfl) ?_
  refine aU rfl rfl rfl (fun _ => gT rfl rfl (by decide)) ?_
  refine oJ 38 (.int .i32 (b.vy / 64)) (iE (aAh _)) ?_
  refine aU rfl rfl rfl (fun _ => bP fE Tryz.underlying2 rfl (jB _ (by omega) (by omega))) ?_
  refine aU rfl rfl rfl (fun _ => bX rfl rfl (by omega) (by omega)) ?_
  refine oJ 40 (.int .i64 (qV b s.2)) rfl ?_
  refine aU rfl rfl rfl (fun _ => aD (.int _ _) rfl) ?_
  refine cF ?_
  refine aF (aG (aB ?_))
  refine aA (aC (.int _ _) rfl) rfl rfl ?_
  refine cL [.pointer _] [[.pointer (some ⟨bf, 0, none⟩)]] rfl aGs M4 rfl rfl rfl rfl (cU rfl) (by decide) (fun b5 w5 M5 => ?_)
  have hlit42 := iB (T := 133) (sz := 1) (b := b5) (nn := 1) [[.pointer (some ⟨bf, 0, none⟩)]] (by simp) rfl (by decide)
  refine aL aLv rfl rfl rfl ?_
  refine (nH _ (rL b s.1) 1073741824 ⟨by decide, by decide⟩ bf _ _ 1 (hlit42.rd M5 (aS (i := 4) rfl)) (hlit42.awayB M5 4 0 rfl rfl rfl) (M5.ownSeg 0 1)).mono ?_
  rintro _ w6 ⟨v6, rfl, ⟨rfl, hM6⟩⟩
  refine ⟨_, rfl, ?_⟩
  have M6 : Mem _ _ [_, _, _, _, _] _ := M5.seg 0 1 hM6
  refine aA (aC (.int _ _) rfl) rfl rfl ?_
  refine cL [.pointer _] [[.pointer (some ⟨bf, 0, none⟩)]] rfl aGs M6 rfl rfl rfl rfl (cU rfl) (by decide) (fun b7 w7 M7 => ?_)
  have hlit45 := iB (T := 133) (sz := 1) (b := b7) (nn := 1) [[.pointer (some ⟨bf, 0, none⟩)]] (by simp) rfl (by decide)
  refine aL aLv rfl rfl rfl ?_
  refine (nH _ (qV b s.2) 1073741824 ⟨by decide, by decide⟩ bf _ _ 1 (hlit45.rd M7 (aS (i := 5) rfl)) (hlit45.awayB M7 5 0 rfl rfl rfl) (M7.ownSeg 0 1)).mono ?_
  rintro _ w8 ⟨v8, rfl, ⟨rfl, hM8⟩⟩
  refine ⟨_, rfl, ?_⟩
  have M8 : Mem _ _ [_, _, _, _, _, _] _ := M7.seg 0 1 hM8
  refine aA (cE [(0, .int _ _), (1, .int _ _)] _ dU rfl rfl) rfl rfl ?_
  refine aA (aH 6 eG rfl) rfl rfl ?_
  refine tQ 2 _ bI M8 rfl rfl rfl rfl rfl (aV rfl) (Nat.le_of_ble_eq_true rfl) (fun w9 M9 => ?_)
  refine aE (aF (aG (aB ?_)))
  refine aA (bA 2 bW M9 rfl rfl rfl) rfl rfl ?_
  refine bJ 3 _ bW M9 rfl rfl rfl rfl rfl (aV rfl) rfl (fun w10 M10 => ?_)
  refine aE (aF (aQ ?_))
  refine kH 3 bW M10 rfl rfl rfl ?_
  exact ⟨rfl, by rw [show (fl || aBe b s.1 s.2) = ((fl || decide (gP (rL b s.1) 1073741824 ≠ rL b s.1)) || decide (gP (qV b s.2) 1073741824 ≠ qV b s.2)) from (Bool.or_assoc _ _ _).symm]; exact M10.keep [true, true, false, false, false, false]⟩
end Go.Proofs.YtlmcphcgiclanaaGreatDoor

namespace Go.Proofs.YtlmcphcgiclanaaGreatDoor
open Go.Bil
open Go.RowKit (Below)
open Go.Proofs
set_option maxHeartbeats 4000000 in
theorem aFk (w : World) (A : Option Addr) (n c : Nat) (xs : List Body) (R : Rd w 10 A n (xs.map aI)) (hb : ∀ b ∈ xs, Okb b) (hn : n ≤ 1048576) (bf bl : Nat) (G : Body → Int × Int) (hG : ∀ b ∈ xs, (-1152921504606846976 ≤ (G b).1 ∧ (G b).1 ≤ 1152921504606846976) ∧ -1152921504606846976 ≤ (G b).2 ∧ (G b).2 ≤ 1152921504606846976) (C : Option Addr) (cm : Nat) (RS : Rd w 2 C n ((xs.map G).map bR)) (hO : Own [(some bf, bc [.bool false] 4), (some bl, bc [.slice C n cm] 97)] w) (hdA : 0 < n → ∀ q off, A = some ⟨q, off, none⟩ → q ∉ bV [(some bf, bc [.bool false] 4), (some bl, bc [.slice C n cm] 97)]) (hdS : 0 < n → ∀ q off, C = some ⟨q, off, none⟩ → q ∉ bV [(some bf, bc [.bool false] 4), (some bl, bc [.slice C n cm] 97)]) :
    Calls Tryz.prog 82 #[.slice A n c, .func (.func 86) #[] #[.pointer (some ⟨bl, 0, none⟩), .pointer (some ⟨bf, 0, none⟩)]] w (fun ex w' => ∃ v, ex = .returned v ∧ (fun v w' => ∃ r : Row, v = .slice r.A r.n r.c ∧ aX 40 10 r.A r.n r.c ((xs.map (fun b => kA b (G b).1 (G b).2)).map aI) r.e ∧ Mem w (bV [(some bf, bc [.bool false] 4), (some bl, bc [.slice C n cm] 97)]) [(some bf, bc [.bool (xs.any (fun b => aBe b (G b).1 (G b).2))] 4), (some bl, bc [.slice C n cm] 97), r.e] w') v w') := by
  have hlen : xs.length = n := by simpa using R.len
  have hbd := R.bound
  refine aJ #[.tmp 4] 24 Tryz.func82 rfl Tryz.results82 Tryz.ntmps82 rfl ?_
  have M0 := hO.mem
  refine aG (aB ?_)
  refine aA (aD (.slice _ _ _) rfl) rfl rfl ?_
  refine aE (aF (aG (aB ?_)))
  refine aA (aD (.slice _ _ _) rfl) rfl rfl ?_
  have M1 := M0.dummy default
  refine aE (aF (aG (aG (aB ?_))))
  refine aA (aC (.slice _ _ _) rfl) rfl rfl ?_
  refine aA (cS Tryz.underlying22 rfl) rfl rfl ?_
  refine aA (aC (.int _ _) rfl) rfl rfl ?_
  refine aE (aF (bB ?_))
  refine dM (σ := Nat × Row) [1, 4, 8, 9] (fun (k, q) => [(5, .slice q.A q.n q.c), (10, .int .i64 (k : Int))]) (fun (k, q) w' => (k ≤ n ∧ aX 40 10 q.A q.n q.c (((xs.take k).map (fun b => kA b (G b).1 (G b).2)).map aI) q.e) ∧ Mem w (bV [(some bf, bc [.bool false] 4), (some bl, bc [.slice C n cm] 97)]) [(some bf, bc [.bool ((xs.take k).any (fun b => aBe b (G b).1 (G b).2))] 4), (some bl, bc [.slice C n cm] 97), q.e] w') (fun (k, q) => n - k) (0, fY) (bS rfl (bS rfl fC)) (⟨⟨by omega, aX.nil _ _ _⟩, M1⟩) ?_
  rintro ⟨k, q⟩ ρ2 w2 ⟨⟨hk, hq⟩, hM2⟩
  have htl := List.length_take_le k xs
  have hqn : (xs.take k).length = q.n := by simpa using hq.1
  refine aG (aB ?_)
  refine aA (aO (.bool (decide _)) rfl rfl rfl) rfl rfl ?_
  refine aE (aF (aG ?_))
  refine aZ rfl (fun h11 => ?_) (fun h11 => ?_)
  · obtain ⟨xb, hxb⟩ := cQ (xs := xs) (k := k) hlen (by omega)
    refine aM (aF (aG (bB (aG (aB ?_)))))
    refine aA (aC (.int _ _) rfl) rfl rfl ?_
    refine aA (bQ (k) dD rfl rfl rfl ((R.memY hM2 hdA).below_len (aK aI hxb)) ((R.memY hM2 hdA).someK (aK aI hxb))) rfl rfl ?_
    refine aA (dO _ bW (R.memY hM2 hdA) (aK aI hxb) rfl) rfl rfl ?_
    refine aT kR hM2 rfl rfl (fun b3 w3 M3 => ?_)
    refine aA (aD (.int _ _) rfl) rfl rfl ?_
    refine bJ 3 _ bW M3 rfl rfl rfl rfl rfl (aV rfl) rfl (fun w4 M4 => ?_)
    refine aE (aF (aB ?_))
    refine aA (aC (.slice _ _ _) rfl) rfl rfl ?_
    refine aA (aC (.func _ _ _) rfl) rfl rfl ?_
    refine aA (aC (.int _ _) rfl) rfl rfl ?_
    refine aA (bA 3 bW M4 rfl rfl rfl) rfl rfl ?_
    refine aL aXa rfl rfl rfl ?_
    refine (aIl _ k xb (hb xb (List.mem_of_getElem? hxb)) bf bl _ C n cm (xs.map G) (RS.memY M4 hdS) (G xb) (aK G hxb) (hG xb (List.mem_of_getElem? hxb)) (M4.ownSeg 0 2) (M4.away 0 2 RS hdS)).mono ?_
    rintro _ w5 ⟨v5, rfl, ⟨rfl, hM5⟩⟩
    refine ⟨_, rfl, ?_⟩
    have M5 : Mem _ _ [_, _, _, _] _ := M4.seg 0 2 hM5
    refine cL [.agg (List.toArray _)] [aI (kA xb (G xb).1 (G xb).2)] rfl dD M5 rfl rfl rfl rfl (cU rfl) (by decide) (fun b6 w6 M6 => ?_)
    refine dK 2 [aI (kA xb (G xb).1 (G xb).2)] dD M6 rfl rfl rfl rfl rfl hq rfl (by simp [aI, Go.Bil.one]) (cP.ofMem 4 M6 rfl) (by omega) (fun A7 c7 e7 w7 M7 hR7 => ?_)
    refine aA (aD (.slice _ _ _) rfl) rfl rfl ?_
    refine aE ?_
    refine dN ?_
    refine aF (aB ?_)
    refine aA (bX rfl rfl (by omega) (by omega)) rfl rfl ?_
    refine aA (aC (.int _ _) rfl) rfl rfl ?_
    refine aE ?_
    refine cH (k + 1, ⟨A7, q.n + 1, c7, e7⟩) (bS rfl (bS rfl fC)) (cN rfl (cN rfl (cN rfl (cN rfl iS)))) ?_ ?_
    · exact ⟨⟨by omega, by rw [cI hxb, List.map_append, List.map_append]; exact hR7⟩, by rw [cI hxb, List.any_append, List.any_cons, List.any_nil, Bool.or_false]; exact M7.keep [true, true, true, false, false]⟩
    · (show n - (k + 1) < n - k; omega)
  · have hkn : k = n := by omega
    rw [List.take_of_length_le (by omega)] at hq
    rw [List.take_of_length_le (by omega)] at hM2
    refine cM ?_
    refine dG ?_
    refine cZ ?_
    refine eP ?_
    refine aF (aG (aB ?_))
    refine aA (aC (.slice _ _ _) rfl) rfl rfl ?_
    refine aA (aD (.slice _ _ _) rfl) rfl rfl ?_
    refine aE (aF (aQ ?_))
    refine cJ (.slice _ _ _) rfl ?_
    exact ⟨q, rfl, hq, hM2⟩
set_option maxHeartbeats 4000000 in
theorem aCt (w : World) (A : Option Addr) (n c : Nat) (xs : List Body) (R : Rd w 10 A n (xs.map aI)) (hb : ∀ b ∈ xs, Okb b) (hn : n ≤ 1048576) (G : Body → Int × Int) (hG : ∀ b ∈ xs, (-1152921504606846976 ≤ (G b).1 ∧ (G b).1 ≤ 1152921504606846976) ∧ -1152921504606846976 ≤ (G b).2 ∧ (G b).2 ≤ 1152921504606846976) (C : Option Addr) (cm : Nat) (RS : Rd w 2 C n ((xs.map G).map bR)) :
    Calls Tryz.prog 54 #[.slice A n c, .slice C n cm] w (fun ex w' => ∃ v, ex = .returned v ∧ (fun v w' => ∃ r : Row, v = .tuple #[.slice r.A r.n r.c, .bool (xs.any (fun b => aBe b (G b).1 (G b).2))] ∧ aX 40 10 r.A r.n r.c ((xs.map (fun b => kA b (G b).1 (G b).2)).map aI) r.e ∧ Mem w [] [r.e] w') v w') := by
  refine aJ #[.tmp 4, .tmp 5] 13 Tryz.func54 rfl Tryz.results54 Tryz.ntmps54 rfl ?_
  have M0 := Mem.refl w
  refine aG (aB ?_)
  refine bL (.slice _ _ _) M0 rfl rfl rfl (fun b1 w1 M1 => ?_)
  refine aA (aD (.slice _ _ _) rfl) rfl rfl ?_
  refine aA (aD (.bool false) rfl) rfl rfl ?_
  refine aE (aF (aG (aB ?_)))
  refine aT aNs M1 rfl rfl (fun b2 w2 M2 => ?_)
  refine eD 1 (.bool false) kV M2 rfl rfl rfl rfl rfl rfl (fun w3 M3 => ?_)
  refine aE (aF (aG (aB ?_)))
  have M4 : Mem _ _ [_, _] _ := Mem.swap2 M3
  refine aA (aC (.slice _ _ _) rfl) rfl rfl ?_
  refine aA (dF [] [.pointer _, .pointer _] rfl rfl) rfl rfl ?_
  refine aL aSm rfl rfl rfl ?_
  refine (aFk _ A n c xs (R.mem M4) hb hn b2 b1 G hG C cm (RS.mem M4) (M4.ownSeg 0 2) (M4.away 0 2 R (by simp)) (M4.away 0 2 RS (by simp))).mono ?_
  rintro _ w5 ⟨v5, rfl, ⟨r, rfl, hr, hM5⟩⟩
  refine ⟨_, rfl, ?_⟩
  have M5 : Mem _ _ [_, _, _] _ := M4.seg 0 2 hM5
  refine aA (aD (.slice _ _ _) rfl) rfl rfl ?_
  refine aE (aF (aG ?_))
  refine bY [(0, 0), (1, 1), (2, 0), (3, 0)] mixed rfl (by kernel_rfl) (fun w6 hb6 hh6 => ?_)
  have M6 := M5.drew hb6 hh6
  refine aU rfl rfl rfl (fun _ => aC (.slice _ _ _) rfl) ?_
  refine cB rfl rfl rfl (aY 0 (.bool _) kV M6 rfl rfl rfl) ?_
  refine aU rfl rfl rfl (fun _ => aD (.slice _ _ _) rfl) ?_
  refine aU rfl rfl rfl (fun _ => aD (.bool _) rfl) ?_
  refine cF ?_
  refine aF (aQ ?_)
  refine eN (.slice _ _ _) (.bool _) rfl rfl ?_
  exact ⟨r, rfl, hr, M6.keep [false, false, true]⟩
set_option maxHeartbeats 4000000 in
theorem aIm (w : World) (b : Body) (hb : Okb b) :
    Calls Tryz.prog 23 #[(.agg (aI b).toArray)] w (fun ex w' => ∃ v, ex = .returned v ∧ (fun v w' => v = (.agg (aI (aCe b)).toArray) ∧ Below w.heap.size w w') v w') := by
  refine aJ #[.cell 2 40] 20 Tryz.func23 rfl Tryz.results23 Tryz.ntmps23 rfl ?_
  have M0 := Mem.refl w
  refine aG (aB ?_)
  refine bL (.agg (List.toArray _)) M0 rfl rfl rfl (fun b1 w1 M1 => ?_)
  refine aT kR M1 rfl rfl (fun b2 w2 M2 => ?_)
  refine aE (aF (aG (aB ?_)))
  refine aA (bA 0 bW M2 rfl rfl rfl) rfl rfl ?_
  refine cL [.agg (List.toArray _)] [aI (b)] rfl dD M2 rfl rfl rfl rfl (cU rfl) (by decide) (fun b3 w3 M3 => ?_)
  have hlit7 := iB (T := 40) (b := b3) (nn := 1) (([b] : List Body).map aI) (lZ _) rfl (by decide)
  refine aL aSs rfl rfl rfl ?_
  refine (sC _ _ _ _ [b] (hlit7.rd M3 (aS (i := 2) rfl)) (by intro y hy; rw [List.mem_singleton] at hy; subst hy; exact hb) (by decide)).mono ?_
  rintro _ w4 ⟨v4, rfl, ⟨⟨rA, rn, rc, re⟩, rfl, hr, hM4⟩⟩
  refine ⟨_, rfl, ?_⟩
  obtain rfl : rn = 1 := hr.1.symm
  have M4 : Mem _ _ [_, _, _, _] _ := M3.call0 hM4
  refine aA (aC (.tuple (List.toArray _)) rfl) rfl rfl ?_
  refine aA (bC (.slice _ _ _) rfl rfl) rfl rfl ?_
  refine aA (bC (.bool _) rfl rfl) rfl rfl ?_
  refine aA (aD (.slice _ _ _) rfl) rfl rfl ?_
  refine aA (aD (.bool _) rfl) rfl rfl ?_
  refine aE (aF (aG (aB ?_)))
  refine aA (aC (.slice _ _ _) rfl) rfl rfl ?_
  refine fU (1) [.int .i64 0, .int .i64 0] aBs aGm rfl M4 rfl rfl rfl rfl rfl rfl (by omega) (by omega) (fun b5 w5 M5 => ?_)
  have hL13 := iB (T := 135) (sz := 2) (b := b5) (nn := 1) (([gS b].map (fun _ => ((0, 0) : Int × Int))).map bR) (aMy _) rfl (by omega)
  refine aL aSl rfl rfl rfl ?_
  refine (aCt _ rA 1 rc [gS b] (hr.rd M5 (aS (i := 3) rfl)) (by intro y hy; rw [List.mem_singleton] at hy; subst hy; exact aAf hb) (by decide) (fun _ => (0, 0)) (fun _ _ => ⟨⟨by decide, by decide⟩, by decide, by decide⟩) _ _ (hL13.rd M5 (aS (i := 4) rfl))).mono ?_
  rintro _ w6 ⟨v6, rfl, ⟨r2, rfl, hr2, hM6⟩⟩
  refine ⟨_, rfl, ?_⟩
  have M6 : Mem _ _ [_, _, _, _, _, _] _ := M5.call0 hM6
  refine aA (aC (.tuple (List.toArray _)) rfl) rfl rfl ?_
  refine aA (bC (.slice _ _ _) rfl rfl) rfl rfl ?_
  refine aA (bC (.bool _) rfl rfl) rfl rfl ?_
  refine aA (aD (.slice _ _ _) rfl) rfl rfl ?_
  refine aE (aF (aG (aB ?_)))
  refine aA (aC (.slice _ _ _) rfl) rfl rfl ?_
  refine aA (bQ (0) dD rfl rfl rfl ((hr2.rd M6 (aS (i := 5) rfl)).below_len ((show (([gS b].map (fun b => kA b 0 0)).map aI)[0]? = some (aI (aCe b)) from rfl))) ((hr2.rd M6 (aS (i := 5) rfl)).someK ((show (([gS b].map (fun b => kA b 0 0)).map aI)[0]? = some (aI (aCe b)) from rfl)))) rfl rfl ?_
  refine aA (dO _ bW (hr2.rd M6 (aS (i := 5) rfl)) ((show (([gS b].map (fun b => kA b 0 0)).map aI)[0]? = some (aI (aCe b)) from rfl)) rfl) rfl rfl ?_
  refine bJ 1 _ bW M6 rfl rfl rfl rfl rfl (aV rfl) rfl (fun w7 M7 => ?_)
  refine aE (aF (aQ ?_))
  refine kH 1 bW M7 rfl rfl rfl ?_
  exact ⟨rfl, M7.below⟩
end Go.Proofs.YtlmcphcgiclanaaGreatDoor

namespace Go.Proofs.YtlmcphcgiclanaaGreatDoor
open Go.Bil
open Go.RowKit (Below)
open Go.Proofs
set_option maxHeartbeats 4000000 in
theorem aDy (w : World) (bs : Nat) (vr lr : Row) (tt mm : Int) (cl : Bool) (A : Option Addr) (n c : Nat) (q : Row) (c2 : Bool) (hO : Own [(some bs, bc [.slice A n c, .slice vr.A vr.n vr.c, .slice lr.A lr.n lr.c, .int .i64 tt, .int .i64 mm, .bool cl] 84)] w) :
    Calls Tryz.prog 72 #[.pointer (some ⟨bs, 0, none⟩), .slice q.A q.n q.c, .bool c2] w (fun ex w' => ∃ v, ex = .returned v ∧ (fun v w' => v = .tuple #[] ∧ Mem w (bV [(some bs, bc [.slice A n c, .slice vr.A vr.n vr.c, .slice lr.A lr.n lr.c, .int .i64 tt, .int .i64 mm, .bool cl] 84)]) [(some bs, bc [.slice A n c, .slice q.A q.n q.c, .slice lr.A lr.n lr.c, .int .i64 tt, .int .i64 mm, .bool (cl || c2)] 84)] w') v w') := by
  refine aJ #[] 22 Tryz.func72 rfl Tryz.results72 Tryz.ntmps72 rfl ?_
  have M0 := hO.mem
  refine aG (aB ?_)
  refine aA (aC (.pointer _) rfl) rfl rfl ?_
  refine aA (aC (.slice _ _ _) rfl) rfl rfl ?_
  refine aA (aW rfl) rfl rfl ?_
  refine aA (aH 1 sY rfl) rfl rfl ?_
  refine eD 0 (.slice _ _ _) kN M0 rfl rfl rfl rfl rfl rfl (fun w1 M1 => ?_)
  refine aE (aF (aB ?_))
  refine aA (aC (.pointer _) rfl) rfl rfl ?_
  refine aA (aC (.pointer _) rfl) rfl rfl ?_
  refine aA (aW rfl) rfl rfl ?_
  refine aA (aH 3 oB rfl) rfl rfl ?_
  refine aA (aH 2 iZ rfl) rfl rfl ?_
  refine aA (aY 0 (.bool _) kV M1 rfl rfl rfl) rfl rfl ?_
  refine aA (aC (.bool _) rfl) rfl rfl ?_
  refine iN 16 _ rfl (fun g16 => ?_) (fun g16 => ?_)
  · refine aP rfl rfl ?_
    refine aA (bM true (.bool true) rfl rfl) rfl rfl ?_
    refine aA (aW rfl) rfl rfl ?_
    refine aA (aH 3 oB rfl) rfl rfl ?_
    refine aA (aH 2 iZ rfl) rfl rfl ?_
    refine eD 0 (.bool true) kV M1 rfl rfl rfl rfl rfl rfl (fun w2 M2 => ?_)
    refine aE ?_
    refine gV ?_
    first | exact ⟨rfl, by rw [(by simp only [g16, Bool.true_or] : (cl || c2) = true)]; exact M2⟩ | exact ⟨rfl, by rw [(by simp only [g16, Bool.false_or] : (cl || c2) = c2)]; exact M2⟩
  · refine aA (aC (.bool _) rfl) rfl rfl ?_
    refine aA (bM false (.bool _) rfl rfl) rfl rfl ?_
    refine aA (aW rfl) rfl rfl ?_
    refine aA (aH 3 oB rfl) rfl rfl ?_
    refine aA (aH 2 iZ rfl) rfl rfl ?_
    refine eD 0 (.bool _) kV M1 rfl rfl rfl rfl rfl rfl (fun w3 M3 => ?_)
    refine aE ?_
    refine gV ?_
    first | exact ⟨rfl, by rw [(by simp only [g16, Bool.true_or] : (cl || c2) = true)]; exact M3⟩ | exact ⟨rfl, by rw [(by simp only [g16, Bool.false_or] : (cl || c2) = c2)]; exact M3⟩
set_option maxHeartbeats 4000000 in
theorem aPw (w : World) (F : Rd w 2 (some ⟨0, 0, none⟩) 1 [[.int .u32 73856093, .int .u32 19349663]]) (N : Rd w 4 (some ⟨3, 0, none⟩) 1 [cW iA]) (bs : Nat) (vr lr : Row) (tt mm : Int) (cl : Bool) (A : Option Addr) (n c : Nat) (xs : List Body) (R : Rd w 10 A n (xs.map aI)) (hb : ∀ b ∈ xs, Okb b) (hs : bK xs) (hn : n ≤ 4096) (hO : Own [(some bs, bc [.slice A n c, .slice vr.A vr.n vr.c, .slice lr.A lr.n lr.c, .int .i64 tt, .int .i64 mm, .bool cl] 84)] w) (hdA : 0 < n → ∀ q off, A = some ⟨q, off, none⟩ → q ∉ bV [(some bs, bc [.slice A n c, .slice vr.A vr.n vr.c, .slice lr.A lr.n lr.c, .int .i64 tt, .int .i64 mm, .bool cl] 84)]) (hdF : 0 < 1 → ∀ q off, (some ⟨0, 0, none⟩ : Option Addr) = some ⟨q, off, none⟩ → q ∉ bV [(some bs, bc [.slice A n c, .slice vr.A vr.n vr.c, .slice lr.A lr.n lr.c, .int .i64 tt, .int .i64 mm, .bool cl] 84)]) (hdN : 0 < 1 → ∀ q off, (some ⟨3, 0, none⟩ : Option Addr) = some ⟨q, off, none⟩ → q ∉ bV [(some bs, bc [.slice A n c, .slice vr.A vr.n vr.c, .slice lr.A lr.n lr.c, .int .i64 tt, .int .i64 mm, .bool cl] 84)]) :
    Calls Tryz.prog 40 #[.pointer (some ⟨bs, 0, none⟩)] w (fun ex w' => ∃ v, ex = .returned v ∧ (fun v w' => v = .tuple #[] ∧ ∃ (r : Row) (m : Nat), (iC xs).length ≤ m ∧ 2 * m ≤ xs.length * (xs.length - 1) ∧ aX 121 5 r.A r.n r.c ((fG xs).map bZ) r.e ∧ Mem w (bV [(some bs, bc [.slice A n c, .slice vr.A vr.n vr.c, .slice lr.A lr.n lr.c, .int .i64 tt, .int .i64 mm, .bool cl] 84)]) [(some bs, bc [.slice A n c, .slice vr.A vr.n vr.c, .slice r.A r.n r.c, .int .i64 (m : Int), .int .i64 (r.n : Int), .bool cl] 84), r.e] w') v w') := by
  refine aJ #[] 26 Tryz.func40 rfl Tryz.results40 Tryz.ntmps40 rfl ?_
  have M0 := hO.mem
  refine aG (aB ?_)
  refine aA (aC (.pointer _) rfl) rfl rfl ?_
  refine aA (aC (.pointer _) rfl) rfl rfl ?_
  refine aA (aC (.pointer _) rfl) rfl rfl ?_
  refine aA (aW rfl) rfl rfl ?_
  refine aA (aH 0 yJ rfl) rfl rfl ?_
  refine aA (aY 0 (.slice _ _ _) kN M0 rfl rfl rfl) rfl rfl ?_
  refine aL aWr rfl rfl rfl ?_
  refine (zO _ (F.memY M0 hdF) (N.memY M0 hdN) A n c xs (R.memY M0 hdA) hb hs hn).mono ?_
  rintro _ w1 ⟨v1, rfl, ⟨r, m, rfl, hm1, hm2, hr, hM1⟩⟩
  refine ⟨_, rfl, ?_⟩
  have M1 : Mem _ _ [_, _] _ := M0.call0 hM1
  refine aA (aC (.tuple (List.toArray _)) rfl) rfl rfl ?_
  refine aA (bC (.slice _ _ _) rfl rfl) rfl rfl ?_
  refine aA (bC (.int _ _) rfl rfl) rfl rfl ?_
  refine aA (aW rfl) rfl rfl ?_
  refine aA (aH 2 tD rfl) rfl rfl ?_
  refine eD 0 (.slice _ _ _) mU M1 rfl rfl rfl rfl rfl rfl (fun w2 M2 => ?_)
  refine aA (aW rfl) rfl rfl ?_
  refine aA (aH 3 oB rfl) rfl rfl ?_
  refine aA (aH 0 tH rfl) rfl rfl ?_
  refine eD 0 (.int _ _) jZ M2 rfl rfl rfl rfl rfl rfl (fun w3 M3 => ?_)
  refine aE (aF (aB ?_))
  refine aA (aC (.pointer _) rfl) rfl rfl ?_
  refine aA (aC (.pointer _) rfl) rfl rfl ?_
  refine aA (aW rfl) rfl rfl ?_
  refine aA (aH 2 tD rfl) rfl rfl ?_
  refine aA (aY 0 (.slice _ _ _) mU M3 rfl rfl rfl) rfl rfl ?_
  refine aA (cS Tryz.underlying82 rfl) rfl rfl ?_
  refine aA (aW rfl) rfl rfl ?_
  refine aA (aH 3 oB rfl) rfl rfl ?_
  refine aA (aH 1 nU rfl) rfl rfl ?_
  refine eD 0 (.int _ _) jZ M3 rfl rfl rfl rfl rfl rfl (fun w4 M4 => ?_)
  refine aE ?_
  refine gV ?_
  exact ⟨rfl, r, m, hm1, hm2, hr, M4⟩
set_option maxHeartbeats 4000000 in
theorem aRu (w : World) (bs : Nat) (vr lr : Row) (tt mm : Int) (cl : Bool) (A : Option Addr) (n c : Nat) (xs : List Body) (R : Rd w 10 A n (xs.map aI)) (hb : ∀ b ∈ xs, Okb b) (hn : n ≤ 1048576) (hO : Own [(some bs, bc [.slice A n c, .slice vr.A vr.n vr.c, .slice lr.A lr.n lr.c, .int .i64 tt, .int .i64 mm, .bool cl] 84)] w) (hdA : 0 < n → ∀ q off, A = some ⟨q, off, none⟩ → q ∉ bV [(some bs, bc [.slice A n c, .slice vr.A vr.n vr.c, .slice lr.A lr.n lr.c, .int .i64 tt, .int .i64 mm, .bool cl] 84)]) :
    Calls Tryz.prog 41 #[.pointer (some ⟨bs, 0, none⟩)] w (fun ex w' => ∃ v, ex = .returned v ∧ (fun v w' => v = .tuple #[] ∧ ∃ r : Row, aX 40 10 r.A r.n r.c ((lD xs).map aI) r.e ∧ Mem w (bV [(some bs, bc [.slice A n c, .slice vr.A vr.n vr.c, .slice lr.A lr.n lr.c, .int .i64 tt, .int .i64 mm, .bool cl] 84)]) [(some bs, bc [.slice A n c, .slice r.A r.n r.c, .slice lr.A lr.n lr.c, .int .i64 tt, .int .i64 mm, .bool (cl || xs.any nI)] 84), r.e] w') v w') := by
  refine aJ #[] 11 Tryz.func41 rfl Tryz.results41 Tryz.ntmps41 rfl ?_
  have M0 := hO.mem
  refine aB ?_
  refine aA (aC (.pointer _) rfl) rfl rfl ?_
  refine aA (aC (.pointer _) rfl) rfl rfl ?_
  refine aA (aW rfl) rfl rfl ?_
  refine aA (aH 0 yJ rfl) rfl rfl ?_
  refine aA (aY 0 (.slice _ _ _) kN M0 rfl rfl rfl) rfl rfl ?_
  refine aL aSs rfl rfl rfl ?_
  refine (sC _ A n c xs (R.memY M0 hdA) hb hn).mono ?_
  rintro _ w1 ⟨v1, rfl, ⟨r, rfl, hr, hM1⟩⟩
  refine ⟨_, rfl, ?_⟩
  have M1 : Mem _ _ [_, _] _ := M0.call0 hM1
  refine aA (bC (.slice _ _ _) rfl rfl) rfl rfl ?_
  refine aA (bC (.bool _) rfl rfl) rfl rfl ?_
  refine aL aNl rfl rfl rfl ?_
  refine (aDy _ bs vr lr tt mm cl A n c r _ (M1.ownSeg 0 1)).mono ?_
  rintro _ w2 ⟨v2, rfl, ⟨rfl, hM2⟩⟩
  refine ⟨_, rfl, ?_⟩
  have M2 : Mem _ _ [_, _] _ := M1.seg 0 1 hM2
  refine aE ?_
  refine gV ?_
  exact ⟨rfl, r, hr, M2⟩
set_option maxHeartbeats 4000000 in
theorem aMd (w : World) (bs : Nat) (vr lr : Row) (tt mm : Int) (cl : Bool) (A : Option Addr) (n c : Nat) (ys : List Body) (cs : List Con) (RV : Rd w 10 vr.A vr.n (ys.map aI)) (RL : Rd w 5 lr.A lr.n (cs.map bZ)) (hs : bK ys) (hb : ∀ b ∈ ys, Okb b) (hn : vr.n ≤ 1048576) (hcs : ∀ c ∈ cs, OkC ys c) (hmc : lr.n ≤ 8589934592) (hO : Own [(some bs, bc [.slice A n c, .slice vr.A vr.n vr.c, .slice lr.A lr.n lr.c, .int .i64 tt, .int .i64 mm, .bool cl] 84)] w) (hdV : 0 < vr.n → ∀ q off, vr.A = some ⟨q, off, none⟩ → q ∉ bV [(some bs, bc [.slice A n c, .slice vr.A vr.n vr.c, .slice lr.A lr.n lr.c, .int .i64 tt, .int .i64 mm, .bool cl] 84)]) (hdL : 0 < lr.n → ∀ q off, lr.A = some ⟨q, off, none⟩ → q ∉ bV [(some bs, bc [.slice A n c, .slice vr.A vr.n vr.c, .slice lr.A lr.n lr.c, .int .i64 tt, .int .i64 mm, .bool cl] 84)]) :
    Calls Tryz.prog 42 #[.pointer (some ⟨bs, 0, none⟩)] w (fun ex w' => ∃ v, ex = .returned v ∧ (fun v w' => v = .tuple #[] ∧ ∃ r : Row, aX 40 10 r.A r.n r.c (((eV ys cs 4).1).map aI) r.e ∧ Mem w (bV [(some bs, bc [.slice A n c, .slice vr.A vr.n vr.c, .slice lr.A lr.n lr.c, .int .i64 tt, .int .i64 mm, .bool cl] 84)]) [(some bs, bc [.slice A n c, .slice r.A r.n r.c, .slice lr.A lr.n lr.c, .int .i64 tt, .int .i64 mm, .bool (cl || (eV ys cs 4).2)] 84), r.e] w') v w') := by
  refine aJ #[] 15 Tryz.func42 rfl Tryz.results42 Tryz.ntmps42 rfl ?_
  have M0 := hO.mem
  refine bY [(0, 0), (1, 0), (2, 0), (3, 0), (4, 1), (5, 0), (6, 0), (7, 0), (8, 1), (9, 2), (10, 0), (11, 0), (12, 2)] mixed rfl (by kernel_rfl) (fun w1 hb1 hh1 => ?_)
  have M1 := M0.drew hb1 hh1
  refine aU rfl rfl rfl (fun _ => aC (.pointer _) rfl) ?_
  refine aU rfl rfl rfl (fun _ => aC (.pointer _) rfl) ?_
  refine aU rfl rfl rfl (fun _ => aW rfl) ?_
  refine aU rfl rfl rfl (fun _ => aH 1 sY rfl) ?_
  refine cB rfl rfl rfl (aY 0 (.slice _ _ _) kN M1 rfl rfl rfl) ?_
  refine aU rfl rfl rfl (fun _ => aC (.pointer _) rfl) ?_
  refine aU rfl rfl rfl (fun _ => aW rfl) ?_
  refine aU rfl rfl rfl (fun _ => aH 2 tD rfl) ?_
  refine cB rfl rfl rfl (aY 0 (.slice _ _ _) mU M1 rfl rfl rfl) ?_
  refine eB [true, true] rfl (by kernel_rfl) ?_
  refine aL aWw rfl rfl rfl ?_
  refine (aJq _ vr.A vr.n vr.c ys (RV.memY M1 hdV) hs hb hn lr.A lr.n lr.c cs (RL.memY M1 hdL) hcs hmc).mono ?_
  rintro _ w2 ⟨v2, rfl, ⟨r, rfl, hr, hM2⟩⟩
  refine ⟨_, rfl, ?_⟩
  have M2 : Mem _ _ [_, _] _ := M1.call0 hM2
  refine aE (aF ⟨eC, ?_⟩)
  refine aU rfl rfl rfl (fun _ => bC (.slice _ _ _) rfl rfl) ?_
  refine aU rfl rfl rfl (fun _ => bC (.bool _) rfl rfl) ?_
  refine eB [] rfl (by kernel_rfl) ?_
  refine aL aNl rfl rfl rfl ?_
  refine (aDy _ bs vr lr tt mm cl A n c r _ (M2.ownSeg 0 1)).mono ?_
  rintro _ w3 ⟨v3, rfl, ⟨rfl, hM3⟩⟩
  refine ⟨_, rfl, ?_⟩
  have M3 : Mem _ _ [_, _] _ := M2.seg 0 1 hM3
  refine aE (aF ⟨eC, ?_⟩)
  refine cF ?_
  refine gV ?_
  exact ⟨rfl, r, hr, M3⟩
set_option maxHeartbeats 4000000 in
theorem aQe (w : World) (bs : Nat) (vr lr : Row) (tt mm : Int) (cl : Bool) (A : Option Addr) (n c : Nat) (xs : List Body) (R : Rd w 10 A n (xs.map aI)) (ys : List Body) (cs : List Con) (RV : Rd w 10 vr.A vr.n (ys.map aI)) (RL : Rd w 5 lr.A lr.n (cs.map bZ)) (hs : bK xs) (hb : ∀ b ∈ xs, Okb b) (hb2 : ∀ b ∈ ys, Okb b) (hn : n ≤ 1048576) (hvn : vr.n = n) (hcs : ∀ c ∈ cs, OkC xs c) (hmc : lr.n ≤ 1073741824) (hsh : xs.map (gC xs cs) = ys.map (gC xs cs)) (hG : ∀ b ∈ ys, (-1152921504606846976 ≤ (gC xs cs b).1 ∧ (gC xs cs b).1 ≤ 1152921504606846976) ∧ -1152921504606846976 ≤ (gC xs cs b).2 ∧ (gC xs cs b).2 ≤ 1152921504606846976) (hO : Own [(some bs, bc [.slice A n c, .slice vr.A vr.n vr.c, .slice lr.A lr.n lr.c, .int .i64 tt, .int .i64 mm, .bool cl] 84)] w) (hdA : 0 < n → ∀ q off, A = some ⟨q, off, none⟩ → q ∉ bV [(some bs, bc [.slice A n c, .slice vr.A vr.n vr.c, .slice lr.A lr.n lr.c, .int .i64 tt, .int .i64 mm, .bool cl] 84)]) (hdV : 0 < vr.n → ∀ q off, vr.A = some ⟨q, off, none⟩ → q ∉ bV [(some bs, bc [.slice A n c, .slice vr.A vr.n vr.c, .slice lr.A lr.n lr.c, .int .i64 tt, .int .i64 mm, .bool cl] 84)]) (hdL : 0 < lr.n → ∀ q off, lr.A = some ⟨q, off, none⟩ → q ∉ bV [(some bs, bc [.slice A n c, .slice vr.A vr.n vr.c, .slice lr.A lr.n lr.c, .int .i64 tt, .int .i64 mm, .bool cl] 84)]) :
    Calls Tryz.prog 43 #[.pointer (some ⟨bs, 0, none⟩)] w (fun ex w' => ∃ v, ex = .returned v ∧ (fun v w' => v = .tuple #[] ∧ ∃ r : Row, aX 40 10 r.A r.n r.c ((xK xs cs ys).map aI) r.e ∧ Mem w (bV [(some bs, bc [.slice A n c, .slice vr.A vr.n vr.c, .slice lr.A lr.n lr.c, .int .i64 tt, .int .i64 mm, .bool cl] 84)]) [(some bs, bc [.slice A n c, .slice r.A r.n r.c, .slice lr.A lr.n lr.c, .int .i64 tt, .int .i64 mm, .bool (cl || aGy xs cs ys)] 84), r.e] w') v w') := by
  have hlen : xs.length = n := by simpa using R.len
  refine aJ #[] 20 Tryz.func43 rfl Tryz.results43 Tryz.ntmps43 rfl ?_
  have M0 := hO.mem
  refine bY [(0, 0), (1, 0), (2, 0), (3, 0), (4, 1), (5, 0), (6, 0), (7, 0), (8, 1), (9, 0), (10, 0), (11, 0), (12, 1), (13, 2), (14, 2), (15, 0), (16, 0), (17, 2)] mixed rfl (by kernel_rfl) (fun w1 hb1 hh1 => ?_)
  have M1 := M0.drew hb1 hh1
  refine aU rfl rfl rfl (fun _ => aC (.pointer _) rfl) ?_
  refine aU rfl rfl rfl (fun _ => aC (.pointer _) rfl) ?_
  refine aU rfl rfl rfl (fun _ => aW rfl) ?_
  refine aU rfl rfl rfl (fun _ => aH 1 sY rfl) ?_
  refine cB rfl rfl rfl (aY 0 (.slice _ _ _) kN M1 rfl rfl rfl) ?_
  refine aU rfl rfl rfl (fun _ => aC (.pointer _) rfl) ?_
  refine aU rfl rfl rfl (fun _ => aW rfl) ?_
  refine aU rfl rfl rfl (fun _ => aH 0 yJ rfl) ?_
  refine cB rfl rfl rfl (aY 0 (.slice _ _ _) kN M1 rfl rfl rfl) ?_
  refine aU rfl rfl rfl (fun _ => aC (.pointer _) rfl) ?_
  refine aU rfl rfl rfl (fun _ => aW rfl) ?_
  refine aU rfl rfl rfl (fun _ => aH 2 tD rfl) ?_
  refine cB rfl rfl rfl (aY 0 (.slice _ _ _) mU M1 rfl rfl rfl) ?_
  refine eB [true, true, false] rfl (by kernel_rfl) ?_
  refine aL aXx rfl rfl rfl ?_
  refine (aDj _ A n c xs (R.memY M1 hdA) hs hb hn lr.A lr.n lr.c cs (RL.memY M1 hdL) hcs hmc).mono ?_
  rintro _ w2 ⟨v2, rfl, ⟨⟨qA, qn, qc, qe⟩, rfl, hq, hM2⟩⟩
  refine ⟨_, rfl, ?_⟩
  have hqn : xs.length = qn := by simpa using hq.1
  obtain rfl : qn = vr.n := by omega
  rw [hsh] at hq
  have M2 : Mem _ _ [_, _] _ := M1.call0 hM2
  refine aE (aF ⟨(lP (dJ rfl (aY 0 (.slice _ _ _) kN M2 rfl rfl rfl)) eC), ?_⟩)
  refine eB [true] rfl (by kernel_rfl) ?_
  refine aL aSl rfl rfl rfl ?_
  refine (aCt _ vr.A vr.n vr.c ys (RV.memY M2 hdV) hb2 (by omega) (gC xs cs) hG qA qc (hq.rd M2 (aS (i := 1) rfl))).mono ?_
  rintro _ w3 ⟨v3, rfl, ⟨r, rfl, hr, hM3⟩⟩
  refine ⟨_, rfl, ?_⟩
  have M3 : Mem _ _ [_, _, _] _ := M2.call0 hM3
  refine aE (aF ⟨eC, ?_⟩)
  refine aU rfl rfl rfl (fun _ => bC (.slice _ _ _) rfl rfl) ?_
  refine aU rfl rfl rfl (fun _ => bC (.bool _) rfl rfl) ?_
  refine eB [] rfl (by kernel_rfl) ?_
  refine aL aNl rfl rfl rfl ?_
  refine (aDy _ bs vr lr tt mm cl A n c r _ (M3.ownSeg 0 1)).mono ?_
  rintro _ w4 ⟨v4, rfl, ⟨rfl, hM4⟩⟩
  refine ⟨_, rfl, ?_⟩
  have M4 : Mem _ _ [_, _, _] _ := M3.seg 0 1 hM4
  refine aE (aF ⟨eC, ?_⟩)
  refine cF ?_
  refine gV ?_
  exact ⟨rfl, r, hr, M4.keep [true, false, true]⟩
end Go.Proofs.YtlmcphcgiclanaaGreatDoor

namespace Go.Proofs.YtlmcphcgiclanaaGreatDoor
open Go.Bil
open Go.RowKit (Below)
open Go.Proofs
theorem aIz {xs : List Body} {cs : List Con} {b b' : Body} (h : SameB b b') : gC xs cs b = gC xs cs b' := by
  unfold gC gK sP
  rw [h.key, h.mass]
theorem aAm {xs ys zs : List Body} {cs : List Con} (h : Like ys zs) : ys.map (gC xs cs) = zs.map (gC xs cs) := by
  apply List.ext_getElem?
  intro i
  rw [List.getElem?_map, List.getElem?_map]
  by_cases hi : i < ys.length
  · have h1 : ys[i]? = some ys[i] := List.getElem?_eq_getElem hi
    have h2 : zs[i]? = some (zs[i]'(by rw [h.len]; exact hi)) := List.getElem?_eq_getElem _
    rw [h1, h2]
    exact congrArg some (aIz (h.at_ i _ _ h1 h2)).symm
  · have hl := h.len
    rw [List.getElem?_eq_none (show ys.length ≤ i by omega), List.getElem?_eq_none (show zs.length ≤ i by omega)]
theorem aQt {xs : List Body} {cs : List Con} (hs : bK xs) (hb : ∀ b ∈ xs, Okb b) (hcs : ∀ c ∈ cs, OkC xs c) (hl : cs.length ≤ 1073741824) {zs : List Body} (h : Like xs zs) : ∀ b ∈ zs, (-1152921504606846976 ≤ (gC xs cs b).1 ∧ (gC xs cs b).1 ≤ 1152921504606846976) ∧ -1152921504606846976 ≤ (gC xs cs b).2 ∧ (gC xs cs b).2 ≤ 1152921504606846976 := fun b hbm => by
  have hm : gC xs cs b ∈ zs.map (gC xs cs) := List.mem_map_of_mem hbm
  rw [← aAm h] at hm
  obtain ⟨x, hx, e⟩ := List.mem_map.1 hm
  rw [← e]
  have := zY hs hb hcs rfl hl cs.length hx
  rwa [List.take_of_length_le (Nat.le_refl _)] at this
set_option maxHeartbeats 16000000 in
theorem lN (w : World) (F : Rd w 2 (some ⟨0, 0, none⟩) 1 [[.int .u32 73856093, .int .u32 19349663]]) (N : Rd w 4 (some ⟨3, 0, none⟩) 1 [cW iA]) (A : Option Addr) (n c : Nat) (xs : List Body) (R : Rd w 10 A n (xs.map aI)) (hb : ∀ b ∈ xs, Okb b) (hs : bK xs) (hn : n ≤ 4096) :
    Calls Tryz.prog 16 #[.slice A n c] w (fun ex w' => ∃ v, ex = .returned v ∧ (fun v w' => ∃ (r : Row) (t : Nat), v = .tuple #[.slice r.A r.n r.c, .agg [.int .i64 (t : Int), .int .i64 ((fG xs).length : Int), .bool (mS xs)].toArray] ∧ (fG xs).length ≤ t ∧ 2 * t ≤ xs.length * (xs.length - 1) ∧ aX 40 10 r.A r.n r.c ((iR xs).map aI) r.e ∧ Mem w [] [r.e] w') v w') := by
  have hlen : xs.length = n := by simpa using R.len
  have hnn : xs.length * xs.length ≤ 4096 * 4096 := Nat.mul_le_mul (by omega) (by omega)
  have hcl := aCq xs
  have hsq := aQs (xs := xs)
  refine aJ #[.tmp 2, .cell 3 27] 26 Tryz.func16 rfl Tryz.results16 Tryz.ntmps16 rfl ?_
  have M0 := Mem.refl w
  refine aG (aB ?_)
  refine aA (aD (.slice _ _ _) rfl) rfl rfl ?_
  refine aT mC M0 rfl rfl (fun b1 w1 M1 => ?_)
  refine aE (aF (aG (aB ?_)))
  refine aA (aC (.slice _ _ _) rfl) rfl rfl ?_
  refine aA (cE [(0, .slice _ _ _)] _ aNh rfl rfl) rfl rfl ?_
  refine bL (.agg (List.toArray _)) M1 rfl rfl rfl (fun b2 w2 M2 => ?_)
  refine aA (aD (.pointer _) rfl) rfl rfl ?_
  refine aE (aF (aG (aG (aB ?_))))
  refine aA (uZ [.func _ _ _, .func _ _ _, .func _ _ _, .func _ _ _] aBf aWj rfl rfl (cU rfl)) rfl rfl ?_
  refine aA (aC (.int _ _) rfl) rfl rfl ?_
  refine aE (aF (bB ?_))
  refine mZ 5 (nK ?_)
  refine aG (aB ?_)
  refine aA (aO (.bool (decide _)) rfl rfl rfl) rfl rfl ?_
  refine aN 12 (.bool true) (bT (by first | decide | omega)).symm ?_
  refine aE (aF (aG ?_))
  refine dE rfl ?_
  refine aM (aF (aG (bB (aG (aB ?_)))))
  refine aA (uU 0 (.func _ _ _) aBf aGx rfl rfl (by decide) (by decide) rfl rfl) rfl rfl ?_
  refine aA (aD (.func _ _ _) rfl) rfl rfl ?_
  refine aE (aF (aB ?_))
  refine aA (aC (.func _ _ _) rfl) rfl rfl ?_
  refine aA (aC (.pointer _) rfl) rfl rfl ?_
  refine aL aWz rfl rfl rfl ?_
  refine (aPw _ (F.mem M2) (N.mem M2) b2 fY fY 0 0 false A n c xs (R.mem M2) hb hs hn (M2.ownSeg 1 1) (M2.away 1 1 R (by simp)) (M2.away 1 1 F (by simp)) (M2.away 1 1 N (by simp))).mono ?_
  rintro _ w3 ⟨v3, rfl, ⟨rfl, r, tm, ht1, ht2, hr, hM3⟩⟩
  refine ⟨_, rfl, ?_⟩
  have M3 : Mem _ _ [_, _, _] _ := M2.seg 1 1 hM3
  have hrn : (fG xs).length = r.n := by simpa using hr.1
  refine aE ?_
  refine dN ?_
  refine aF (aB ?_)
  refine aA (bX rfl rfl (by first | decide | omega) (by first | decide | omega)) rfl rfl ?_
  refine aN 17 (.int .i64 1) (iE (by first | decide | omega)) ?_
  refine aA (aC (.int _ _) rfl) rfl rfl ?_
  refine aE ?_
  refine aF (nK ?_)
  refine aG (aB ?_)
  refine aA (aO (.bool (decide _)) rfl rfl rfl) rfl rfl ?_
  refine aN 12 (.bool true) (bT (by first | decide | omega)).symm ?_
  refine aE (aF (aG ?_))
  refine dE rfl ?_
  refine aM (aF (aG (bB (aG (aB ?_)))))
  refine aA (uU 1 (.func _ _ _) aBf aGx rfl rfl (by decide) (by decide) rfl rfl) rfl rfl ?_
  refine aA (aD (.func _ _ _) rfl) rfl rfl ?_
  refine aE (aF (aB ?_))
  refine aA (aC (.func _ _ _) rfl) rfl rfl ?_
  refine aA (aC (.pointer _) rfl) rfl rfl ?_
  refine aL aXc rfl rfl rfl ?_
  refine (aRu _ b2 fY r (tm : Int) (r.n : Int) false A n c xs (R.mem M3) hb (by omega) (M3.ownSeg 1 1) (M3.away 1 1 R (by simp))).mono ?_
  rintro _ w4 ⟨v4, rfl, ⟨rfl, g, hg, hM4⟩⟩
  refine ⟨_, rfl, ?_⟩
  have M4 : Mem _ _ [_, _, _, _] _ := M3.seg 1 1 hM4
  have hgn : (lD xs).length = g.n := by simpa using hg.1
  have hgl := (lF xs).len
  refine aE ?_
  refine dN ?_
  refine aF (aB ?_)
  refine aA (bX rfl rfl (by first | decide | omega) (by first | decide | omega)) rfl rfl ?_
  refine aN 17 (.int .i64 2) (iE (by first | decide | omega)) ?_
  refine aA (aC (.int _ _) rfl) rfl rfl ?_
  refine aE ?_
  refine aF (nK ?_)
  refine aG (aB ?_)
  refine aA (aO (.bool (decide _)) rfl rfl rfl) rfl rfl ?_
  refine aN 12 (.bool true) (bT (by first | decide | omega)).symm ?_
  refine aE (aF (aG ?_))
  refine dE rfl ?_
  refine aM (aF (aG (bB (aG (aB ?_)))))
  refine aA (uU 2 (.func _ _ _) aBf aGx rfl rfl (by decide) (by decide) rfl rfl) rfl rfl ?_
  refine aA (aD (.func _ _ _) rfl) rfl rfl ?_
  refine aE (aF (aB ?_))
  refine aA (aC (.func _ _ _) rfl) rfl rfl ?_
  refine aA (aC (.pointer _) rfl) rfl rfl ?_
  refine aL aXz rfl rfl rfl ?_
  refine (aMd _ b2 g r (tm : Int) (r.n : Int) _ A n c (lD xs) (fG xs) (hg.rd M4 (aS (i := 3) rfl)) (hr.rd M4 (aS (i := 2) rfl)) ((lF xs).sorted hs) (yM hb) (by omega) (fun c h => (lF xs).okc (uO hs hb c h)) (by omega) (M4.ownSeg 1 1) (hg.awayB M4 3 1 rfl rfl rfl) (hr.awayB M4 2 1 rfl rfl rfl)).mono ?_
  rintro _ w5 ⟨v5, rfl, ⟨rfl, s, hsv, hM5⟩⟩
  refine ⟨_, rfl, ?_⟩
  have M5 : Mem _ _ [_, _, _, _, _] _ := M4.seg 1 1 hM5
  have hsn : (gH xs).length = s.n := by have h := hsv.1; rwa [List.length_map] at h
  have hlk : Like xs (gH xs) := (lF xs).trans (iJ _ _ 4)
  have hsl := hlk.len
  refine aE ?_
  refine dN ?_
  refine aF (aB ?_)
  refine aA (bX rfl rfl (by first | decide | omega) (by first | decide | omega)) rfl rfl ?_
  refine aN 17 (.int .i64 3) (iE (by first | decide | omega)) ?_
  refine aA (aC (.int _ _) rfl) rfl rfl ?_
  refine aE ?_
  refine aF (nK ?_)
  refine aG (aB ?_)
  refine aA (aO (.bool (decide _)) rfl rfl rfl) rfl rfl ?_
  refine aN 12 (.bool true) (bT (by first | decide | omega)).symm ?_
  refine aE (aF (aG ?_))
  refine dE rfl ?_
  refine aM (aF (aG (bB (aG (aB ?_)))))
  refine aA (uU 3 (.func _ _ _) aBf aGx rfl rfl (by decide) (by decide) rfl rfl) rfl rfl ?_
  refine aA (aD (.func _ _ _) rfl) rfl rfl ?_
  refine aE (aF (aB ?_))
  refine aA (aC (.func _ _ _) rfl) rfl rfl ?_
  refine aA (aC (.pointer _) rfl) rfl rfl ?_
  refine aL aXv rfl rfl rfl ?_
  refine (aQe _ b2 s r (tm : Int) (r.n : Int) _ A n c xs (R.mem M5) (gH xs) (fG xs) (hsv.rd M5 (aS (i := 4) rfl)) (hr.rd M5 (aS (i := 2) rfl)) hs hb (pM (yM hb) 4) (by omega) (by omega) (uO hs hb) (by omega) (aAm hlk) (aQt hs hb (uO hs hb) (by omega) hlk) (M5.ownSeg 1 1) (M5.away 1 1 R (by simp)) (hsv.awayB M5 4 1 rfl rfl rfl) (hr.awayB M5 2 1 rfl rfl rfl)).mono ?_
  rintro _ w6 ⟨v6, rfl, ⟨rfl, m, hm, hM6⟩⟩
  refine ⟨_, rfl, ?_⟩
  have M6 : Mem _ _ [_, _, _, _, _, _] _ := M5.seg 1 1 hM6
  refine aE ?_
  refine dN ?_
  refine aF (aB ?_)
  refine aA (bX rfl rfl (by first | decide | omega) (by first | decide | omega)) rfl rfl ?_
  refine aN 17 (.int .i64 4) (iE (by first | decide | omega)) ?_
  refine aA (aC (.int _ _) rfl) rfl rfl ?_
  refine aE ?_
  refine aF (nK ?_)
  refine aG (aB ?_)
  refine aA (aO (.bool (decide _)) rfl rfl rfl) rfl rfl ?_
  refine aN 12 (.bool false) (bF (by first | decide | omega)).symm ?_
  refine aE (aF (aG ?_))
  refine cO rfl ?_
  refine cM ?_
  refine dG (dG ?_)
  refine eP ?_
  refine aF (aG ?_)
  refine bY [(0, 0), (1, 0), (2, 0), (3, 1), (4, 0), (5, 0), (6, 0), (7, 1), (8, 0), (9, 2)] mixed rfl (by kernel_rfl) (fun w7 hb7 hh7 => ?_)
  have M7 := M6.drew hb7 hh7
  refine aU rfl rfl rfl (fun _ => aC (.pointer _) rfl) ?_
  refine aU rfl rfl rfl (fun _ => aW rfl) ?_
  refine aU rfl rfl rfl (fun _ => aH 1 sY rfl) ?_
  refine cB rfl rfl rfl (aY 1 (.slice _ _ _) kN M7 rfl rfl rfl) ?_
  refine aU rfl rfl rfl (fun _ => aC (.pointer _) rfl) ?_
  refine aU rfl rfl rfl (fun _ => aW rfl) ?_
  refine aU rfl rfl rfl (fun _ => aH 3 oB rfl) ?_
  refine cB rfl rfl rfl (uP 1 _ kI M7 rfl rfl rfl rfl) ?_
  refine aU rfl rfl rfl (fun _ => aD (.slice _ _ _) rfl) ?_
  refine eB [true, true] rfl (by kernel_rfl) ?_
  refine bJ 0 _ kI M7 rfl rfl rfl rfl rfl (aV rfl) rfl (fun w8 M8 => ?_)
  refine aE (aF ⟨eC, ?_⟩)
  refine cF ?_
  refine aF (aQ ?_)
  refine aRx (.slice _ _ _) 0 kI M8 rfl rfl rfl rfl ?_
  exact ⟨m, tm, sQ rfl (by rw [hrn]; show Value.agg _ = _; rw [show mS xs = (((false || xs.any nI) || (eV (lD xs) (fG xs) 4).2) || aGy xs (fG xs) (gH xs)) by unfold mS; rw [Bool.false_or]]; rfl), by omega, ht2, hm, M8.keep [false, false, false, false, false, true]⟩
end Go.Proofs.YtlmcphcgiclanaaGreatDoor

namespace Go.Proofs.YtlmcphcgiclanaaGreatDoor
open Go.Bil
open Go.RowKit (Below)
open Go.Proofs
set_option maxHeartbeats 16000000 in
theorem aFb (w : World) (F : Rd w 2 (some ⟨0, 0, none⟩) 1 [[.int .u32 73856093, .int .u32 19349663]]) (N_ : Rd w 4 (some ⟨3, 0, none⟩) 1 [cW iA]) (A : Option Addr) (n c : Nat) (xs : List Body) (R : Rd w 10 A n (xs.map aI)) (hb : ∀ b ∈ xs, Okb b) (hs : bK xs) (hn : n ≤ 4096) (z : Int) (N : Nat) (hz : max z 0 = (N : Int)) (hN : N ≤ 1048576) :
    Calls Tryz.prog 19 #[.slice A n c, .int .i64 z] w (fun ex w' => ∃ v, ex = .returned v ∧ (fun v w' => ∃ (r : Row) (t : Nat), v = .tuple #[.slice r.A r.n r.c, .agg [.int .i64 (t : Int), .int .i64 (oV xs N : Int), .bool (uA xs N)].toArray] ∧ oV xs N ≤ t ∧ t ≤ N * 16777216 ∧ aX 40 10 r.A r.n r.c ((gZ xs N).map aI) r.e ∧ Mem w [] [r.e] w') v w') := by
  have hlen : xs.length = n := by simpa using R.len
  have hnn : xs.length * (xs.length - 1) ≤ 4096 * 4096 := Nat.mul_le_mul (by omega) (by omega)
  refine aJ #[.tmp 4, .cell 5 27] 43 Tryz.func19 rfl Tryz.results19 Tryz.ntmps19 rfl ?_
  have M0 := Mem.refl w
  refine aG (aB ?_)
  refine aA (aD (.slice _ _ _) rfl) rfl rfl ?_
  refine aT mC M0 rfl rfl (fun b1 w1 M1 => ?_)
  refine aE (aF (aG (aB ?_)))
  refine aT mC M1 rfl rfl (fun b2 w2 M2 => ?_)
  refine aE (aF (aG (aB ?_)))
  refine aA (aC (.slice _ _ _) rfl) rfl rfl ?_
  refine aL aWy rfl rfl rfl ?_
  refine (wH _ _ _ _ _ (R.mem M2) (aDo xs) (by omega)).mono ?_
  rintro _ w3 ⟨v3, rfl, ⟨qA, qn, qc, qe, rfl, hq0, hM3, _⟩⟩
  refine ⟨_, rfl, ?_⟩
  have M3 : Mem _ _ [_, _, _] _ := M2.call0 hM3
  refine aA (aD (.slice _ _ _) rfl) rfl rfl ?_
  refine aE (aF (aG (aG (aB ?_))))
  refine aA (aC (.int _ _) rfl) rfl rfl ?_
  refine aA (kQ rfl rfl ) rfl rfl ?_
  refine aN 12 (.int .i64 (N : Int)) (iE (by omega)) ?_
  refine aA (aC (.int _ _) rfl) rfl rfl ?_
  refine aE (aF (bB ?_))
  refine dM (σ := Nat × Row × Nat) [4, 5, 6, 12] (fun (k, q, t) => [(0, .slice q.A q.n q.c), (13, .int .i64 (k : Int))]) (fun (k, q, t) w' => (k ≤ N ∧ oV xs k ≤ t ∧ t ≤ k * 16777216 ∧ aX 40 10 q.A q.n q.c ((gZ xs k).map aI) q.e) ∧ Mem w [] [(some b1, bc [.int .i64 0, .int .i64 0, .bool false] 27), (some b2, bc [.int .i64 (t : Int), .int .i64 (oV xs k : Int), .bool (uA xs k)] 27), q.e] w') (fun (k, q, t) => N - k) (0, ⟨qA, qn, qc, qe⟩, 0) (bS rfl (bS rfl fC)) (⟨⟨by omega, (show 0 ≤ 0 by omega), by omega, hq0⟩, M3⟩) ?_
  rintro ⟨k, q, t⟩ ρ4 w4 ⟨⟨hk, htn, htk, hq⟩, hM4⟩
  have hkl := (oW xs k).len
  have hqn : (gZ xs k).length = q.n := by simpa using hq.1
  refine aG (aB ?_)
  refine aA (aO (.bool (decide _)) rfl rfl rfl) rfl rfl ?_
  refine aE (aF (aG ?_))
  refine aZ rfl (fun h14 => ?_) (fun h14 => ?_)
  · refine aM (aF (aG (bB (aG (aB ?_)))))
    refine aA (aC (.slice _ _ _) rfl) rfl rfl ?_
    refine aL aCv rfl rfl rfl ?_
    refine (lN _ (F.mem hM4) (N_.mem hM4) q.A q.n q.c (gZ xs k) (hq.rd hM4 (aS (i := 2) rfl)) (aAn hb k) (zE hs k) (by omega)).mono ?_
    rintro _ w5 ⟨v5, rfl, ⟨r, t2, rfl, h1, h2, hr, hM5⟩⟩
    refine ⟨_, rfl, ?_⟩
    have M5 : Mem _ _ [_, _, _, _] _ := hM4.call0 hM5
    rw [show (gZ xs k).length = xs.length from hkl] at h2
    have hsuc : oV xs (k + 1) = oV xs k + (fG (gZ xs k)).length := rfl
    refine aA (aC (.tuple (List.toArray _)) rfl) rfl rfl ?_
    refine aA (bC (.slice _ _ _) rfl rfl) rfl rfl ?_
    refine aA (bC (.agg (List.toArray _)) rfl rfl) rfl rfl ?_
    refine aT mC M5 rfl rfl (fun b6 w6 M6 => ?_)
    refine aA (aD (.slice _ _ _) rfl) rfl rfl ?_
    refine bJ 4 _ kI M6 rfl rfl rfl rfl rfl (aV rfl) rfl (fun w7 M7 => ?_)
    refine aE (aF (aG (aB ?_)))
    refine aA (aH 0 tH rfl) rfl rfl ?_
    refine aA (aY 1 (.int _ _) jZ M7 rfl rfl rfl) rfl rfl ?_
    refine aA (aH 0 tH rfl) rfl rfl ?_
    refine aA (aY 4 (.int _ _) jZ M7 rfl rfl rfl) rfl rfl ?_
    refine aA (bX rfl rfl (by omega) (by omega)) rfl rfl ?_
    refine aA (aH 0 tH rfl) rfl rfl ?_
    refine eD 1 (.int _ _) jZ M7 rfl rfl rfl rfl rfl rfl (fun w8 M8 => ?_)
    refine aE (aF (aG (aB ?_)))
    refine aA (aH 1 nU rfl) rfl rfl ?_
    refine aA (aY 1 (.int _ _) jZ M8 rfl rfl rfl) rfl rfl ?_
    refine aA (aH 1 nU rfl) rfl rfl ?_
    refine aA (aY 4 (.int _ _) jZ M8 rfl rfl rfl) rfl rfl ?_
    refine aA (bX rfl rfl (by omega) (by omega)) rfl rfl ?_
    refine aA (aH 1 nU rfl) rfl rfl ?_
    refine eD 1 (.int _ _) jZ M8 rfl rfl rfl rfl rfl rfl (fun w9 M9 => ?_)
    refine aE (aF (aG (aB ?_)))
    refine aA (aH 2 iZ rfl) rfl rfl ?_
    refine aA (aY 1 (.bool _) kV M9 rfl rfl rfl) rfl rfl ?_
    refine aA (aC (.bool _) rfl) rfl rfl ?_
    refine iN 34 _ rfl (fun g34 => ?_) (fun g34 => ?_)
    · refine aP rfl rfl ?_
      refine aP rfl rfl ?_
      refine aA (bM true (.bool true) rfl rfl) rfl rfl ?_
      refine aA (aH 2 iZ rfl) rfl rfl ?_
      refine eD 1 (.bool true) kV M9 rfl rfl rfl rfl rfl rfl (fun w10 M10 => ?_)
      refine aE (aF (aB ?_))
      refine aA (aC (.slice _ _ _) rfl) rfl rfl ?_
      refine aA (aD (.slice _ _ _) rfl) rfl rfl ?_
      refine aE ?_
      refine dN ?_
      refine aF (aB ?_)
      refine aA (bX rfl rfl (by omega) (by omega)) rfl rfl ?_
      refine aA (aC (.int _ _) rfl) rfl rfl ?_
      refine aE ?_
      refine cH (k + 1, r, t + t2) (bS rfl (bS rfl fC)) (cN rfl (cN rfl (cN rfl (cN rfl iS)))) ?_ ?_
      · exact ⟨⟨by omega, by rw [hsuc]; omega, by omega, hr⟩, by rw [hsuc, Int.natCast_add, Int.natCast_add, show uA xs (k + 1) = _ from by show (_ || _) = true; rw [g34, Bool.true_or]]; exact M10.keep [true, true, false, true, false]⟩
      · (show N - (k + 1) < N - k; omega)
    · refine aA (aH 2 iZ rfl) rfl rfl ?_
      refine aA (aY 4 (.bool _) kV M9 rfl rfl rfl) rfl rfl ?_
      refine aA (bM false (.bool _) rfl rfl) rfl rfl ?_
      refine aA (aH 2 iZ rfl) rfl rfl ?_
      refine eD 1 (.bool _) kV M9 rfl rfl rfl rfl rfl rfl (fun w11 M11 => ?_)
      refine aE (aF (aB ?_))
      refine aA (aC (.slice _ _ _) rfl) rfl rfl ?_
      refine aA (aD (.slice _ _ _) rfl) rfl rfl ?_
      refine aE ?_
      refine dN ?_
      refine aF (aB ?_)
      refine aA (bX rfl rfl (by omega) (by omega)) rfl rfl ?_
      refine aA (aC (.int _ _) rfl) rfl rfl ?_
      refine aE ?_
      refine cH (k + 1, r, t + t2) (bS rfl (bS rfl fC)) (cN rfl (cN rfl (cN rfl (cN rfl iS)))) ?_ ?_
      · exact ⟨⟨by omega, by rw [hsuc]; omega, by omega, hr⟩, by rw [hsuc, Int.natCast_add, Int.natCast_add, show uA xs (k + 1) = _ from by show (_ || _) = mS (gZ xs k); rw [g34, Bool.false_or]]; exact M11.keep [true, true, false, true, false]⟩
      · (show N - (k + 1) < N - k; omega)
  · have hkn : k = N := by omega
    rw [hkn] at hq htn hM4
    refine cM ?_
    refine dG ?_
    refine cZ ?_
    refine eP ?_
    refine aF (aG ?_)
    refine bY [(0, 0), (1, 1), (2, 0), (3, 2)] mixed rfl (by kernel_rfl) (fun w12 hb12 hh12 => ?_)
    have M12 := hM4.drew hb12 hh12
    refine aU rfl rfl rfl (fun _ => aC (.slice _ _ _) rfl) ?_
    refine cB rfl rfl rfl (bA 1 kI M12 rfl rfl rfl) ?_
    refine aU rfl rfl rfl (fun _ => aD (.slice _ _ _) rfl) ?_
    refine eB [true] rfl (by kernel_rfl) ?_
    refine bJ 0 _ kI M12 rfl rfl rfl rfl rfl (aV rfl) rfl (fun w13 M13 => ?_)
    refine aE (aF ⟨eC, ?_⟩)
    refine cF ?_
    refine aF (aQ ?_)
    refine aRx (.slice _ _ _) 0 kI M13 rfl rfl rfl rfl ?_
    exact ⟨q, t, by rw [← hkn], htn, by rw [← hkn]; exact htk, hq, M13.keep [false, false, true]⟩
end Go.Proofs.YtlmcphcgiclanaaGreatDoor

namespace Go.Proofs.YtlmcphcgiclanaaGreatDoor
open Go.Bil
open Go.RowKit (Below)
open Go.Proofs
end Go.Proofs.YtlmcphcgiclanaaGreatDoor

namespace Go.Proofs.YtlmcphcgiclanaaGreatDoor
open Go.Bil
open Go.RowKit (Below)
open Go.Proofs
end Go.Proofs.YtlmcphcgiclanaaGreatDoor

namespace Go.Proofs.YtlmcphcgiclanaaGreatDoor
open Go.Bil
open Go.RowKit (Below)
open Go.Proofs
end Go.Proofs.YtlmcphcgiclanaaGreatDoor

namespace Go.Proofs.YtlmcphcgiclanaaGreatDoor
open Go.Bil
open Go.RowKit (Below)
open Go.Proofs
end Go.Proofs.YtlmcphcgiclanaaGreatDoor

namespace Go.Proofs.YtlmcphcgiclanaaGreatDoor
open Go.Bil
open Go.RowKit (Below)
open Go.Proofs
end Go.Proofs.YtlmcphcgiclanaaGreatDoor

namespace Go.Proofs.YtlmcphcgiclanaaGreatDoor
open Go.Bil
open Go.RowKit (Below)
open Go.Proofs
def yF (dx dy : Int) (b : Body) : Prop := (-1073741824 ≤ b.px + dx ∧ b.px + dx ≤ 1073741824) ∧ -1073741824 ≤ b.py + dy ∧ b.py + dy ≤ 1073741824
set_option maxHeartbeats 8000000 in
theorem rV (w : World) (A : Option Addr) (n c : Nat) (xs : List Body) (R : Rd w 10 A n (xs.map aI)) (hb : ∀ b ∈ xs, Okb b) (hn : n ≤ 1048576) (dx dy : Int) (hdx : -2147483648 ≤ dx ∧ dx ≤ 2147483647) (hdy : -2147483648 ≤ dy ∧ dy ≤ 2147483647) :
    Calls Tryz.prog 21 #[.slice A n c, .agg [.int .i32 dx, .int .i32 dy].toArray] w (fun ex w' => ∃ v, ex = .returned v ∧ (fun v w' => ∃ (r : Row) (g : Bool), v = .tuple #[.slice r.A r.n r.c, .bool g] ∧ (g = true ↔ (∀ b ∈ xs, yF dx dy b)) ∧ (g = true → aX 40 10 r.A r.n r.c ((xs.map (eQ dx dy)).map aI) r.e) ∧ Mem w [] [r.e] w') v w') := by
  have hlen : xs.length = n := by simpa using R.len
  have hbd := R.bound
  refine aJ #[.tmp 4, .tmp 5] 68 Tryz.func21 rfl Tryz.results21 Tryz.ntmps21 rfl ?_
  have M0 := Mem.refl w
  refine aG (aB ?_)
  refine bL (.agg (List.toArray _)) M0 rfl rfl rfl (fun b1 w1 M1 => ?_)
  refine aA (aD (.slice _ _ _) rfl) rfl rfl ?_
  refine aA (aD (.bool false) rfl) rfl rfl ?_
  refine aE (aF (aG (aB ?_)))
  refine aA (aD (.slice _ _ _) rfl) rfl rfl ?_
  have M2 := M1.dummy default
  refine aE (aF (aG (aG (aB ?_))))
  refine aA (aD (.int _ _) rfl) rfl rfl ?_
  refine aE (aF (bB ?_))
  refine dM (σ := Nat × Row) [0, 3] (fun (k, q) => [(6, .slice q.A q.n q.c), (7, .int .i64 (k : Int))]) (fun (k, q) w' => (k ≤ n ∧ (∀ (j : Nat) (x : Body), j < k → xs[j]? = some x → yF dx dy x) ∧ aX 40 10 q.A q.n q.c (((xs.take k).map (eQ dx dy)).map aI) q.e) ∧ Mem w [] [(some b1, bc [.int .i32 dx, .int .i32 dy] 38), q.e] w') (fun (k, q) => n - k) (0, fY) (bS rfl (bS rfl fC)) (⟨⟨by omega, fun j x hj => by omega, aX.nil _ _ _⟩, M2⟩) ?_
  rintro ⟨k, q⟩ ρ3 w3 ⟨⟨hk, hal, hq⟩, hM3⟩
  have htl := List.length_take_le k xs
  have hqn : (xs.take k).length = q.n := by simpa using hq.1
  refine aG (aG (aB ?_))
  refine aA (aC (.int _ _) rfl) rfl rfl ?_
  refine aA (aC (.slice _ _ _) rfl) rfl rfl ?_
  refine aA (cS Tryz.underlying22 rfl) rfl rfl ?_
  refine aA (aO (.bool (decide _)) rfl rfl rfl) rfl rfl ?_
  refine aE (aF ?_)
  refine aZ rfl (fun h14 => ?_) (fun h14 => ?_)
  · obtain ⟨xb, hxb⟩ := cQ (xs := xs) (k := k) hlen (by omega)
    have hxm := List.mem_of_getElem? hxb
    have hpx := (hb xb hxm).p
    refine aM (aF (aG (bB (aG ?_))))
    refine bY [(0, 0), (1, 0), (2, 1), (3, 1), (4, 1), (5, 1), (6, 0), (7, 0), (8, 1), (9, 0), (10, 0), (11, 0)] mixed rfl (by kernel_rfl) (fun w4 hb4 hh4 => ?_)
    have M4 := hM3.drew hb4 hh4
    refine aU rfl rfl rfl (fun _ => aC (.slice _ _ _) rfl) ?_
    refine aU rfl rfl rfl (fun _ => aC (.int _ _) rfl) ?_
    refine cB rfl rfl rfl (bQ (k) dD rfl rfl rfl ((R.mem M4).below_len (aK aI hxb)) ((R.mem M4).someK (aK aI hxb))) ?_
    refine cB rfl rfl rfl (bN 6 eG (R.mem M4) (Nat.lt_of_le_of_lt (Nat.zero_le _) ((R.mem M4).below_len (aK aI hxb))) rfl) ?_
    refine cB rfl rfl rfl (bN 0 dL (R.mem M4) (Nat.lt_of_le_of_lt (Nat.zero_le _) ((R.mem M4).below_len (aK aI hxb))) rfl) ?_
    refine cB rfl rfl rfl (eK (o := 6) (.int _ _) bG (R.mem M4) (aK aI hxb) rfl rfl) ?_
    refine aU rfl rfl rfl (fun _ => bP fE Tryz.underlying2 rfl (jB _ (by omega) (by omega))) ?_
    refine aU rfl rfl rfl (fun _ => aH 0 dL rfl) ?_
    refine cB rfl rfl rfl (aY 0 (.int _ _) bG M4 rfl rfl rfl) ?_
    refine aU rfl rfl rfl (fun _ => bP fE Tryz.underlying2 rfl (jB _ (by omega) (by omega))) ?_
    refine aU rfl rfl rfl (fun _ => bX rfl rfl (by omega) (by omega)) ?_
    refine aU rfl rfl rfl (fun _ => aD (.int _ _) rfl) ?_
    refine cF ?_
    refine aF (aG ?_)
    refine bY [(0, 0), (1, 0), (2, 1), (3, 1), (4, 1), (5, 1), (6, 0), (7, 0), (8, 1), (9, 0), (10, 0), (11, 0)] mixed rfl (by kernel_rfl) (fun w5 hb5 hh5 => ?_)
    have M5 := M4.drew hb5 hh5
    refine aU rfl rfl rfl (fun _ => aC (.slice _ _ _) rfl) ?_
    refine aU rfl rfl rfl (fun _ => aC (.int _ _) rfl) ?_
    refine cB rfl rfl rfl (bQ (k) dD rfl rfl rfl ((R.mem M5).below_len (aK aI hxb)) ((R.mem M5).someK (aK aI hxb))) ?_
    refine cB rfl rfl rfl (bN 6 eG (R.mem M5) (Nat.lt_of_le_of_lt (Nat.zero_le _) ((R.mem M5).below_len (aK aI hxb))) rfl) ?_
    refine cB rfl rfl rfl (bN 1 dH (R.mem M5) (Nat.lt_of_le_of_lt (Nat.zero_le _) ((R.mem M5).below_len (aK aI hxb))) rfl) ?_
    refine cB rfl rfl rfl (eK (o := 7) (.int _ _) bG (R.mem M5) (aK aI hxb) rfl rfl) ?_
    refine aU rfl rfl rfl (fun _ => bP fE Tryz.underlying2 rfl (jB _ (by omega) (by omega))) ?_
    refine aU rfl rfl rfl (fun _ => aH 1 dH rfl) ?_
    refine cB rfl rfl rfl (aY 0 (.int _ _) bG M5 rfl rfl rfl) ?_
    refine aU rfl rfl rfl (fun _ => bP fE Tryz.underlying2 rfl (jB _ (by omega) (by omega))) ?_
    refine aU rfl rfl rfl (fun _ => bX rfl rfl (by omega) (by omega)) ?_
    refine aU rfl rfl rfl (fun _ => aD (.int _ _) rfl) ?_
    refine cF ?_
    refine aF (aG (aG (aB ?_)))
    refine aA (aC (.int _ _) rfl) rfl rfl ?_
    refine aA (aO (.bool (decide _)) rfl rfl rfl) rfl rfl ?_
    refine aA (aC (.bool (decide _)) rfl) rfl rfl ?_
    refine dC 41 rfl (fun g41 => ?_) (fun g41 => ?_)
    · refine aP rfl rfl ?_
      refine aP rfl rfl ?_
      refine aA (bM true (.bool true) rfl rfl) rfl rfl ?_
      refine aA (aC (.bool true) rfl) rfl rfl ?_
      refine aP rfl rfl ?_
      refine aP rfl rfl ?_
      refine aA (bM true (.bool true) rfl rfl) rfl rfl ?_
      refine aA (aC (.bool true) rfl) rfl rfl ?_
      refine aP rfl rfl ?_
      refine aP rfl rfl ?_
      refine aA (bM true (.bool true) rfl rfl) rfl rfl ?_
      refine aE (aF ?_)
      refine dE rfl ?_
      refine aG (aB ?_)
      refine aA (aD (.slice _ _ _) rfl) rfl rfl ?_
      refine aA (aD (.bool false) rfl) rfl rfl ?_
      refine aE (aF (aQ (cC ?_)))
      refine lI ?_
      refine cC ?_
      refine nG ?_
      refine lI ?_
      refine cC ?_
      refine eN (.slice _ _ _) (.bool false) rfl rfl ?_
      first | exact ⟨q, true, rfl, ⟨fun _ b hbm => by obtain ⟨j, hj⟩ := List.getElem?_of_mem hbm; exact hal j b (by have := (List.getElem?_eq_some_iff.1 hj).1; omega) hj, fun _ => rfl⟩, fun _ => hq, M5.keep [false, true]⟩ | exact ⟨⟨none, 0, 0, (none, default)⟩, false, rfl, ⟨(fun h => by cases h), (fun h => absurd (h xb hxm) (by unfold yF; omega))⟩, (fun h => by cases h), (M5.keep [false, false]).dummy default⟩
    · refine aA (aC (.int _ _) rfl) rfl rfl ?_
      refine aA (aO (.bool (decide _)) rfl rfl rfl) rfl rfl ?_
      refine aA (bM false (.bool (decide _)) rfl rfl) rfl rfl ?_
      refine aA (aC (.bool (decide _)) rfl) rfl rfl ?_
      refine dC 45 rfl (fun g45 => ?_) (fun g45 => ?_)
      · refine aP rfl rfl ?_
        refine aP rfl rfl ?_
        refine aA (bM true (.bool true) rfl rfl) rfl rfl ?_
        refine aA (aC (.bool true) rfl) rfl rfl ?_
        refine aP rfl rfl ?_
        refine aP rfl rfl ?_
        refine aA (bM true (.bool true) rfl rfl) rfl rfl ?_
        refine aE (aF ?_)
        refine dE rfl ?_
        refine aG (aB ?_)
        refine aA (aD (.slice _ _ _) rfl) rfl rfl ?_
        refine aA (aD (.bool false) rfl) rfl rfl ?_
        refine aE (aF (aQ (cC ?_)))
        refine lI ?_
        refine cC ?_
        refine nG ?_
        refine lI ?_
        refine cC ?_
        refine eN (.slice _ _ _) (.bool false) rfl rfl ?_
        first | exact ⟨q, true, rfl, ⟨fun _ b hbm => by obtain ⟨j, hj⟩ := List.getElem?_of_mem hbm; exact hal j b (by have := (List.getElem?_eq_some_iff.1 hj).1; omega) hj, fun _ => rfl⟩, fun _ => hq, M5.keep [false, true]⟩ | exact ⟨⟨none, 0, 0, (none, default)⟩, false, rfl, ⟨(fun h => by cases h), (fun h => absurd (h xb hxm) (by unfold yF; omega))⟩, (fun h => by cases h), (M5.keep [false, false]).dummy default⟩
      · refine aA (aC (.int _ _) rfl) rfl rfl ?_
        refine aA (aO (.bool (decide _)) rfl rfl rfl) rfl rfl ?_
        refine aA (bM false (.bool (decide _)) rfl rfl) rfl rfl ?_
        refine aA (aC (.bool (decide _)) rfl) rfl rfl ?_
        refine dC 49 rfl (fun g49 => ?_) (fun g49 => ?_)
        · refine aP rfl rfl ?_
          refine aP rfl rfl ?_
          refine aA (bM true (.bool true) rfl rfl) rfl rfl ?_
          refine aE (aF ?_)
          refine dE rfl ?_
          refine aG (aB ?_)
          refine aA (aD (.slice _ _ _) rfl) rfl rfl ?_
          refine aA (aD (.bool false) rfl) rfl rfl ?_
          refine aE (aF (aQ (cC ?_)))
          refine lI ?_
          refine cC ?_
          refine nG ?_
          refine lI ?_
          refine cC ?_
          refine eN (.slice _ _ _) (.bool false) rfl rfl ?_
          first | exact ⟨q, true, rfl, ⟨fun _ b hbm => by obtain ⟨j, hj⟩ := List.getElem?_of_mem hbm; exact hal j b (by have := (List.getElem?_eq_some_iff.1 hj).1; omega) hj, fun _ => rfl⟩, fun _ => hq, M5.keep [false, true]⟩ | exact ⟨⟨none, 0, 0, (none, default)⟩, false, rfl, ⟨(fun h => by cases h), (fun h => absurd (h xb hxm) (by unfold yF; omega))⟩, (fun h => by cases h), (M5.keep [false, false]).dummy default⟩
        · refine aA (aC (.int _ _) rfl) rfl rfl ?_
          refine aA (aO (.bool (decide _)) rfl rfl rfl) rfl rfl ?_
          refine aA (bM false (.bool (decide _)) rfl rfl) rfl rfl ?_
          refine aE (aF ?_)
          refine aZ rfl (fun h52 => ?_) (fun h52 => ?_)
          · refine aG (aB ?_)
            refine aA (aD (.slice _ _ _) rfl) rfl rfl ?_
            refine aA (aD (.bool false) rfl) rfl rfl ?_
            refine aE (aF (aQ (cC ?_)))
            refine lI ?_
            refine cC ?_
            refine nG ?_
            refine lI ?_
            refine cC ?_
            refine eN (.slice _ _ _) (.bool false) rfl rfl ?_
            first | exact ⟨q, true, rfl, ⟨fun _ b hbm => by obtain ⟨j, hj⟩ := List.getElem?_of_mem hbm; exact hal j b (by have := (List.getElem?_eq_some_iff.1 hj).1; omega) hj, fun _ => rfl⟩, fun _ => hq, M5.keep [false, true]⟩ | exact ⟨⟨none, 0, 0, (none, default)⟩, false, rfl, ⟨(fun h => by cases h), (fun h => absurd (h xb hxm) (by unfold yF; omega))⟩, (fun h => by cases h), (M5.keep [false, false]).dummy default⟩
          · refine aM (aF (aG (aB ?_)))
            refine aA (aC (.slice _ _ _) rfl) rfl rfl ?_
            refine aA (aC (.int _ _) rfl) rfl rfl ?_
            refine aA (bQ (k) dD rfl rfl rfl ((R.mem M5).below_len (aK aI hxb)) ((R.mem M5).someK (aK aI hxb))) rfl rfl ?_
            refine aA (dO _ bW (R.mem M5) (aK aI hxb) rfl) rfl rfl ?_
            refine aT kR M5 rfl rfl (fun b6 w6 M6 => ?_)
            refine bJ 2 _ bW M6 rfl rfl rfl rfl rfl (aV rfl) rfl (fun w7 M7 => ?_)
            refine aE (aF (aG (aB ?_)))
            refine aA (aC (.int _ _) rfl) rfl rfl ?_
            refine aA (bP us2 Tryz.underlying21 rfl (iY _ (by omega) (by omega))) rfl rfl ?_
            refine aA (aC (.int _ _) rfl) rfl rfl ?_
            refine aA (bP us2 Tryz.underlying21 rfl (iY _ (by omega) (by omega))) rfl rfl ?_
            refine aA (cE [(0, .int _ _), (1, .int _ _)] _ dU rfl rfl) rfl rfl ?_
            refine aA (aH 6 eG rfl) rfl rfl ?_
            refine tQ 2 _ bI M7 rfl rfl rfl rfl rfl (aV rfl) (Nat.le_of_ble_eq_true rfl) (fun w8 M8 => ?_)
            refine aE (aF (aB ?_))
            refine aA (aC (.slice _ _ _) rfl) rfl rfl ?_
            refine aA (bA 2 bW M8 rfl rfl rfl) rfl rfl ?_
            refine cL [.agg (List.toArray _)] [aI (eQ dx dy xb)] rfl dD M8 rfl rfl rfl rfl (cU rfl) (by decide) (fun b9 w9 M9 => ?_)
            refine dK 1 [aI (eQ dx dy xb)] dD M9 rfl rfl rfl rfl rfl hq rfl (by simp [aI, Go.Bil.one]) (cP.ofMem 3 M9 rfl) (by omega) (fun A10 c10 e10 w10 M10 hR10 => ?_)
            refine aA (aD (.slice _ _ _) rfl) rfl rfl ?_
            refine aE ?_
            refine dN ?_
            refine aF (aB ?_)
            refine aA (aC (.int _ _) rfl) rfl rfl ?_
            refine aA (bX rfl rfl (by omega) (by omega)) rfl rfl ?_
            refine aA (aD (.int _ _) rfl) rfl rfl ?_
            refine aE ?_
            refine cH (k + 1, ⟨A10, q.n + 1, c10, e10⟩) (bS rfl (bS rfl fC)) (cN rfl (cN rfl iS)) ?_ ?_
            · exact ⟨⟨by omega, pX (p := fun _ x => yF dx dy x) hal hxb (by unfold yF; omega), by rw [cI hxb, List.map_append, List.map_append]; exact hR10⟩, M10.keep [true, true, false, false]⟩
            · (show n - (k + 1) < n - k; omega)
  · have hkn : k = n := by omega
    rw [List.take_of_length_le (by omega)] at hq
    refine cM ?_
    refine dG ?_
    refine cZ ?_
    refine eP ?_
    refine aF (aG (aB ?_))
    refine aA (aC (.slice _ _ _) rfl) rfl rfl ?_
    refine aA (aD (.slice _ _ _) rfl) rfl rfl ?_
    refine aA (aD (.bool true) rfl) rfl rfl ?_
    refine aE (aF (aQ ?_))
    refine eN (.slice _ _ _) (.bool true) rfl rfl ?_
    first | exact ⟨q, true, rfl, ⟨fun _ b hbm => by obtain ⟨j, hj⟩ := List.getElem?_of_mem hbm; exact hal j b (by have := (List.getElem?_eq_some_iff.1 hj).1; omega) hj, fun _ => rfl⟩, fun _ => hq, hM3.keep [false, true]⟩ | exact ⟨⟨none, 0, 0, (none, default)⟩, false, rfl, ⟨(fun h => by cases h), (fun h => absurd (h xb hxm) (by unfold yF; omega))⟩, (fun h => by cases h), (hM3.keep [false, false]).dummy default⟩
end Go.Proofs.YtlmcphcgiclanaaGreatDoor

namespace Go.Proofs.YtlmcphcgiclanaaGreatDoor
open Go.Bil
open Go.RowKit (Below)
open Go.Proofs
theorem aKo {T dd : Nat} {a b : Bool} {w : World} (hu : Tryz.prog.underlying T = some .bool) : (Op.equalIn (dd + 1) T (.bool a) (.bool b)).run Tryz.prog w = .ok (decide (a = b)) w := by
  simp [Op.equalIn, underlying, hu]
  cases a <;> cases b <;> rfl
theorem aYf (x0 x1 y0 y1 : Int) (x2 y2 : Bool) : EqA Tryz.prog 27 [.int .i64 x0, .int .i64 x1, .bool x2] [.int .i64 y0, .int .i64 y1, .bool y2] (decide (x0 = y0 ∧ x1 = y1 ∧ x2 = y2)) := ⟨by kernel_rfl, fun w => by
  have h := oD (P := Tryz.prog) (T := 27) (dd := 9998 + 1) (xs := [.int .i64 x0, .int .i64 x1, .bool x2]) (ys := [.int .i64 y0, .int .i64 y1, .bool y2]) (w := w) Tryz.underlying27 (by kernel_rfl) (eL rfl (fK jZ rfl) (fK jZ rfl) (kW (dd := 9998) Tryz.underlying3) (eL rfl (fK jZ rfl) (fK jZ rfl) (kW (dd := 9998) Tryz.underlying3) (eL rfl (fK kV rfl) (fK kV rfl) (aKo (dd := 9998) Tryz.underlying4) sZ)))
  refine h.trans (congrArg (fun r => Result.ok r w) ?_)
  simp only [Bool.decide_and, Bool.and_true, Bool.and_assoc]⟩
theorem aMj : ∀ b ∈ ([⟨0, 65536, 0, 0, 65536, 0, 0, 0, 0, 0⟩] : List Body), Okb b := fun b hb => pD ((by decide : ∀ b ∈ ([⟨0, 65536, 0, 0, 65536, 0, 0, 0, 0, 0⟩] : List Body), check b = 0) b hb)
theorem aRq : ∀ b ∈ ([⟨1, 65536, 0, 0, 65536, 0, 0, 0, 65536, 0⟩, ⟨2, 65536, 0, 0, 0, 0, 131071, 0, 0, 0⟩] : List Body), Okb b := fun b hb => pD ((by decide : ∀ b ∈ ([⟨1, 65536, 0, 0, 65536, 0, 0, 0, 65536, 0⟩, ⟨2, 65536, 0, 0, 0, 0, 131071, 0, 0, 0⟩] : List Body), check b = 0) b hb)
theorem aQu : Okb (⟨0, 65536, 0, 0, 0, 0, 0, 0, 0, 0⟩ : Body) := pD (by decide)
theorem aUv : fG ([⟨0, 65536, 0, 0, 65536, 0, 0, 0, 0, 0⟩] : List Body) = [] := by decide
theorem aKg : iR ([⟨0, 65536, 0, 0, 65536, 0, 0, 0, 0, 0⟩] : List Body) = ([⟨0, 65536, 0, 0, 65536, 0, 0, -16, 0, -1024⟩] : List Body) := by decide +kernel
theorem aTt : mS ([⟨0, 65536, 0, 0, 65536, 0, 0, 0, 0, 0⟩] : List Body) = false := by decide +kernel
theorem aTv : qX 17179607041 = 131071 := (aLr (by decide) (by decide)).symm
theorem aKr : len 131071 0 = 131071 := by
  unfold len
  rw [show qQ 131071 0 = 17179607041 by decide, aTv]
  rfl
theorem aWe : jS (⟨1, 65536, 0, 0, 65536, 0, 0, 0, 65536, 0⟩ : Body) (⟨2, 65536, 0, 0, 0, 0, 131071, 0, 0, 0⟩ : Body) = some ⟨1, 2, 65536, 0, 1⟩ := by
  have e : oH (⟨1, 65536, 0, 0, 65536, 0, 0, 0, 65536, 0⟩ : Body) (⟨2, 65536, 0, 0, 0, 0, 131071, 0, 0, 0⟩ : Body) = ((0, 0), (131071, 0), 17179607041) := by decide
  have hu : jE 131071 0 = (65536, 0) := by unfold jE; rw [aKr]; decide
  unfold jS
  rw [if_neg (by decide)]
  unfold iI
  rw [e]
  show (if ((65536 : Int) + 65536).natAbs * ((65536 : Int) + 65536).natAbs ≤ qQ 131071 0 then none else some (⟨1, 2, (jE 131071 0).1, (jE 131071 0).2, IntKind.wrap .i32 (65536 + 65536 - len 131071 0)⟩ : Con)) = _
  rw [if_neg (by decide), hu, aKr]
  decide
theorem aVh : iC ([⟨1, 65536, 0, 0, 65536, 0, 0, 0, 65536, 0⟩, ⟨2, 65536, 0, 0, 0, 0, 131071, 0, 0, 0⟩] : List Body) = [(1, 2)] := by decide
theorem tF : fG ([⟨1, 65536, 0, 0, 65536, 0, 0, 0, 65536, 0⟩, ⟨2, 65536, 0, 0, 0, 0, 131071, 0, 0, 0⟩] : List Body) = [⟨1, 2, 65536, 0, 1⟩] := by
  have h : yH (boM ([⟨1, 65536, 0, 0, 65536, 0, 0, 0, 65536, 0⟩, ⟨2, 65536, 0, 0, 0, 0, 131071, 0, 0, 0⟩] : List Body)) (1, 2) = some ⟨1, 2, 65536, 0, 1⟩ := (kC (show boM ([⟨1, 65536, 0, 0, 65536, 0, 0, 0, 65536, 0⟩, ⟨2, 65536, 0, 0, 0, 0, 131071, 0, 0, 0⟩] : List Body) 1 = some (⟨1, 65536, 0, 0, 65536, 0, 0, 0, 65536, 0⟩ : Body) from by decide) (show boM ([⟨1, 65536, 0, 0, 65536, 0, 0, 0, 65536, 0⟩, ⟨2, 65536, 0, 0, 0, 0, 131071, 0, 0, 0⟩] : List Body) 2 = some (⟨2, 65536, 0, 0, 0, 0, 131071, 0, 0, 0⟩ : Body) from by decide)).trans aWe
  unfold fG
  rw [aVh]
  simp only [List.filterMap_cons, List.filterMap_nil, h]
theorem aVj : iR ([⟨1, 65536, 0, 0, 65536, 0, 0, 0, 65536, 0⟩, ⟨2, 65536, 0, 0, 0, 0, 131071, 0, 0, 0⟩] : List Body) = ([⟨1, 65536, 0, 0, 65536, 0, 0, -16, 0, -1024⟩, ⟨2, 65536, 0, 0, 0, 0, 131071, 0, 0, 0⟩] : List Body) := by
  unfold iR gH
  rw [tF]
  decide +kernel
theorem aTx : mS ([⟨1, 65536, 0, 0, 65536, 0, 0, 0, 65536, 0⟩, ⟨2, 65536, 0, 0, 0, 0, 131071, 0, 0, 0⟩] : List Body) = false := by
  unfold mS gH
  rw [tF]
  decide +kernel
theorem aTo : gZ ([⟨0, 65536, 0, 0, 65536, 0, 0, 0, 0, 0⟩] : List Body) 2 = ([⟨0, 65536, 0, 0, 65536, 0, 0, -48, 0, -2048⟩] : List Body) := by
  show iR (iR ([⟨0, 65536, 0, 0, 65536, 0, 0, 0, 0, 0⟩] : List Body)) = _
  rw [aKg]
  decide +kernel
theorem aVx : aCe (⟨0, 65536, 0, 0, 0, 0, 0, 0, 0, 0⟩ : Body) = (⟨0, 65536, 0, 0, 0, 0, 0, 0, 0, 0⟩ : Body) := by decide
end Go.Proofs.YtlmcphcgiclanaaGreatDoor

namespace Go.Proofs.YtlmcphcgiclanaaGreatDoor
open Go.Bil
open Go.RowKit (Below)
open Go.Proofs
set_option maxHeartbeats 16000000 in
theorem aWq (w : World) (F : Rd w 2 (some ⟨0, 0, none⟩) 1 [[.int .u32 73856093, .int .u32 19349663]]) (N : Rd w 4 (some ⟨3, 0, none⟩) 1 [cW iA]) :
    Calls Tryz.prog 15 #[] w (fun ex w' => ∃ v, ex = .returned v ∧ (fun v w' => v = .bool true ∧ Below w.heap.size w w') v w') := by
  refine aJ #[.tmp 0] 95 Tryz.func15 rfl Tryz.results15 Tryz.ntmps15 rfl ?_
  have M0 := Mem.refl w
  refine aG (aB ?_)
  refine aA (aD (.bool false) rfl) rfl rfl ?_
  refine aE (aF (aG (aB ?_)))
  refine aA (cE [(1, .int _ _), (3, .int _ _)] _ lU rfl rfl) rfl rfl ?_
  refine cL [.agg (List.toArray _)] [aI ⟨0, 65536, 0, 0, 65536, 0, 0, 0, 0, 0⟩] rfl dD M0 rfl rfl rfl rfl (cU rfl) (by decide) (fun b1 w1 M1 => ?_)
  have hlit9 := iB (T := 40) (b := b1) (([⟨0, 65536, 0, 0, 65536, 0, 0, 0, 0, 0⟩] : List Body).map aI) (lZ _) rfl (by decide)
  refine aL aCv rfl rfl rfl ?_
  refine (lN _ (F.mem M1) (N.mem M1) _ _ _ ([⟨0, 65536, 0, 0, 65536, 0, 0, 0, 0, 0⟩] : List Body) (hlit9.rd M1 (aS (i := 0) rfl)) aMj (kG (by decide)) (by decide)).mono ?_
  rintro _ w2 ⟨v2, rfl, ⟨ra, tra, rfl, h1ra, h2ra, hrra, hM2⟩⟩
  refine ⟨_, rfl, ?_⟩
  have M2 : Mem _ _ [_, _] _ := M1.call0 hM2
  rw [aKg] at hrra
  have hnra : 1 = ra.n := by simpa using hrra.1
  obtain rfl : tra = 0 := by have h : 2 * tra ≤ 0 := h2ra; omega
  refine aA (aC (.tuple (List.toArray _)) rfl) rfl rfl ?_
  refine aA (bC (.slice _ _ _) rfl rfl) rfl rfl ?_
  refine aA (bC (.agg (List.toArray _)) rfl rfl) rfl rfl ?_
  refine aN 12 (.agg [.int .i64 0, .int .i64 0, .bool false].toArray) (congrArg Value.agg (by rw [aUv, aTt]; rfl)) ?_
  refine aT mC M2 rfl rfl (fun b3 w3 M3 => ?_)
  refine aA (aD (.slice _ _ _) rfl) rfl rfl ?_
  refine bJ 2 _ kI M3 rfl rfl rfl rfl rfl (aV rfl) rfl (fun w4 M4 => ?_)
  refine aE (aF (aG (aB ?_)))
  refine aA (cE [(0, .int _ _)] _ dU rfl rfl) rfl rfl ?_
  refine aA (cE [(0, .int _ _), (1, .int _ _), (3, .int _ _), (6, .agg (List.toArray _))] _ lU rfl rfl) rfl rfl ?_
  refine aA (cE [(0, .int _ _)] _ dU rfl rfl) rfl rfl ?_
  refine aA (cE [(0, .int _ _), (1, .int _ _), (5, .agg (List.toArray _))] _ lU rfl rfl) rfl rfl ?_
  refine cL [.agg (List.toArray _), .agg (List.toArray _)] [aI ⟨1, 65536, 0, 0, 65536, 0, 0, 0, 65536, 0⟩, aI ⟨2, 65536, 0, 0, 0, 0, 131071, 0, 0, 0⟩] rfl dD M4 rfl rfl rfl rfl (cU rfl) (by decide) (fun b5 w5 M5 => ?_)
  have hlit18 := iB (T := 40) (b := b5) (([⟨1, 65536, 0, 0, 65536, 0, 0, 0, 65536, 0⟩, ⟨2, 65536, 0, 0, 0, 0, 131071, 0, 0, 0⟩] : List Body).map aI) (lZ _) rfl (by decide)
  refine aL aCv rfl rfl rfl ?_
  refine (lN _ (F.mem M5) (N.mem M5) _ _ _ ([⟨1, 65536, 0, 0, 65536, 0, 0, 0, 65536, 0⟩, ⟨2, 65536, 0, 0, 0, 0, 131071, 0, 0, 0⟩] : List Body) (hlit18.rd M5 (aS (i := 3) rfl)) aRq (kG (by decide)) (by decide)).mono ?_
  rintro _ w6 ⟨v6, rfl, ⟨rb, trb, rfl, h1rb, h2rb, hrrb, hM6⟩⟩
  refine ⟨_, rfl, ?_⟩
  have M6 : Mem _ _ [_, _, _, _, _] _ := M5.call0 hM6
  rw [aVj] at hrrb
  have hnrb : 2 = rb.n := by simpa using hrrb.1
  rw [tF] at h1rb
  obtain rfl : trb = 1 := by have h : 2 * trb ≤ 2 := h2rb; have g : 1 ≤ trb := h1rb; omega
  refine aA (aC (.tuple (List.toArray _)) rfl) rfl rfl ?_
  refine aA (bC (.slice _ _ _) rfl rfl) rfl rfl ?_
  refine aA (bC (.agg (List.toArray _)) rfl rfl) rfl rfl ?_
  refine aN 21 (.agg [.int .i64 1, .int .i64 1, .bool false].toArray) (congrArg Value.agg (by rw [tF, aTx]; rfl)) ?_
  refine aT mC M6 rfl rfl (fun b7 w7 M7 => ?_)
  refine aA (aD (.slice _ _ _) rfl) rfl rfl ?_
  refine bJ 5 _ kI M7 rfl rfl rfl rfl rfl (aV rfl) rfl (fun w8 M8 => ?_)
  refine aE (aF (aG (aB ?_)))
  refine aA (cE [(1, .int _ _), (3, .int _ _)] _ lU rfl rfl) rfl rfl ?_
  refine cL [.agg (List.toArray _)] [aI ⟨0, 65536, 0, 0, 65536, 0, 0, 0, 0, 0⟩] rfl dD M8 rfl rfl rfl rfl (cU rfl) (by decide) (fun b9 w9 M9 => ?_)
  have hlit24 := iB (T := 40) (b := b9) (([⟨0, 65536, 0, 0, 65536, 0, 0, 0, 0, 0⟩] : List Body).map aI) (lZ _) rfl (by decide)
  refine aL aXt rfl rfl rfl ?_
  refine (aFb _ (F.mem M9) (N.mem M9) _ _ _ ([⟨0, 65536, 0, 0, 65536, 0, 0, 0, 0, 0⟩] : List Body) (hlit24.rd M9 (aS (i := 6) rfl)) aMj (kG (by decide)) (by decide) 2 2 rfl (by decide)).mono ?_
  rintro _ w10 ⟨v10, rfl, ⟨rc, trc, rfl, h1rc, _, hrc, hM10⟩⟩
  refine ⟨_, rfl, ?_⟩
  have M10 : Mem _ _ [_, _, _, _, _, _, _, _] _ := M9.call0 hM10
  rw [aTo] at hrc
  have hnrc : 1 = rc.n := by simpa using hrc.1
  refine aA (aC (.tuple (List.toArray _)) rfl) rfl rfl ?_
  refine aA (bC (.slice _ _ _) rfl rfl) rfl rfl ?_
  refine aA (bC (.agg (List.toArray _)) rfl rfl) rfl rfl ?_
  refine aT mC M10 rfl rfl (fun b11 w11 M11 => ?_)
  refine aA (aD (.slice _ _ _) rfl) rfl rfl ?_
  refine bJ 8 _ kI M11 rfl rfl rfl rfl rfl (aV rfl) rfl (fun w12 M12 => ?_)
  refine aE (aF (aG (aG (aB ?_))))
  refine aA (aC (.slice _ _ _) rfl) rfl rfl ?_
  refine aA (cS Tryz.underlying22 rfl) rfl rfl ?_
  refine aA (aO (.bool (decide _)) rfl rfl rfl) rfl rfl ?_
  refine aN 30 (.bool false) (bF (by omega)).symm ?_
  refine aA (aC (.bool false) rfl) rfl rfl ?_
  refine aA (aC (.slice _ _ _) rfl) rfl rfl ?_
  refine aA (cS Tryz.underlying22 rfl) rfl rfl ?_
  refine aA (aO (.bool (decide _)) rfl rfl rfl) rfl rfl ?_
  refine aN 34 (.bool false) (bF (by omega)).symm ?_
  refine aA (bM false (.bool false) rfl rfl) rfl rfl ?_
  refine aA (aC (.bool false) rfl) rfl rfl ?_
  refine aA (aC (.slice _ _ _) rfl) rfl rfl ?_
  refine aA (cS Tryz.underlying22 rfl) rfl rfl ?_
  refine aA (aO (.bool (decide _)) rfl rfl rfl) rfl rfl ?_
  refine aN 39 (.bool false) (bF (by omega)).symm ?_
  refine aA (bM false (.bool false) rfl rfl) rfl rfl ?_
  refine aE (aF ?_)
  refine cO rfl ?_
  refine aM (aF (aG (aB ?_)))
  refine aA (aC (.slice _ _ _) rfl) rfl rfl ?_
  refine aA (bQ (0) dD rfl rfl rfl ((hrra.rd M12 (aS (i := 1) rfl)).below_len ((show (([⟨0, 65536, 0, 0, 65536, 0, 0, -16, 0, -1024⟩] : List Body).map aI)[0]? = some (aI ⟨0, 65536, 0, 0, 65536, 0, 0, -16, 0, -1024⟩) from rfl))) ((hrra.rd M12 (aS (i := 1) rfl)).someK ((show (([⟨0, 65536, 0, 0, 65536, 0, 0, -16, 0, -1024⟩] : List Body).map aI)[0]? = some (aI ⟨0, 65536, 0, 0, 65536, 0, 0, -16, 0, -1024⟩) from rfl)))) rfl rfl ?_
  refine aA (bN 6 eG (hrra.rd M12 (aS (i := 1) rfl)) (Nat.lt_of_le_of_lt (Nat.zero_le _) ((hrra.rd M12 (aS (i := 1) rfl)).below_len ((show (([⟨0, 65536, 0, 0, 65536, 0, 0, -16, 0, -1024⟩] : List Body).map aI)[0]? = some (aI ⟨0, 65536, 0, 0, 65536, 0, 0, -16, 0, -1024⟩) from rfl)))) rfl) rfl rfl ?_
  refine aA (oX (o := 6) _ bI (hrra.rd M12 (aS (i := 1) rfl)) ((show (([⟨0, 65536, 0, 0, 65536, 0, 0, -16, 0, -1024⟩] : List Body).map aI)[0]? = some (aI ⟨0, 65536, 0, 0, 65536, 0, 0, -16, 0, -1024⟩) from rfl)) rfl rfl rfl) rfl rfl ?_
  refine aA (cE [(1, .int _ _)] _ dU rfl rfl) rfl rfl ?_
  refine aA (sG (aBw _ _ _ _) rfl rfl) rfl rfl ?_
  refine aN 46 (.bool true) (bT (by decide)).symm ?_
  refine aA (aC (.bool true) rfl) rfl rfl ?_
  refine aA (aC (.slice _ _ _) rfl) rfl rfl ?_
  refine aA (bQ (0) dD rfl rfl rfl ((hrra.rd M12 (aS (i := 1) rfl)).below_len ((show (([⟨0, 65536, 0, 0, 65536, 0, 0, -16, 0, -1024⟩] : List Body).map aI)[0]? = some (aI ⟨0, 65536, 0, 0, 65536, 0, 0, -16, 0, -1024⟩) from rfl))) ((hrra.rd M12 (aS (i := 1) rfl)).someK ((show (([⟨0, 65536, 0, 0, 65536, 0, 0, -16, 0, -1024⟩] : List Body).map aI)[0]? = some (aI ⟨0, 65536, 0, 0, 65536, 0, 0, -16, 0, -1024⟩) from rfl)))) rfl rfl ?_
  refine aA (bN 8 eS (hrra.rd M12 (aS (i := 1) rfl)) (Nat.lt_of_le_of_lt (Nat.zero_le _) ((hrra.rd M12 (aS (i := 1) rfl)).below_len ((show (([⟨0, 65536, 0, 0, 65536, 0, 0, -16, 0, -1024⟩] : List Body).map aI)[0]? = some (aI ⟨0, 65536, 0, 0, 65536, 0, 0, -16, 0, -1024⟩) from rfl)))) rfl) rfl rfl ?_
  refine aA (oX (o := 8) _ bI (hrra.rd M12 (aS (i := 1) rfl)) ((show (([⟨0, 65536, 0, 0, 65536, 0, 0, -16, 0, -1024⟩] : List Body).map aI)[0]? = some (aI ⟨0, 65536, 0, 0, 65536, 0, 0, -16, 0, -1024⟩) from rfl)) rfl rfl rfl) rfl rfl ?_
  refine aA (cE [(1, .int _ _)] _ dU rfl rfl) rfl rfl ?_
  refine aA (sG (aBw _ _ _ _) rfl rfl) rfl rfl ?_
  refine aN 53 (.bool true) (bT (by decide)).symm ?_
  refine aA (bM true (.bool true) rfl rfl) rfl rfl ?_
  refine aA (aC (.bool true) rfl) rfl rfl ?_
  refine aA (bA 2 kI M12 rfl rfl rfl) rfl rfl ?_
  refine aA (cE [] _ aBc rfl rfl) rfl rfl ?_
  refine aA (sG (aYf _ _ _ _ _ _) rfl rfl) rfl rfl ?_
  refine aN 58 (.bool true) (bT (by decide)).symm ?_
  refine aA (bM true (.bool true) rfl rfl) rfl rfl ?_
  refine aA (aC (.bool true) rfl) rfl rfl ?_
  refine aA (aC (.slice _ _ _) rfl) rfl rfl ?_
  refine aA (bQ (0) dD rfl rfl rfl ((hrrb.rd M12 (aS (i := 4) rfl)).below_len ((show (([⟨1, 65536, 0, 0, 65536, 0, 0, -16, 0, -1024⟩, ⟨2, 65536, 0, 0, 0, 0, 131071, 0, 0, 0⟩] : List Body).map aI)[0]? = some (aI ⟨1, 65536, 0, 0, 65536, 0, 0, -16, 0, -1024⟩) from rfl))) ((hrrb.rd M12 (aS (i := 4) rfl)).someK ((show (([⟨1, 65536, 0, 0, 65536, 0, 0, -16, 0, -1024⟩, ⟨2, 65536, 0, 0, 0, 0, 131071, 0, 0, 0⟩] : List Body).map aI)[0]? = some (aI ⟨1, 65536, 0, 0, 65536, 0, 0, -16, 0, -1024⟩) from rfl)))) rfl rfl ?_
  refine aA (bN 8 eS (hrrb.rd M12 (aS (i := 4) rfl)) (Nat.lt_of_le_of_lt (Nat.zero_le _) ((hrrb.rd M12 (aS (i := 4) rfl)).below_len ((show (([⟨1, 65536, 0, 0, 65536, 0, 0, -16, 0, -1024⟩, ⟨2, 65536, 0, 0, 0, 0, 131071, 0, 0, 0⟩] : List Body).map aI)[0]? = some (aI ⟨1, 65536, 0, 0, 65536, 0, 0, -16, 0, -1024⟩) from rfl)))) rfl) rfl rfl ?_
  refine aA (oX (o := 8) _ bI (hrrb.rd M12 (aS (i := 4) rfl)) ((show (([⟨1, 65536, 0, 0, 65536, 0, 0, -16, 0, -1024⟩, ⟨2, 65536, 0, 0, 0, 0, 131071, 0, 0, 0⟩] : List Body).map aI)[0]? = some (aI ⟨1, 65536, 0, 0, 65536, 0, 0, -16, 0, -1024⟩) from rfl)) rfl rfl rfl) rfl rfl ?_
  refine aA (cE [(1, .int _ _)] _ dU rfl rfl) rfl rfl ?_
  refine aA (sG (aBw _ _ _ _) rfl rfl) rfl rfl ?_
  refine aN 66 (.bool true) (bT (by decide)).symm ?_
  refine aA (bM true (.bool true) rfl rfl) rfl rfl ?_
  refine aA (aC (.bool true) rfl) rfl rfl ?_
  refine aA (aC (.slice _ _ _) rfl) rfl rfl ?_
  refine aA (bQ (1) dD rfl rfl rfl ((hrrb.rd M12 (aS (i := 4) rfl)).below_len ((show (([⟨1, 65536, 0, 0, 65536, 0, 0, -16, 0, -1024⟩, ⟨2, 65536, 0, 0, 0, 0, 131071, 0, 0, 0⟩] : List Body).map aI)[1]? = some (aI ⟨2, 65536, 0, 0, 0, 0, 131071, 0, 0, 0⟩) from rfl))) ((hrrb.rd M12 (aS (i := 4) rfl)).someK ((show (([⟨1, 65536, 0, 0, 65536, 0, 0, -16, 0, -1024⟩, ⟨2, 65536, 0, 0, 0, 0, 131071, 0, 0, 0⟩] : List Body).map aI)[1]? = some (aI ⟨2, 65536, 0, 0, 0, 0, 131071, 0, 0, 0⟩) from rfl)))) rfl rfl ?_
  refine aA (bN 8 eS (hrrb.rd M12 (aS (i := 4) rfl)) (Nat.lt_of_le_of_lt (Nat.zero_le _) ((hrrb.rd M12 (aS (i := 4) rfl)).below_len ((show (([⟨1, 65536, 0, 0, 65536, 0, 0, -16, 0, -1024⟩, ⟨2, 65536, 0, 0, 0, 0, 131071, 0, 0, 0⟩] : List Body).map aI)[1]? = some (aI ⟨2, 65536, 0, 0, 0, 0, 131071, 0, 0, 0⟩) from rfl)))) rfl) rfl rfl ?_
  refine aA (oX (o := 8) _ bI (hrrb.rd M12 (aS (i := 4) rfl)) ((show (([⟨1, 65536, 0, 0, 65536, 0, 0, -16, 0, -1024⟩, ⟨2, 65536, 0, 0, 0, 0, 131071, 0, 0, 0⟩] : List Body).map aI)[1]? = some (aI ⟨2, 65536, 0, 0, 0, 0, 131071, 0, 0, 0⟩) from rfl)) rfl rfl rfl) rfl rfl ?_
  refine aA (cE [] _ dU rfl rfl) rfl rfl ?_
  refine aA (sG (aBw _ _ _ _) rfl rfl) rfl rfl ?_
  refine aN 74 (.bool true) (bT (by decide)).symm ?_
  refine aA (bM true (.bool true) rfl rfl) rfl rfl ?_
  refine aA (aC (.bool true) rfl) rfl rfl ?_
  refine aA (bA 5 kI M12 rfl rfl rfl) rfl rfl ?_
  refine aA (cE [(0, .int _ _), (1, .int _ _)] _ aBc rfl rfl) rfl rfl ?_
  refine aA (sG (aYf _ _ _ _ _ _) rfl rfl) rfl rfl ?_
  refine aN 79 (.bool true) (bT (by decide)).symm ?_
  refine aA (bM true (.bool true) rfl rfl) rfl rfl ?_
  refine aA (aC (.bool true) rfl) rfl rfl ?_
  refine aA (aC (.slice _ _ _) rfl) rfl rfl ?_
  refine aA (bQ (0) dD rfl rfl rfl ((hrc.rd M12 (aS (i := 7) rfl)).below_len ((show (([⟨0, 65536, 0, 0, 65536, 0, 0, -48, 0, -2048⟩] : List Body).map aI)[0]? = some (aI ⟨0, 65536, 0, 0, 65536, 0, 0, -48, 0, -2048⟩) from rfl))) ((hrc.rd M12 (aS (i := 7) rfl)).someK ((show (([⟨0, 65536, 0, 0, 65536, 0, 0, -48, 0, -2048⟩] : List Body).map aI)[0]? = some (aI ⟨0, 65536, 0, 0, 65536, 0, 0, -48, 0, -2048⟩) from rfl)))) rfl rfl ?_
  refine aA (bN 6 eG (hrc.rd M12 (aS (i := 7) rfl)) (Nat.lt_of_le_of_lt (Nat.zero_le _) ((hrc.rd M12 (aS (i := 7) rfl)).below_len ((show (([⟨0, 65536, 0, 0, 65536, 0, 0, -48, 0, -2048⟩] : List Body).map aI)[0]? = some (aI ⟨0, 65536, 0, 0, 65536, 0, 0, -48, 0, -2048⟩) from rfl)))) rfl) rfl rfl ?_
  refine aA (oX (o := 6) _ bI (hrc.rd M12 (aS (i := 7) rfl)) ((show (([⟨0, 65536, 0, 0, 65536, 0, 0, -48, 0, -2048⟩] : List Body).map aI)[0]? = some (aI ⟨0, 65536, 0, 0, 65536, 0, 0, -48, 0, -2048⟩) from rfl)) rfl rfl rfl) rfl rfl ?_
  refine aA (cE [(1, .int _ _)] _ dU rfl rfl) rfl rfl ?_
  refine aA (sG (aBw _ _ _ _) rfl rfl) rfl rfl ?_
  refine aN 87 (.bool true) (bT (by decide)).symm ?_
  refine aA (bM true (.bool true) rfl rfl) rfl rfl ?_
  refine aA (aC (.bool true) rfl) rfl rfl ?_
  refine aA (cE [(1, .int _ _)] _ lU rfl rfl) rfl rfl ?_
  refine aL aYe rfl rfl rfl ?_
  refine (aIm _ ⟨0, 65536, 0, 0, 0, 0, 0, 0, 0, 0⟩ aQu).mono ?_
  rintro _ w13 ⟨v13, rfl, ⟨rfl, hb13⟩⟩
  refine ⟨_, rfl, ?_⟩
  have M13 := M12.callB hb13
  refine aN 91 (.agg (aI ⟨0, 65536, 0, 0, 0, 0, 0, 0, 0, 0⟩).toArray) (congrArg (fun b => Value.agg (aI b).toArray) aVx) ?_
  refine aA (cE [(1, .int _ _)] _ lU rfl rfl) rfl rfl ?_
  refine aA (sG (aLp ⟨0, 65536, 0, 0, 0, 0, 0, 0, 0, 0⟩ ⟨0, 65536, 0, 0, 0, 0, 0, 0, 0, 0⟩) rfl rfl) rfl rfl ?_
  refine aN 93 (.bool true) (bT (by decide)).symm ?_
  refine aA (bM true (.bool true) rfl rfl) rfl rfl ?_
  refine aA (aD (.bool true) rfl) rfl rfl ?_
  refine aE (aF (aQ ?_))
  refine cJ (.bool true) rfl ?_
  exact ⟨rfl, M13.below⟩
end Go.Proofs.YtlmcphcgiclanaaGreatDoor

namespace Go.Proofs.YtlmcphcgiclanaaGreatDoor
open Go.Bil
open Go.RowKit (Below)
open Go.Proofs
end Go.Proofs.YtlmcphcgiclanaaGreatDoor
