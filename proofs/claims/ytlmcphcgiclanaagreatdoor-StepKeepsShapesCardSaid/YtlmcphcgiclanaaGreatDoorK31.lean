/- Part of the proof of the laws of this seat: S20i, S20j, S20k, S20l, S20m, S20n, R20a, R20b, R20c, R20d, R20e, R20f, Aw20, Aw20b, L20. No conditions. -/
import Derived.Test.YtlmcphcgiclanaaGreatDoorK5
import Derived.Test.YtlmcphcgiclanaaGreatDoorK27
import Derived.Test.YtlmcphcgiclanaaGreatDoorK30
import Derived.Test.YtlmcphcgiclanaaGreatDoorK29
import Derived.Test.YtlmcphcgiclanaaGreatDoorK28
import Derived.Test.YtlmcphcgiclanaaGreatDoorK26
import Derived.Test.YtlmcphcgiclanaaGreatDoorK18
import Derived.Test.YtlmcphcgiclanaaGreatDoorK17
import Derived.Test.YtlmcphcgiclanaaGreatDoorK3
set_option linter.unusedVariables false
set_option linter.unusedSimpArgs false
set_option linter.unnecessarySimpa false
namespace Go.Proofs.YtlmcphcgiclanaaGreatDoor
open Go.Bil
open Go.RowKit (Below)
open Go.Proofs
set_option maxHeartbeats 4000000 in
theorem mR (w : World) (a l : Int) (hl : 0 ≤ l ∧ l ≤ 2147483647) (bf : Nat) (fl : Bool) (F : Option Addr) (cf : Nat) (RF : Rd w 1 F 1 [[.pointer (some ⟨bf, 0, none⟩)]]) (hdF : 0 < 1 → ∀ q off, F = some ⟨q, off, none⟩ → q ∉ bU [(some bf, bc [.bool fl] 4)]) (hO : Own [(some bf, bc [.bool fl] 4)] w) :
    Calls Tryz.prog 85 #[.int .i64 a, .int .i64 l, .slice F 1 cf] w (fun ex w' => ∃ v, ex = .returned v ∧ (fun v w' => v = .int .i32 (gY a l) ∧ Mem w (bU [(some bf, bc [.bool fl] 4)]) [(some bf, bc [.bool (fl || decide (gY a l ≠ a))] 4)] w') v w') := by
  have hr := eQ a hl.1
  refine aJ #[.tmp 6] 34 Tryz.func85 rfl Tryz.results85 Tryz.ntmps85 rfl ?_
  have M0 := hO.mem
  refine aG (aB ?_)
  refine aA (aD (.int _ _) rfl) rfl rfl ?_
  refine aE (aF (aG (aB ?_)))
  refine aA (aC (.int _ _) rfl) rfl rfl ?_
  refine aA (aC (.int _ _) rfl) rfl rfl ?_
  refine aL aDj rfl rfl rfl ?_
  refine (tR _ a l (by omega)).mono ?_
  rintro _ w1 ⟨v1, rfl, ⟨rfl, hb1⟩⟩
  refine ⟨_, rfl, ?_⟩
  have M1 := M0.callB hb1
  refine aA (aC (.tuple (List.toArray _)) rfl) rfl rfl ?_
  refine aA (bE (.int _ _) rfl rfl) rfl rfl ?_
  refine aA (bE (.bool (decide _)) rfl rfl) rfl rfl ?_
  refine aA (aD (.int _ _) rfl) rfl rfl ?_
  refine aA (aD (.bool (decide _)) rfl) rfl rfl ?_
  refine aE (aF (aG (aG (aB ?_))))
  refine aA (aC (.slice _ _ _) rfl) rfl rfl ?_
  refine aA (cS Tryz.underlying175 rfl) rfl rfl ?_
  refine aM 18 (.int .i64 1) (iE rfl) ?_
  refine aA (aC (.int _ _) rfl) rfl rfl ?_
  refine aE (aF (bA ?_))
  refine mV 2 (mT ?_)
  refine aG (aB ?_)
  refine aA (aO (.bool (decide _)) rfl rfl rfl) rfl rfl ?_
  refine aM 20 (.bool true) (bT (by first | decide | omega)).symm ?_
  refine aE (aF (aG ?_))
  refine dP rfl ?_
  refine aN (aF (aG (bA (aG (aB ?_)))))
  refine aA (bO (0) aFv rfl rfl rfl ((RF.memY M1 hdF).below_len ((show ([[.pointer (some ⟨bf, 0, none⟩)]] : List (List Value))[0]? = some [.pointer (some ⟨bf, 0, none⟩)] from rfl))) ((RF.memY M1 hdF).someK ((show ([[.pointer (some ⟨bf, 0, none⟩)]] : List (List Value))[0]? = some [.pointer (some ⟨bf, 0, none⟩)] from rfl)))) rfl rfl ?_
  refine aA (jJ (.pointer _) aTj (RF.memY M1 hdF) ((show ([[.pointer (some ⟨bf, 0, none⟩)]] : List (List Value))[0]? = some [.pointer (some ⟨bf, 0, none⟩)] from rfl)) rfl) rfl rfl ?_
  refine aA (aD (.pointer _) rfl) rfl rfl ?_
  refine aE (aF (aB ?_))
  refine aA (aC (.pointer _) rfl) rfl rfl ?_
  refine aA (aC (.pointer _) rfl) rfl rfl ?_
  refine aA (aV rfl) rfl rfl ?_
  refine aA (aZ 0 (.bool _) lV M1 rfl rfl rfl) rfl rfl ?_
  refine aA (aC (.bool _) rfl) rfl rfl ?_
  refine iS 27 _ rfl (fun g27 => ?_) (fun g27 => ?_)
  · refine aT rfl rfl ?_
    refine aA (bP true (.bool true) rfl rfl) rfl rfl ?_
    refine aA (aV rfl) rfl rfl ?_
    refine eC 0 (.bool true) lV M1 rfl rfl rfl rfl rfl rfl (fun w2 M2 => ?_)
    refine aE ?_
    refine dJ ?_
    refine aF (aB ?_)
    refine aA (bX rfl rfl (by first | decide | omega) (by first | decide | omega)) rfl rfl ?_
    refine aM 31 (.int .i64 1) (iE (by first | decide | omega)) ?_
    refine aA (aC (.int _ _) rfl) rfl rfl ?_
    refine aE ?_
    refine aF (mT ?_)
    refine aG (aB ?_)
    refine aA (aO (.bool (decide _)) rfl rfl rfl) rfl rfl ?_
    refine aM 20 (.bool false) (bF (by first | decide | omega)).symm ?_
    refine aE (aF (aG ?_))
    refine cH rfl ?_
    refine cK ?_
    refine dB (dB ?_)
    refine eN ?_
    refine aF (aG (aB ?_))
    refine aA (aC (.int _ _) rfl) rfl rfl ?_
    refine aA (bR us2 Tryz.underlying21 rfl (jM _ (by omega) (by omega))) rfl rfl ?_
    refine aA (aD (.int _ _) rfl) rfl rfl ?_
    refine aE (aF (aR ?_))
    refine cI (.int _ _) rfl ?_
    first | exact ⟨rfl, by rw [(by simp only [g27, Bool.true_or] : (fl || decide (gY a l ≠ a)) = true)]; exact M2⟩ | exact ⟨rfl, by rw [(by simp only [g27, Bool.false_or] : (fl || decide (gY a l ≠ a)) = decide (gY a l ≠ a))]; exact M2⟩
  · refine aA (aC (.bool (decide _)) rfl) rfl rfl ?_
    refine aA (bP false (.bool (decide _)) rfl rfl) rfl rfl ?_
    refine aA (aV rfl) rfl rfl ?_
    refine eC 0 (.bool (decide _)) lV M1 rfl rfl rfl rfl rfl rfl (fun w3 M3 => ?_)
    refine aE ?_
    refine dJ ?_
    refine aF (aB ?_)
    refine aA (bX rfl rfl (by first | decide | omega) (by first | decide | omega)) rfl rfl ?_
    refine aM 31 (.int .i64 1) (iE (by first | decide | omega)) ?_
    refine aA (aC (.int _ _) rfl) rfl rfl ?_
    refine aE ?_
    refine aF (mT ?_)
    refine aG (aB ?_)
    refine aA (aO (.bool (decide _)) rfl rfl rfl) rfl rfl ?_
    refine aM 20 (.bool false) (bF (by first | decide | omega)).symm ?_
    refine aE (aF (aG ?_))
    refine cH rfl ?_
    refine cK ?_
    refine dB (dB ?_)
    refine eN ?_
    refine aF (aG (aB ?_))
    refine aA (aC (.int _ _) rfl) rfl rfl ?_
    refine aA (bR us2 Tryz.underlying21 rfl (jM _ (by omega) (by omega))) rfl rfl ?_
    refine aA (aD (.int _ _) rfl) rfl rfl ?_
    refine aE (aF (aR ?_))
    refine cI (.int _ _) rfl ?_
    first | exact ⟨rfl, by rw [(by simp only [g27, Bool.true_or] : (fl || decide (gY a l ≠ a)) = true)]; exact M3⟩ | exact ⟨rfl, by rw [(by simp only [g27, Bool.false_or] : (fl || decide (gY a l ≠ a)) = decide (gY a l ≠ a))]; exact M3⟩
set_option maxHeartbeats 4000000 in
theorem aJm (w : World) (i : Int) (b : Body) (hb : Okb b) (bf : Nat) (fl : Bool) (hO : Own [(some bf, bc [.bool fl] 4)] w) :
    Calls Tryz.prog 83 #[.int .i64 i, (.agg (aI b).toArray), .pointer (some ⟨bf, 0, none⟩)] w (fun ex w' => ∃ v, ex = .returned v ∧ (fun v w' => v = (.agg (aI (iF b)).toArray) ∧ Mem w (bU [(some bf, bc [.bool fl] 4)]) [(some bf, bc [.bool (fl || mF b)] 4)] w') v w') := by
  have hv := hb.v
  refine aJ #[.cell 5 40] 19 Tryz.func83 rfl Tryz.results83 Tryz.ntmps83 rfl ?_
  have M0 := hO.mem
  refine aG (aB ?_)
  refine bK (.agg (List.toArray _)) M0 rfl rfl rfl (fun b1 w1 M1 => ?_)
  refine aS kD M1 rfl rfl (fun b2 w2 M2 => ?_)
  refine aE (aF (aG (aG (aB ?_))))
  refine aA (bB 1 bW M2 rfl rfl rfl) rfl rfl ?_
  refine aL aWp rfl rfl rfl ?_
  refine (vM _ b).mono ?_
  rintro _ w3 ⟨v3, rfl, ⟨rfl, hb3⟩⟩
  refine ⟨_, rfl, ?_⟩
  have M3 := M2.callB hb3
  refine aA (nW rfl) rfl rfl ?_
  refine aE (aF ?_)
  refine aY rfl (fun h8 => ?_) (fun h8 => ?_)
  · refine aB ?_
    refine aA (aH 8 eF rfl) rfl rfl ?_
    refine aA (aH 1 dH rfl) rfl rfl ?_
    refine aA (aZ 1 (.int _ _) bH M3 rfl rfl rfl) rfl rfl ?_
    refine aA (bR fQ Tryz.underlying2 rfl (jL _ (by omega) (by omega))) rfl rfl ?_
    refine aA (mL rfl rfl (by omega) (by omega)) rfl rfl ?_
    refine cM [.pointer _] [[.pointer (some ⟨bf, 0, none⟩)]] rfl aFv M3 rfl rfl rfl rfl (cW rfl) (by decide) (fun b4 w4 M4 => ?_)
    have hlit14 := gW (T := 133) (sz := 1) (b := b4) (nn := 1) [[.pointer (some ⟨bf, 0, none⟩)]] (by simp) rfl (by decide)
    refine aL aLy rfl rfl rfl ?_
    refine (mR _ (b.vy - 1024) 16777216 ⟨by decide, by decide⟩ bf _ _ 1 (hlit14.rd M4 (aP (i := 3) rfl)) (hlit14.awayB M4 3 0 rfl rfl rfl) (M4.ownSeg 0 1)).mono ?_
    rintro _ w5 ⟨v5, rfl, ⟨rfl, hM5⟩⟩
    refine ⟨_, rfl, ?_⟩
    have M5 : Mem _ _ [_, _, _, _] _ := M4.seg 0 1 hM5
    refine aA (aH 8 eF rfl) rfl rfl ?_
    refine aA (aH 1 dH rfl) rfl rfl ?_
    refine eC 1 (.int _ _) bH M5 rfl rfl rfl rfl rfl rfl (fun w6 M6 => ?_)
    refine aE (aF (aG (aB ?_)))
    refine aA (bB 1 bW M6 rfl rfl rfl) rfl rfl ?_
    refine bJ 2 _ bW M6 rfl rfl rfl rfl rfl (aU rfl) rfl (fun w7 M7 => ?_)
    refine aE (aF (aR ?_))
    refine jZ 2 bW M7 rfl rfl rfl ?_
    exact ⟨by unfold iF; rw [if_neg h8]; rfl, by rw [show mF b = decide (gY (b.vy - 1024) 16777216 ≠ b.vy - 1024) by unfold mF; rw [decide_eq_true h8, Bool.true_and]]; exact M7.keep [true, false, false, false]⟩
  · refine aN (aF (aG (aB ?_)))
    refine aA (bB 1 bW M3 rfl rfl rfl) rfl rfl ?_
    refine bJ 2 _ bW M3 rfl rfl rfl rfl rfl (aU rfl) rfl (fun w8 M8 => ?_)
    refine aE (aF (aR ?_))
    refine jZ 2 bW M8 rfl rfl rfl ?_
    exact ⟨by unfold iF; rw [if_pos (Decidable.not_not.1 h8)]; rfl, by rw [show mF b = false by unfold mF; rw [decide_eq_false h8, Bool.false_and], Bool.or_false]; exact M8.keep [true, false, false]⟩
set_option maxHeartbeats 4000000 in
theorem aEf (w : World) (A : Option Addr) (n c : Nat) (xs : List Body) (R : Rd w 10 A n (xs.map aI)) (hb : ∀ b ∈ xs, Okb b) (hn : n ≤ 1048576) (bf : Nat) (hO : Own [(some bf, bc [.bool false] 4)] w) (hdA : 0 < n → ∀ q off, A = some ⟨q, off, none⟩ → q ∉ bU [(some bf, bc [.bool false] 4)]) :
    Calls Tryz.prog 82 #[.slice A n c, .func (.func 83) #[] #[.pointer (some ⟨bf, 0, none⟩)]] w (fun ex w' => ∃ v, ex = .returned v ∧ (fun v w' => ∃ r : Row, v = .slice r.A r.n r.c ∧ aX 40 10 r.A r.n r.c ((nZ xs).map aI) r.e ∧ Mem w (bU [(some bf, bc [.bool false] 4)]) [(some bf, bc [.bool (xs.any mF)] 4), r.e] w') v w') := by
  have hlen : xs.length = n := by simpa using R.len
  have hbd := R.bound
  refine aJ #[.tmp 4] 24 Tryz.func82 rfl Tryz.results82 Tryz.ntmps82 rfl ?_
  have M0 := hO.mem
  refine aG (aB ?_)
  refine aA (aD (.slice _ _ _) rfl) rfl rfl ?_
  refine aE (aF (aG (aB ?_)))
  refine aA (aD (.slice _ _ _) rfl) rfl rfl ?_
  have M1 := M0.dummy default
  refine aE (aF (aG (aG (aB ?_))))
  refine aA (aC (.slice _ _ _) rfl) rfl rfl ?_
  refine aA (cS Tryz.underlying22 rfl) rfl rfl ?_
  refine aA (aC (.int _ _) rfl) rfl rfl ?_
  refine aE (aF (bA ?_))
  refine dI (σ := Nat × Row) [1, 4, 8, 9] (fun (k, q) => [(5, .slice q.A q.n q.c), (10, .int .i64 (k : Int))]) (fun (k, q) w' => (k ≤ n ∧ aX 40 10 q.A q.n q.c (((xs.take k).map iF).map aI) q.e) ∧ Mem w (bU [(some bf, bc [.bool false] 4)]) [(some bf, bc [.bool ((xs.take k).any mF)] 4), q.e] w') (fun (k, q) => n - k) (0, gE) (bS rfl (bS rfl eV)) (⟨⟨by omega, aX.nil _ _ _⟩, M1⟩) ?_
  rintro ⟨k, q⟩ ρ2 w2 ⟨⟨hk, hq⟩, hM2⟩
  have htl := List.length_take_le k xs
  have hqn : (xs.take k).length = q.n := by simpa using hq.1
  refine aG (aB ?_)
  refine aA (aO (.bool (decide _)) rfl rfl rfl) rfl rfl ?_
  refine aE (aF (aG ?_))
  refine aY rfl (fun h11 => ?_) (fun h11 => ?_)
  · obtain ⟨xb, hxb⟩ := cN (xs := xs) (k := k) hlen (by omega)
    refine aN (aF (aG (bA (aG (aB ?_)))))
    refine aA (aC (.int _ _) rfl) rfl rfl ?_
    refine aA (bO (k) dD rfl rfl rfl ((R.memY hM2 hdA).below_len (aK aI hxb)) ((R.memY hM2 hdA).someK (aK aI hxb))) rfl rfl ?_
    refine aA (dO _ bW (R.memY hM2 hdA) (aK aI hxb) rfl) rfl rfl ?_
    refine aS kD hM2 rfl rfl (fun b3 w3 M3 => ?_)
    refine aA (aD (.int _ _) rfl) rfl rfl ?_
    refine bJ 2 _ bW M3 rfl rfl rfl rfl rfl (aU rfl) rfl (fun w4 M4 => ?_)
    refine aE (aF (aB ?_))
    refine aA (aC (.slice _ _ _) rfl) rfl rfl ?_
    refine aA (aC (.func _ _ _) rfl) rfl rfl ?_
    refine aA (aC (.int _ _) rfl) rfl rfl ?_
    refine aA (bB 2 bW M4 rfl rfl rfl) rfl rfl ?_
    refine aL aWx rfl rfl rfl ?_
    refine (aJm _ _ xb (hb xb (List.mem_of_getElem? hxb)) bf _ (M4.ownSeg 0 1)).mono ?_
    rintro _ w5 ⟨v5, rfl, ⟨rfl, hM5⟩⟩
    refine ⟨_, rfl, ?_⟩
    have M5 : Mem _ _ [_, _, _] _ := M4.seg 0 1 hM5
    refine cM [.agg (List.toArray _)] [aI (iF xb)] rfl dD M5 rfl rfl rfl rfl (cW rfl) (by decide) (fun b6 w6 M6 => ?_)
    refine dM 1 [aI (iF xb)] dD M6 rfl rfl rfl rfl rfl hq rfl (by simp [aI, Go.Bil.one]) (cO.ofMem 3 M6 rfl) (by omega) (fun A7 c7 e7 w7 M7 hR7 => ?_)
    refine aA (aD (.slice _ _ _) rfl) rfl rfl ?_
    refine aE ?_
    refine dJ ?_
    refine aF (aB ?_)
    refine aA (bX rfl rfl (by omega) (by omega)) rfl rfl ?_
    refine aA (aC (.int _ _) rfl) rfl rfl ?_
    refine aE ?_
    refine cF (k + 1, ⟨A7, q.n + 1, c7, e7⟩) (bS rfl (bS rfl eV)) (cL rfl (cL rfl (cL rfl (cL rfl iI)))) ?_ ?_
    · exact ⟨⟨by omega, by rw [cJ hxb, List.map_append, List.map_append]; exact hR7⟩, by rw [cJ hxb, List.any_append, List.any_cons, List.any_nil, Bool.or_false]; exact M7.keep [true, true, false, false]⟩
    · (show n - (k + 1) < n - k; omega)
  · have hkn : k = n := by omega
    rw [List.take_of_length_le (by omega)] at hq
    rw [List.take_of_length_le (by omega)] at hM2
    refine cK ?_
    refine dB ?_
    refine cY ?_
    refine eN ?_
    refine aF (aG (aB ?_))
    refine aA (aC (.slice _ _ _) rfl) rfl rfl ?_
    refine aA (aD (.slice _ _ _) rfl) rfl rfl ?_
    refine aE (aF (aR ?_))
    refine cI (.slice _ _ _) rfl ?_
    exact ⟨q, rfl, hq, hM2⟩
set_option maxHeartbeats 4000000 in
theorem rF (w : World) (A : Option Addr) (n c : Nat) (xs : List Body) (R : Rd w 10 A n (xs.map aI)) (hb : ∀ b ∈ xs, Okb b) (hn : n ≤ 1048576) :
    Calls Tryz.prog 53 #[.slice A n c] w (fun ex w' => ∃ v, ex = .returned v ∧ (fun v w' => ∃ r : Row, v = .tuple #[.slice r.A r.n r.c, .bool (xs.any mF)] ∧ aX 40 10 r.A r.n r.c ((nZ xs).map aI) r.e ∧ Mem w [] [r.e] w') v w') := by
  refine aJ #[.tmp 2, .tmp 3] 11 Tryz.func53 rfl Tryz.results53 Tryz.ntmps53 rfl ?_
  have M0 := Mem.refl w
  refine aG (aB ?_)
  refine aA (aD (.slice _ _ _) rfl) rfl rfl ?_
  refine aA (aD (.bool false) rfl) rfl rfl ?_
  refine aE (aF (aG (aB ?_)))
  refine aS aLd M0 rfl rfl (fun b1 w1 M1 => ?_)
  refine eC 0 (.bool false) lV M1 rfl rfl rfl rfl rfl rfl (fun w2 M2 => ?_)
  refine aE (aF (aG (aB ?_)))
  refine aA (aC (.slice _ _ _) rfl) rfl rfl ?_
  refine aA (dC [] [.pointer _] rfl rfl) rfl rfl ?_
  refine aL aRp rfl rfl rfl ?_
  refine (aEf _ A n c xs (R.mem M2) hb hn b1 (M2.ownSeg 0 1) (M2.away 0 1 R (by simp))).mono ?_
  rintro _ w3 ⟨v3, rfl, ⟨r, rfl, hr, hM3⟩⟩
  refine ⟨_, rfl, ?_⟩
  have M3 : Mem _ _ [_, _] _ := M2.seg 0 1 hM3
  refine aA (aD (.slice _ _ _) rfl) rfl rfl ?_
  refine aE (aF (aG ?_))
  refine bZ [(0, 0), (1, 1), (2, 0), (3, 0)] mixed rfl (by kernel_rfl) (fun w4 hb4 hh4 => ?_)
  have M4 := M3.drew hb4 hh4
  refine aW rfl rfl rfl (fun _ => aC (.slice _ _ _) rfl) ?_
  refine cB rfl rfl rfl (aZ 0 (.bool _) lV M4 rfl rfl rfl) ?_
  refine aW rfl rfl rfl (fun _ => aD (.slice _ _ _) rfl) ?_
  refine aW rfl rfl rfl (fun _ => aD (.bool _) rfl) ?_
  refine cE ?_
  refine aF (aR ?_)
  refine fG (.slice _ _ _) (.bool _) rfl rfl ?_
  exact ⟨r, rfl, hr, M4.keep [false, true]⟩
end Go.Proofs.YtlmcphcgiclanaaGreatDoor

namespace Go.Proofs.YtlmcphcgiclanaaGreatDoor
open Go.Bil
open Go.RowKit (Below)
open Go.Proofs
set_option maxHeartbeats 4000000 in
theorem aHq (w : World) (i : Nat) (b : Body) (hb : Okb b) (bf bl : Nat) (fl : Bool) (C : Option Addr) (m cm : Nat) (l : List (Int × Int)) (RS : Rd w 2 C m (l.map bQ)) (s : Int × Int) (hs : l[i]? = some s) (hsb : (-1152921504606846976 ≤ s.1 ∧ s.1 ≤ 1152921504606846976) ∧ -1152921504606846976 ≤ s.2 ∧ s.2 ≤ 1152921504606846976) (hO : Own [(some bf, bc [.bool fl] 4), (some bl, bc [.slice C m cm] 97)] w) (hdS : 0 < m → ∀ q off, C = some ⟨q, off, none⟩ → q ∉ bU [(some bf, bc [.bool fl] 4), (some bl, bc [.slice C m cm] 97)]) :
    Calls Tryz.prog 86 #[.int .i64 (i : Int), (.agg (aI b).toArray), .pointer (some ⟨bl, 0, none⟩), .pointer (some ⟨bf, 0, none⟩)] w (fun ex w' => ∃ v, ex = .returned v ∧ (fun v w' => v = (.agg (aI (pX b s.1 s.2)).toArray) ∧ Mem w (bU [(some bf, bc [.bool fl] 4), (some bl, bc [.slice C m cm] 97)]) [(some bf, bc [.bool (fl || aHz b s.1 s.2)] 4), (some bl, bc [.slice C m cm] 97)] w') v w') := by
  have hv := hb.v
  have hpp := hb.p
  have hlm : l.length = m := by simpa using RS.len
  have hil := (List.getElem?_eq_some_iff.1 hs).1
  refine aJ #[.cell 6 40] 50 Tryz.func86 rfl Tryz.results86 Tryz.ntmps86 rfl ?_
  have M0 := hO.mem
  refine aG (aB ?_)
  refine bK (.agg (List.toArray _)) M0 rfl rfl rfl (fun b1 w1 M1 => ?_)
  refine aS kD M1 rfl rfl (fun b2 w2 M2 => ?_)
  refine aE (aF (aG ?_))
  refine bZ [(0, 0), (1, 0), (2, 1), (3, 0), (4, 1), (5, 0), (6, 1), (7, 1), (8, 1), (9, 0), (10, 0), (11, 0), (12, 1), (13, 0), (14, 0), (15, 0), (16, 0)] mixed rfl (by kernel_rfl) (fun w3 hb3 hh3 => ?_)
  have M3 := M2.drew hb3 hh3
  refine aW rfl rfl rfl (fun _ => aH 6 eK rfl) ?_
  refine aW rfl rfl rfl (fun _ => aH 0 dQ rfl) ?_
  refine cB rfl rfl rfl (aZ 2 (.int _ _) bH M3 rfl rfl rfl) ?_
  refine aW rfl rfl rfl (fun _ => bR fQ Tryz.underlying2 rfl (jL _ (by omega) (by omega))) ?_
  refine cB rfl rfl rfl (aZ 1 (.slice _ _ _) xH M3 rfl rfl rfl) ?_
  refine aW rfl rfl rfl (fun _ => aC (.int _ _) rfl) ?_
  refine cB rfl rfl rfl (bO (i) aBk rfl rfl rfl ((RS.memY M3 hdS).below_len (aK bQ hs)) ((RS.memY M3 hdS).someK (aK bQ hs))) ?_
  refine cB rfl rfl rfl (bM 0 uC (RS.memY M3 hdS) (Nat.lt_of_le_of_lt (Nat.zero_le _) ((RS.memY M3 hdS).below_len (aK bQ hs))) rfl) ?_
  refine cB rfl rfl rfl (eI (o := 0) (.int _ _) jE (RS.memY M3 hdS) (aK bQ hs) rfl rfl) ?_
  refine aW rfl rfl rfl (fun _ => bX rfl rfl (by omega) (by omega)) ?_
  refine aW rfl rfl rfl (fun _ => aH 8 eF rfl) ?_
  refine aW rfl rfl rfl (fun _ => aH 0 dQ rfl) ?_
  refine cB rfl rfl rfl (aZ 2 (.int _ _) bH M3 rfl rfl rfl) ?_
  refine aW rfl rfl rfl (fun _ => gQ rfl rfl (by decide)) ?_
  refine mN 22 (.int .i32 (b.vx / 64)) (iE (aAn _)) ?_
  refine aW rfl rfl rfl (fun _ => bR fQ Tryz.underlying2 rfl (jL _ (by omega) (by omega))) ?_
  refine aW rfl rfl rfl (fun _ => bX rfl rfl (by omega) (by omega)) ?_
  refine mN 24 (.int .i64 (aEx b s.1)) rfl ?_
  refine aW rfl rfl rfl (fun _ => aD (.int _ _) rfl) ?_
  refine cE ?_
  refine aF (aG ?_)
  refine bZ [(0, 0), (1, 0), (2, 1), (3, 0), (4, 1), (5, 0), (6, 1), (7, 1), (8, 1), (9, 0), (10, 0), (11, 0), (12, 1), (13, 0), (14, 0), (15, 0), (16, 0)] mixed rfl (by kernel_rfl) (fun w4 hb4 hh4 => ?_)
  have M4 := M3.drew hb4 hh4
  refine aW rfl rfl rfl (fun _ => aH 6 eK rfl) ?_
  refine aW rfl rfl rfl (fun _ => aH 1 dH rfl) ?_
  refine cB rfl rfl rfl (aZ 2 (.int _ _) bH M4 rfl rfl rfl) ?_
  refine aW rfl rfl rfl (fun _ => bR fQ Tryz.underlying2 rfl (jL _ (by omega) (by omega))) ?_
  refine cB rfl rfl rfl (aZ 1 (.slice _ _ _) xH M4 rfl rfl rfl) ?_
  refine aW rfl rfl rfl (fun _ => aC (.int _ _) rfl) ?_
  refine cB rfl rfl rfl (bO (i) aBk rfl rfl rfl ((RS.memY M4 hdS).below_len (aK bQ hs)) ((RS.memY M4 hdS).someK (aK bQ hs))) ?_
  refine cB rfl rfl rfl (bM 1 tB (RS.memY M4 hdS) (Nat.lt_of_le_of_lt (Nat.zero_le _) ((RS.memY M4 hdS).below_len (aK bQ hs))) rfl) ?_
  refine cB rfl rfl rfl (eI (o := 1) (.int _ _) jE (RS.memY M4 hdS) (aK bQ hs) rfl rfl) ?_
  refine aW rfl rfl rfl (fun _ => bX rfl rfl (by omega) (by omega)) ?_
  refine aW rfl rfl rfl (fun _ => aH 8 eF rfl) ?_
  refine aW rfl rfl rfl (fun _ => aH 1 dH rfl) ?_
  refine cB rfl rfl rfl (aZ 2 (.int _ _) bH M4 rfl rfl rfl) ?_
  refine aW rfl rfl rfl (fun _ => gQ rfl rfl (by decide)) ?_
  refine mN 38 (.int .i32 (b.vy / 64)) (iE (aAn _)) ?_
  refine aW rfl rfl rfl (fun _ => bR fQ Tryz.underlying2 rfl (jL _ (by omega) (by omega))) ?_
  refine aW rfl rfl rfl (fun _ => bX rfl rfl (by omega) (by omega)) ?_
  refine mN 40 (.int .i64 (aEl b s.2)) rfl ?_
  refine aW rfl rfl rfl (fun _ => aD (.int _ _) rfl) ?_
  refine cE ?_
  refine aF (aG (aB ?_))
  refine aA (aC (.int _ _) rfl) rfl rfl ?_
  refine cM [.pointer _] [[.pointer (some ⟨bf, 0, none⟩)]] rfl aFv M4 rfl rfl rfl rfl (cW rfl) (by decide) (fun b5 w5 M5 => ?_)
  have hlit42 := gW (T := 133) (sz := 1) (b := b5) (nn := 1) [[.pointer (some ⟨bf, 0, none⟩)]] (by simp) rfl (by decide)
  refine aL aLy rfl rfl rfl ?_
  refine (mR _ (aEx b s.1) 1073741824 ⟨by decide, by decide⟩ bf _ _ 1 (hlit42.rd M5 (aP (i := 4) rfl)) (hlit42.awayB M5 4 0 rfl rfl rfl) (M5.ownSeg 0 1)).mono ?_
  rintro _ w6 ⟨v6, rfl, ⟨rfl, hM6⟩⟩
  refine ⟨_, rfl, ?_⟩
  have M6 : Mem _ _ [_, _, _, _, _] _ := M5.seg 0 1 hM6
  refine aA (aC (.int _ _) rfl) rfl rfl ?_
  refine cM [.pointer _] [[.pointer (some ⟨bf, 0, none⟩)]] rfl aFv M6 rfl rfl rfl rfl (cW rfl) (by decide) (fun b7 w7 M7 => ?_)
  have hlit45 := gW (T := 133) (sz := 1) (b := b7) (nn := 1) [[.pointer (some ⟨bf, 0, none⟩)]] (by simp) rfl (by decide)
  refine aL aLy rfl rfl rfl ?_
  refine (mR _ (aEl b s.2) 1073741824 ⟨by decide, by decide⟩ bf _ _ 1 (hlit45.rd M7 (aP (i := 5) rfl)) (hlit45.awayB M7 5 0 rfl rfl rfl) (M7.ownSeg 0 1)).mono ?_
  rintro _ w8 ⟨v8, rfl, ⟨rfl, hM8⟩⟩
  refine ⟨_, rfl, ?_⟩
  have M8 : Mem _ _ [_, _, _, _, _, _] _ := M7.seg 0 1 hM8
  refine aA (cC [(0, .int _ _), (1, .int _ _)] _ dY rfl rfl) rfl rfl ?_
  refine aA (aH 6 eK rfl) rfl rfl ?_
  refine qK 2 _ bI M8 rfl rfl rfl rfl rfl (aU rfl) (Nat.le_of_ble_eq_true rfl) (fun w9 M9 => ?_)
  refine aE (aF (aG (aB ?_)))
  refine aA (bB 2 bW M9 rfl rfl rfl) rfl rfl ?_
  refine bJ 3 _ bW M9 rfl rfl rfl rfl rfl (aU rfl) rfl (fun w10 M10 => ?_)
  refine aE (aF (aR ?_))
  refine jZ 3 bW M10 rfl rfl rfl ?_
  exact ⟨rfl, by rw [show (fl || aHz b s.1 s.2) = ((fl || decide (gY (aEx b s.1) 1073741824 ≠ aEx b s.1)) || decide (gY (aEl b s.2) 1073741824 ≠ aEl b s.2)) from (Bool.or_assoc _ _ _).symm]; exact M10.keep [true, true, false, false, false, false]⟩
end Go.Proofs.YtlmcphcgiclanaaGreatDoor

namespace Go.Proofs.YtlmcphcgiclanaaGreatDoor
open Go.Bil
open Go.RowKit (Below)
open Go.Proofs
set_option maxHeartbeats 4000000 in
theorem aDp (w : World) (A : Option Addr) (n c : Nat) (xs : List Body) (R : Rd w 10 A n (xs.map aI)) (hb : ∀ b ∈ xs, Okb b) (hn : n ≤ 1048576) (bf bl : Nat) (G : Body → Int × Int) (hG : ∀ b ∈ xs, (-1152921504606846976 ≤ (G b).1 ∧ (G b).1 ≤ 1152921504606846976) ∧ -1152921504606846976 ≤ (G b).2 ∧ (G b).2 ≤ 1152921504606846976) (C : Option Addr) (cm : Nat) (RS : Rd w 2 C n ((xs.map G).map bQ)) (hO : Own [(some bf, bc [.bool false] 4), (some bl, bc [.slice C n cm] 97)] w) (hdA : 0 < n → ∀ q off, A = some ⟨q, off, none⟩ → q ∉ bU [(some bf, bc [.bool false] 4), (some bl, bc [.slice C n cm] 97)]) (hdS : 0 < n → ∀ q off, C = some ⟨q, off, none⟩ → q ∉ bU [(some bf, bc [.bool false] 4), (some bl, bc [.slice C n cm] 97)]) :
    Calls Tryz.prog 82 #[.slice A n c, .func (.func 86) #[] #[.pointer (some ⟨bl, 0, none⟩), .pointer (some ⟨bf, 0, none⟩)]] w (fun ex w' => ∃ v, ex = .returned v ∧ (fun v w' => ∃ r : Row, v = .slice r.A r.n r.c ∧ aX 40 10 r.A r.n r.c ((xs.map (fun b => pX b (G b).1 (G b).2)).map aI) r.e ∧ Mem w (bU [(some bf, bc [.bool false] 4), (some bl, bc [.slice C n cm] 97)]) [(some bf, bc [.bool (xs.any (fun b => aHz b (G b).1 (G b).2))] 4), (some bl, bc [.slice C n cm] 97), r.e] w') v w') := by
  have hlen : xs.length = n := by simpa using R.len
  have hbd := R.bound
  refine aJ #[.tmp 4] 24 Tryz.func82 rfl Tryz.results82 Tryz.ntmps82 rfl ?_
  have M0 := hO.mem
  refine aG (aB ?_)
  refine aA (aD (.slice _ _ _) rfl) rfl rfl ?_
  refine aE (aF (aG (aB ?_)))
  refine aA (aD (.slice _ _ _) rfl) rfl rfl ?_
  have M1 := M0.dummy default
  refine aE (aF (aG (aG (aB ?_))))
  refine aA (aC (.slice _ _ _) rfl) rfl rfl ?_
  refine aA (cS Tryz.underlying22 rfl) rfl rfl ?_
  refine aA (aC (.int _ _) rfl) rfl rfl ?_
  refine aE (aF (bA ?_))
  refine dI (σ := Nat × Row) [1, 4, 8, 9] (fun (k, q) => [(5, .slice q.A q.n q.c), (10, .int .i64 (k : Int))]) (fun (k, q) w' => (k ≤ n ∧ aX 40 10 q.A q.n q.c (((xs.take k).map (fun b => pX b (G b).1 (G b).2)).map aI) q.e) ∧ Mem w (bU [(some bf, bc [.bool false] 4), (some bl, bc [.slice C n cm] 97)]) [(some bf, bc [.bool ((xs.take k).any (fun b => aHz b (G b).1 (G b).2))] 4), (some bl, bc [.slice C n cm] 97), q.e] w') (fun (k, q) => n - k) (0, gE) (bS rfl (bS rfl eV)) (⟨⟨by omega, aX.nil _ _ _⟩, M1⟩) ?_
  rintro ⟨k, q⟩ ρ2 w2 ⟨⟨hk, hq⟩, hM2⟩
  have htl := List.length_take_le k xs
  have hqn : (xs.take k).length = q.n := by simpa using hq.1
  refine aG (aB ?_)
  refine aA (aO (.bool (decide _)) rfl rfl rfl) rfl rfl ?_
  refine aE (aF (aG ?_))
  refine aY rfl (fun h11 => ?_) (fun h11 => ?_)
  · obtain ⟨xb, hxb⟩ := cN (xs := xs) (k := k) hlen (by omega)
    refine aN (aF (aG (bA (aG (aB ?_)))))
    refine aA (aC (.int _ _) rfl) rfl rfl ?_
    refine aA (bO (k) dD rfl rfl rfl ((R.memY hM2 hdA).below_len (aK aI hxb)) ((R.memY hM2 hdA).someK (aK aI hxb))) rfl rfl ?_
    refine aA (dO _ bW (R.memY hM2 hdA) (aK aI hxb) rfl) rfl rfl ?_
    refine aS kD hM2 rfl rfl (fun b3 w3 M3 => ?_)
    refine aA (aD (.int _ _) rfl) rfl rfl ?_
    refine bJ 3 _ bW M3 rfl rfl rfl rfl rfl (aU rfl) rfl (fun w4 M4 => ?_)
    refine aE (aF (aB ?_))
    refine aA (aC (.slice _ _ _) rfl) rfl rfl ?_
    refine aA (aC (.func _ _ _) rfl) rfl rfl ?_
    refine aA (aC (.int _ _) rfl) rfl rfl ?_
    refine aA (bB 3 bW M4 rfl rfl rfl) rfl rfl ?_
    refine aL aWi rfl rfl rfl ?_
    refine (aHq _ k xb (hb xb (List.mem_of_getElem? hxb)) bf bl _ C n cm (xs.map G) (RS.memY M4 hdS) (G xb) (aK G hxb) (hG xb (List.mem_of_getElem? hxb)) (M4.ownSeg 0 2) (M4.away 0 2 RS hdS)).mono ?_
    rintro _ w5 ⟨v5, rfl, ⟨rfl, hM5⟩⟩
    refine ⟨_, rfl, ?_⟩
    have M5 : Mem _ _ [_, _, _, _] _ := M4.seg 0 2 hM5
    refine cM [.agg (List.toArray _)] [aI (pX xb (G xb).1 (G xb).2)] rfl dD M5 rfl rfl rfl rfl (cW rfl) (by decide) (fun b6 w6 M6 => ?_)
    refine dM 2 [aI (pX xb (G xb).1 (G xb).2)] dD M6 rfl rfl rfl rfl rfl hq rfl (by simp [aI, Go.Bil.one]) (cO.ofMem 4 M6 rfl) (by omega) (fun A7 c7 e7 w7 M7 hR7 => ?_)
    refine aA (aD (.slice _ _ _) rfl) rfl rfl ?_
    refine aE ?_
    refine dJ ?_
    refine aF (aB ?_)
    refine aA (bX rfl rfl (by omega) (by omega)) rfl rfl ?_
    refine aA (aC (.int _ _) rfl) rfl rfl ?_
    refine aE ?_
    refine cF (k + 1, ⟨A7, q.n + 1, c7, e7⟩) (bS rfl (bS rfl eV)) (cL rfl (cL rfl (cL rfl (cL rfl iI)))) ?_ ?_
    · exact ⟨⟨by omega, by rw [cJ hxb, List.map_append, List.map_append]; exact hR7⟩, by rw [cJ hxb, List.any_append, List.any_cons, List.any_nil, Bool.or_false]; exact M7.keep [true, true, true, false, false]⟩
    · (show n - (k + 1) < n - k; omega)
  · have hkn : k = n := by omega
    rw [List.take_of_length_le (by omega)] at hq
    rw [List.take_of_length_le (by omega)] at hM2
    refine cK ?_
    refine dB ?_
    refine cY ?_
    refine eN ?_
    refine aF (aG (aB ?_))
    refine aA (aC (.slice _ _ _) rfl) rfl rfl ?_
    refine aA (aD (.slice _ _ _) rfl) rfl rfl ?_
    refine aE (aF (aR ?_))
    refine cI (.slice _ _ _) rfl ?_
    exact ⟨q, rfl, hq, hM2⟩
set_option maxHeartbeats 4000000 in
theorem aBn (w : World) (A : Option Addr) (n c : Nat) (xs : List Body) (R : Rd w 10 A n (xs.map aI)) (hb : ∀ b ∈ xs, Okb b) (hn : n ≤ 1048576) (G : Body → Int × Int) (hG : ∀ b ∈ xs, (-1152921504606846976 ≤ (G b).1 ∧ (G b).1 ≤ 1152921504606846976) ∧ -1152921504606846976 ≤ (G b).2 ∧ (G b).2 ≤ 1152921504606846976) (C : Option Addr) (cm : Nat) (RS : Rd w 2 C n ((xs.map G).map bQ)) :
    Calls Tryz.prog 54 #[.slice A n c, .slice C n cm] w (fun ex w' => ∃ v, ex = .returned v ∧ (fun v w' => ∃ r : Row, v = .tuple #[.slice r.A r.n r.c, .bool (xs.any (fun b => aHz b (G b).1 (G b).2))] ∧ aX 40 10 r.A r.n r.c ((xs.map (fun b => pX b (G b).1 (G b).2)).map aI) r.e ∧ Mem w [] [r.e] w') v w') := by
  refine aJ #[.tmp 4, .tmp 5] 13 Tryz.func54 rfl Tryz.results54 Tryz.ntmps54 rfl ?_
  have M0 := Mem.refl w
  refine aG (aB ?_)
  refine bK (.slice _ _ _) M0 rfl rfl rfl (fun b1 w1 M1 => ?_)
  refine aA (aD (.slice _ _ _) rfl) rfl rfl ?_
  refine aA (aD (.bool false) rfl) rfl rfl ?_
  refine aE (aF (aG (aB ?_)))
  refine aS aLd M1 rfl rfl (fun b2 w2 M2 => ?_)
  refine eC 1 (.bool false) lV M2 rfl rfl rfl rfl rfl rfl (fun w3 M3 => ?_)
  refine aE (aF (aG (aB ?_)))
  have M4 : Mem _ _ [_, _] _ := Mem.swap2 M3
  refine aA (aC (.slice _ _ _) rfl) rfl rfl ?_
  refine aA (dC [] [.pointer _, .pointer _] rfl rfl) rfl rfl ?_
  refine aL aRp rfl rfl rfl ?_
  refine (aDp _ A n c xs (R.mem M4) hb hn b2 b1 G hG C cm (RS.mem M4) (M4.ownSeg 0 2) (M4.away 0 2 R (by simp)) (M4.away 0 2 RS (by simp))).mono ?_
  rintro _ w5 ⟨v5, rfl, ⟨r, rfl, hr, hM5⟩⟩
  refine ⟨_, rfl, ?_⟩
  have M5 : Mem _ _ [_, _, _] _ := M4.seg 0 2 hM5
  refine aA (aD (.slice _ _ _) rfl) rfl rfl ?_
  refine aE (aF (aG ?_))
  refine bZ [(0, 0), (1, 1), (2, 0), (3, 0)] mixed rfl (by kernel_rfl) (fun w6 hb6 hh6 => ?_)
  have M6 := M5.drew hb6 hh6
  refine aW rfl rfl rfl (fun _ => aC (.slice _ _ _) rfl) ?_
  refine cB rfl rfl rfl (aZ 0 (.bool _) lV M6 rfl rfl rfl) ?_
  refine aW rfl rfl rfl (fun _ => aD (.slice _ _ _) rfl) ?_
  refine aW rfl rfl rfl (fun _ => aD (.bool _) rfl) ?_
  refine cE ?_
  refine aF (aR ?_)
  refine fG (.slice _ _ _) (.bool _) rfl rfl ?_
  exact ⟨r, rfl, hr, M6.keep [false, false, true]⟩
set_option maxHeartbeats 4000000 in
theorem aGv (w : World) (b : Body) (hb : Okb b) :
    Calls Tryz.prog 23 #[(.agg (aI b).toArray)] w (fun ex w' => ∃ v, ex = .returned v ∧ (fun v w' => v = (.agg (aI (aAm b)).toArray) ∧ Below w.heap.size w w') v w') := by
  refine aJ #[.cell 2 40] 20 Tryz.func23 rfl Tryz.results23 Tryz.ntmps23 rfl ?_
  have M0 := Mem.refl w
  refine aG (aB ?_)
  refine bK (.agg (List.toArray _)) M0 rfl rfl rfl (fun b1 w1 M1 => ?_)
  refine aS kD M1 rfl rfl (fun b2 w2 M2 => ?_)
  refine aE (aF (aG (aB ?_)))
  refine aA (bB 0 bW M2 rfl rfl rfl) rfl rfl ?_
  refine cM [.agg (List.toArray _)] [aI (b)] rfl dD M2 rfl rfl rfl rfl (cW rfl) (by decide) (fun b3 w3 M3 => ?_)
  have hlit7 := gW (T := 40) (b := b3) (nn := 1) (([b] : List Body).map aI) (lL _) rfl (by decide)
  refine aL aRw rfl rfl rfl ?_
  refine (rF _ _ _ _ [b] (hlit7.rd M3 (aP (i := 2) rfl)) (by intro y hy; rw [List.mem_singleton] at hy; subst hy; exact hb) (by decide)).mono ?_
  rintro _ w4 ⟨v4, rfl, ⟨⟨rA, rn, rc, re⟩, rfl, hr, hM4⟩⟩
  refine ⟨_, rfl, ?_⟩
  obtain rfl : rn = 1 := hr.1.symm
  have M4 : Mem _ _ [_, _, _, _] _ := M3.call0 hM4
  refine aA (aC (.tuple (List.toArray _)) rfl) rfl rfl ?_
  refine aA (bE (.slice _ _ _) rfl rfl) rfl rfl ?_
  refine aA (bE (.bool _) rfl rfl) rfl rfl ?_
  refine aA (aD (.slice _ _ _) rfl) rfl rfl ?_
  refine aA (aD (.bool _) rfl) rfl rfl ?_
  refine aE (aF (aG (aB ?_)))
  refine aA (aC (.slice _ _ _) rfl) rfl rfl ?_
  refine fS (1) [.int .i64 0, .int .i64 0] aBk aFc rfl M4 rfl rfl rfl rfl rfl rfl (by omega) (by omega) (fun b5 w5 M5 => ?_)
  have hL13 := gW (T := 135) (sz := 2) (b := b5) (nn := 1) (([iF b].map (fun _ => ((0, 0) : Int × Int))).map bQ) (aJr _) rfl (by omega)
  refine aL aRg rfl rfl rfl ?_
  refine (aBn _ rA 1 rc [iF b] (hr.rd M5 (aP (i := 3) rfl)) (by intro y hy; rw [List.mem_singleton] at hy; subst hy; exact aBp hb) (by decide) (fun _ => (0, 0)) (fun _ _ => ⟨⟨by decide, by decide⟩, by decide, by decide⟩) _ _ (hL13.rd M5 (aP (i := 4) rfl))).mono ?_
  rintro _ w6 ⟨v6, rfl, ⟨r2, rfl, hr2, hM6⟩⟩
  refine ⟨_, rfl, ?_⟩
  have M6 : Mem _ _ [_, _, _, _, _, _] _ := M5.call0 hM6
  refine aA (aC (.tuple (List.toArray _)) rfl) rfl rfl ?_
  refine aA (bE (.slice _ _ _) rfl rfl) rfl rfl ?_
  refine aA (bE (.bool _) rfl rfl) rfl rfl ?_
  refine aA (aD (.slice _ _ _) rfl) rfl rfl ?_
  refine aE (aF (aG (aB ?_)))
  refine aA (aC (.slice _ _ _) rfl) rfl rfl ?_
  refine aA (bO (0) dD rfl rfl rfl ((hr2.rd M6 (aP (i := 5) rfl)).below_len ((show (([iF b].map (fun b => pX b 0 0)).map aI)[0]? = some (aI (aAm b)) from rfl))) ((hr2.rd M6 (aP (i := 5) rfl)).someK ((show (([iF b].map (fun b => pX b 0 0)).map aI)[0]? = some (aI (aAm b)) from rfl)))) rfl rfl ?_
  refine aA (dO _ bW (hr2.rd M6 (aP (i := 5) rfl)) ((show (([iF b].map (fun b => pX b 0 0)).map aI)[0]? = some (aI (aAm b)) from rfl)) rfl) rfl rfl ?_
  refine bJ 1 _ bW M6 rfl rfl rfl rfl rfl (aU rfl) rfl (fun w7 M7 => ?_)
  refine aE (aF (aR ?_))
  refine jZ 1 bW M7 rfl rfl rfl ?_
  exact ⟨rfl, M7.below⟩
end Go.Proofs.YtlmcphcgiclanaaGreatDoor

namespace Go.Proofs.YtlmcphcgiclanaaGreatDoor
open Go.Bil
open Go.RowKit (Below)
open Go.Proofs
set_option maxHeartbeats 4000000 in
theorem aDg (w : World) (bs : Nat) (vr lr : Row) (tt mm : Int) (cl : Bool) (A : Option Addr) (n c : Nat) (q : Row) (c2 : Bool) (hO : Own [(some bs, bc [.slice A n c, .slice vr.A vr.n vr.c, .slice lr.A lr.n lr.c, .int .i64 tt, .int .i64 mm, .bool cl] 84)] w) :
    Calls Tryz.prog 72 #[.pointer (some ⟨bs, 0, none⟩), .slice q.A q.n q.c, .bool c2] w (fun ex w' => ∃ v, ex = .returned v ∧ (fun v w' => v = .tuple #[] ∧ Mem w (bU [(some bs, bc [.slice A n c, .slice vr.A vr.n vr.c, .slice lr.A lr.n lr.c, .int .i64 tt, .int .i64 mm, .bool cl] 84)]) [(some bs, bc [.slice A n c, .slice q.A q.n q.c, .slice lr.A lr.n lr.c, .int .i64 tt, .int .i64 mm, .bool (cl || c2)] 84)] w') v w') := by
  refine aJ #[] 22 Tryz.func72 rfl Tryz.results72 Tryz.ntmps72 rfl ?_
  have M0 := hO.mem
  refine aG (aB ?_)
  refine aA (aC (.pointer _) rfl) rfl rfl ?_
  refine aA (aC (.slice _ _ _) rfl) rfl rfl ?_
  refine aA (aV rfl) rfl rfl ?_
  refine aA (aH 1 sF rfl) rfl rfl ?_
  refine eC 0 (.slice _ _ _) jX M0 rfl rfl rfl rfl rfl rfl (fun w1 M1 => ?_)
  refine aE (aF (aB ?_))
  refine aA (aC (.pointer _) rfl) rfl rfl ?_
  refine aA (aC (.pointer _) rfl) rfl rfl ?_
  refine aA (aV rfl) rfl rfl ?_
  refine aA (aH 3 nC rfl) rfl rfl ?_
  refine aA (aH 2 lF rfl) rfl rfl ?_
  refine aA (aZ 0 (.bool _) lV M1 rfl rfl rfl) rfl rfl ?_
  refine aA (aC (.bool _) rfl) rfl rfl ?_
  refine iS 16 _ rfl (fun g16 => ?_) (fun g16 => ?_)
  · refine aT rfl rfl ?_
    refine aA (bP true (.bool true) rfl rfl) rfl rfl ?_
    refine aA (aV rfl) rfl rfl ?_
    refine aA (aH 3 nC rfl) rfl rfl ?_
    refine aA (aH 2 lF rfl) rfl rfl ?_
    refine eC 0 (.bool true) lV M1 rfl rfl rfl rfl rfl rfl (fun w2 M2 => ?_)
    refine aE ?_
    refine gM ?_
    first | exact ⟨rfl, by rw [(by simp only [g16, Bool.true_or] : (cl || c2) = true)]; exact M2⟩ | exact ⟨rfl, by rw [(by simp only [g16, Bool.false_or] : (cl || c2) = c2)]; exact M2⟩
  · refine aA (aC (.bool _) rfl) rfl rfl ?_
    refine aA (bP false (.bool _) rfl rfl) rfl rfl ?_
    refine aA (aV rfl) rfl rfl ?_
    refine aA (aH 3 nC rfl) rfl rfl ?_
    refine aA (aH 2 lF rfl) rfl rfl ?_
    refine eC 0 (.bool _) lV M1 rfl rfl rfl rfl rfl rfl (fun w3 M3 => ?_)
    refine aE ?_
    refine gM ?_
    first | exact ⟨rfl, by rw [(by simp only [g16, Bool.true_or] : (cl || c2) = true)]; exact M3⟩ | exact ⟨rfl, by rw [(by simp only [g16, Bool.false_or] : (cl || c2) = c2)]; exact M3⟩
set_option maxHeartbeats 4000000 in
theorem aQg (w : World) (F : Rd w 2 (some ⟨0, 0, none⟩) 1 [[.int .u32 73856093, .int .u32 19349663]]) (N : Rd w 4 (some ⟨3, 0, none⟩) 1 [cT gT]) (bs : Nat) (vr lr : Row) (tt mm : Int) (cl : Bool) (A : Option Addr) (n c : Nat) (xs : List Body) (R : Rd w 10 A n (xs.map aI)) (hb : ∀ b ∈ xs, Okb b) (hs : bL xs) (hn : n ≤ 4096) (hO : Own [(some bs, bc [.slice A n c, .slice vr.A vr.n vr.c, .slice lr.A lr.n lr.c, .int .i64 tt, .int .i64 mm, .bool cl] 84)] w) (hdA : 0 < n → ∀ q off, A = some ⟨q, off, none⟩ → q ∉ bU [(some bs, bc [.slice A n c, .slice vr.A vr.n vr.c, .slice lr.A lr.n lr.c, .int .i64 tt, .int .i64 mm, .bool cl] 84)]) (hdF : 0 < 1 → ∀ q off, (some ⟨0, 0, none⟩ : Option Addr) = some ⟨q, off, none⟩ → q ∉ bU [(some bs, bc [.slice A n c, .slice vr.A vr.n vr.c, .slice lr.A lr.n lr.c, .int .i64 tt, .int .i64 mm, .bool cl] 84)]) (hdN : 0 < 1 → ∀ q off, (some ⟨3, 0, none⟩ : Option Addr) = some ⟨q, off, none⟩ → q ∉ bU [(some bs, bc [.slice A n c, .slice vr.A vr.n vr.c, .slice lr.A lr.n lr.c, .int .i64 tt, .int .i64 mm, .bool cl] 84)]) :
    Calls Tryz.prog 40 #[.pointer (some ⟨bs, 0, none⟩)] w (fun ex w' => ∃ v, ex = .returned v ∧ (fun v w' => v = .tuple #[] ∧ ∃ (r : Row) (m : Nat), (iQ xs).length ≤ m ∧ 2 * m ≤ xs.length * (xs.length - 1) ∧ aX 121 5 r.A r.n r.c ((jN xs).map bY) r.e ∧ Mem w (bU [(some bs, bc [.slice A n c, .slice vr.A vr.n vr.c, .slice lr.A lr.n lr.c, .int .i64 tt, .int .i64 mm, .bool cl] 84)]) [(some bs, bc [.slice A n c, .slice vr.A vr.n vr.c, .slice r.A r.n r.c, .int .i64 (m : Int), .int .i64 (r.n : Int), .bool cl] 84), r.e] w') v w') := by
  refine aJ #[] 26 Tryz.func40 rfl Tryz.results40 Tryz.ntmps40 rfl ?_
  have M0 := hO.mem
  refine aG (aB ?_)
  refine aA (aC (.pointer _) rfl) rfl rfl ?_
  refine aA (aC (.pointer _) rfl) rfl rfl ?_
  refine aA (aC (.pointer _) rfl) rfl rfl ?_
  refine aA (aV rfl) rfl rfl ?_
  refine aA (aH 0 xL rfl) rfl rfl ?_
  refine aA (aZ 0 (.slice _ _ _) jX M0 rfl rfl rfl) rfl rfl ?_
  refine aL aWo rfl rfl rfl ?_
  refine (xV _ (F.memY M0 hdF) (N.memY M0 hdN) A n c xs (R.memY M0 hdA) hb hs hn).mono ?_
  rintro _ w1 ⟨v1, rfl, ⟨r, m, rfl, hm1, hm2, hr, hM1⟩⟩
  refine ⟨_, rfl, ?_⟩
  have M1 : Mem _ _ [_, _] _ := M0.call0 hM1
  refine aA (aC (.tuple (List.toArray _)) rfl) rfl rfl ?_
  refine aA (bE (.slice _ _ _) rfl rfl) rfl rfl ?_
  refine aA (bE (.int _ _) rfl rfl) rfl rfl ?_
  refine aA (aV rfl) rfl rfl ?_
  refine aA (aH 2 sC rfl) rfl rfl ?_
  refine eC 0 (.slice _ _ _) mK M1 rfl rfl rfl rfl rfl rfl (fun w2 M2 => ?_)
  refine aA (aV rfl) rfl rfl ?_
  refine aA (aH 3 nC rfl) rfl rfl ?_
  refine aA (aH 0 sL rfl) rfl rfl ?_
  refine eC 0 (.int _ _) kT M2 rfl rfl rfl rfl rfl rfl (fun w3 M3 => ?_)
  refine aE (aF (aB ?_))
  refine aA (aC (.pointer _) rfl) rfl rfl ?_
  refine aA (aC (.pointer _) rfl) rfl rfl ?_
  refine aA (aV rfl) rfl rfl ?_
  refine aA (aH 2 sC rfl) rfl rfl ?_
  refine aA (aZ 0 (.slice _ _ _) mK M3 rfl rfl rfl) rfl rfl ?_
  refine aA (cS Tryz.underlying82 rfl) rfl rfl ?_
  refine aA (aV rfl) rfl rfl ?_
  refine aA (aH 3 nC rfl) rfl rfl ?_
  refine aA (aH 1 sI rfl) rfl rfl ?_
  refine eC 0 (.int _ _) kT M3 rfl rfl rfl rfl rfl rfl (fun w4 M4 => ?_)
  refine aE ?_
  refine gM ?_
  exact ⟨rfl, r, m, hm1, hm2, hr, M4⟩
set_option maxHeartbeats 4000000 in
theorem aOr (w : World) (bs : Nat) (vr lr : Row) (tt mm : Int) (cl : Bool) (A : Option Addr) (n c : Nat) (xs : List Body) (R : Rd w 10 A n (xs.map aI)) (hb : ∀ b ∈ xs, Okb b) (hn : n ≤ 1048576) (hO : Own [(some bs, bc [.slice A n c, .slice vr.A vr.n vr.c, .slice lr.A lr.n lr.c, .int .i64 tt, .int .i64 mm, .bool cl] 84)] w) (hdA : 0 < n → ∀ q off, A = some ⟨q, off, none⟩ → q ∉ bU [(some bs, bc [.slice A n c, .slice vr.A vr.n vr.c, .slice lr.A lr.n lr.c, .int .i64 tt, .int .i64 mm, .bool cl] 84)]) :
    Calls Tryz.prog 41 #[.pointer (some ⟨bs, 0, none⟩)] w (fun ex w' => ∃ v, ex = .returned v ∧ (fun v w' => v = .tuple #[] ∧ ∃ r : Row, aX 40 10 r.A r.n r.c ((nZ xs).map aI) r.e ∧ Mem w (bU [(some bs, bc [.slice A n c, .slice vr.A vr.n vr.c, .slice lr.A lr.n lr.c, .int .i64 tt, .int .i64 mm, .bool cl] 84)]) [(some bs, bc [.slice A n c, .slice r.A r.n r.c, .slice lr.A lr.n lr.c, .int .i64 tt, .int .i64 mm, .bool (cl || xs.any mF)] 84), r.e] w') v w') := by
  refine aJ #[] 11 Tryz.func41 rfl Tryz.results41 Tryz.ntmps41 rfl ?_
  have M0 := hO.mem
  refine aB ?_
  refine aA (aC (.pointer _) rfl) rfl rfl ?_
  refine aA (aC (.pointer _) rfl) rfl rfl ?_
  refine aA (aV rfl) rfl rfl ?_
  refine aA (aH 0 xL rfl) rfl rfl ?_
  refine aA (aZ 0 (.slice _ _ _) jX M0 rfl rfl rfl) rfl rfl ?_
  refine aL aRw rfl rfl rfl ?_
  refine (rF _ A n c xs (R.memY M0 hdA) hb hn).mono ?_
  rintro _ w1 ⟨v1, rfl, ⟨r, rfl, hr, hM1⟩⟩
  refine ⟨_, rfl, ?_⟩
  have M1 : Mem _ _ [_, _] _ := M0.call0 hM1
  refine aA (bE (.slice _ _ _) rfl rfl) rfl rfl ?_
  refine aA (bE (.bool _) rfl rfl) rfl rfl ?_
  refine aL aLo rfl rfl rfl ?_
  refine (aDg _ bs vr lr tt mm cl A n c r _ (M1.ownSeg 0 1)).mono ?_
  rintro _ w2 ⟨v2, rfl, ⟨rfl, hM2⟩⟩
  refine ⟨_, rfl, ?_⟩
  have M2 : Mem _ _ [_, _] _ := M1.seg 0 1 hM2
  refine aE ?_
  refine gM ?_
  exact ⟨rfl, r, hr, M2⟩
set_option maxHeartbeats 4000000 in
theorem aMt (w : World) (bs : Nat) (vr lr : Row) (tt mm : Int) (cl : Bool) (A : Option Addr) (n c : Nat) (ys : List Body) (cs : List Con) (RV : Rd w 10 vr.A vr.n (ys.map aI)) (RL : Rd w 5 lr.A lr.n (cs.map bY)) (hs : bL ys) (hb : ∀ b ∈ ys, Okb b) (hn : vr.n ≤ 1048576) (hcs : ∀ c ∈ cs, OkC ys c) (hmc : lr.n ≤ 8589934592) (hO : Own [(some bs, bc [.slice A n c, .slice vr.A vr.n vr.c, .slice lr.A lr.n lr.c, .int .i64 tt, .int .i64 mm, .bool cl] 84)] w) (hdV : 0 < vr.n → ∀ q off, vr.A = some ⟨q, off, none⟩ → q ∉ bU [(some bs, bc [.slice A n c, .slice vr.A vr.n vr.c, .slice lr.A lr.n lr.c, .int .i64 tt, .int .i64 mm, .bool cl] 84)]) (hdL : 0 < lr.n → ∀ q off, lr.A = some ⟨q, off, none⟩ → q ∉ bU [(some bs, bc [.slice A n c, .slice vr.A vr.n vr.c, .slice lr.A lr.n lr.c, .int .i64 tt, .int .i64 mm, .bool cl] 84)]) :
    Calls Tryz.prog 42 #[.pointer (some ⟨bs, 0, none⟩)] w (fun ex w' => ∃ v, ex = .returned v ∧ (fun v w' => v = .tuple #[] ∧ ∃ r : Row, aX 40 10 r.A r.n r.c (((fN ys cs 4).1).map aI) r.e ∧ Mem w (bU [(some bs, bc [.slice A n c, .slice vr.A vr.n vr.c, .slice lr.A lr.n lr.c, .int .i64 tt, .int .i64 mm, .bool cl] 84)]) [(some bs, bc [.slice A n c, .slice r.A r.n r.c, .slice lr.A lr.n lr.c, .int .i64 tt, .int .i64 mm, .bool (cl || (fN ys cs 4).2)] 84), r.e] w') v w') := by
  refine aJ #[] 15 Tryz.func42 rfl Tryz.results42 Tryz.ntmps42 rfl ?_
  have M0 := hO.mem
  refine bZ [(0, 0), (1, 0), (2, 0), (3, 0), (4, 1), (5, 0), (6, 0), (7, 0), (8, 1), (9, 2), (10, 0), (11, 0), (12, 2)] mixed rfl (by kernel_rfl) (fun w1 hb1 hh1 => ?_)
  have M1 := M0.drew hb1 hh1
  refine aW rfl rfl rfl (fun _ => aC (.pointer _) rfl) ?_
  refine aW rfl rfl rfl (fun _ => aC (.pointer _) rfl) ?_
  refine aW rfl rfl rfl (fun _ => aV rfl) ?_
  refine aW rfl rfl rfl (fun _ => aH 1 sF rfl) ?_
  refine cB rfl rfl rfl (aZ 0 (.slice _ _ _) jX M1 rfl rfl rfl) ?_
  refine aW rfl rfl rfl (fun _ => aC (.pointer _) rfl) ?_
  refine aW rfl rfl rfl (fun _ => aV rfl) ?_
  refine aW rfl rfl rfl (fun _ => aH 2 sC rfl) ?_
  refine cB rfl rfl rfl (aZ 0 (.slice _ _ _) mK M1 rfl rfl rfl) ?_
  refine eB [true, true] rfl (by kernel_rfl) ?_
  refine aL aWc rfl rfl rfl ?_
  refine (aGk _ vr.A vr.n vr.c ys (RV.memY M1 hdV) hs hb hn lr.A lr.n lr.c cs (RL.memY M1 hdL) hcs hmc).mono ?_
  rintro _ w2 ⟨v2, rfl, ⟨r, rfl, hr, hM2⟩⟩
  refine ⟨_, rfl, ?_⟩
  have M2 : Mem _ _ [_, _] _ := M1.call0 hM2
  refine aE (aF ⟨dZ, ?_⟩)
  refine aW rfl rfl rfl (fun _ => bE (.slice _ _ _) rfl rfl) ?_
  refine aW rfl rfl rfl (fun _ => bE (.bool _) rfl rfl) ?_
  refine eB [] rfl (by kernel_rfl) ?_
  refine aL aLo rfl rfl rfl ?_
  refine (aDg _ bs vr lr tt mm cl A n c r _ (M2.ownSeg 0 1)).mono ?_
  rintro _ w3 ⟨v3, rfl, ⟨rfl, hM3⟩⟩
  refine ⟨_, rfl, ?_⟩
  have M3 : Mem _ _ [_, _] _ := M2.seg 0 1 hM3
  refine aE (aF ⟨dZ, ?_⟩)
  refine cE ?_
  refine gM ?_
  exact ⟨rfl, r, hr, M3⟩
set_option maxHeartbeats 4000000 in
theorem aQt (w : World) (bs : Nat) (vr lr : Row) (tt mm : Int) (cl : Bool) (A : Option Addr) (n c : Nat) (xs : List Body) (R : Rd w 10 A n (xs.map aI)) (ys : List Body) (cs : List Con) (RV : Rd w 10 vr.A vr.n (ys.map aI)) (RL : Rd w 5 lr.A lr.n (cs.map bY)) (hs : bL xs) (hb : ∀ b ∈ xs, Okb b) (hb2 : ∀ b ∈ ys, Okb b) (hn : n ≤ 1048576) (hvn : vr.n = n) (hcs : ∀ c ∈ cs, OkC xs c) (hmc : lr.n ≤ 1073741824) (hsh : xs.map (gB xs cs) = ys.map (gB xs cs)) (hG : ∀ b ∈ ys, (-1152921504606846976 ≤ (gB xs cs b).1 ∧ (gB xs cs b).1 ≤ 1152921504606846976) ∧ -1152921504606846976 ≤ (gB xs cs b).2 ∧ (gB xs cs b).2 ≤ 1152921504606846976) (hO : Own [(some bs, bc [.slice A n c, .slice vr.A vr.n vr.c, .slice lr.A lr.n lr.c, .int .i64 tt, .int .i64 mm, .bool cl] 84)] w) (hdA : 0 < n → ∀ q off, A = some ⟨q, off, none⟩ → q ∉ bU [(some bs, bc [.slice A n c, .slice vr.A vr.n vr.c, .slice lr.A lr.n lr.c, .int .i64 tt, .int .i64 mm, .bool cl] 84)]) (hdV : 0 < vr.n → ∀ q off, vr.A = some ⟨q, off, none⟩ → q ∉ bU [(some bs, bc [.slice A n c, .slice vr.A vr.n vr.c, .slice lr.A lr.n lr.c, .int .i64 tt, .int .i64 mm, .bool cl] 84)]) (hdL : 0 < lr.n → ∀ q off, lr.A = some ⟨q, off, none⟩ → q ∉ bU [(some bs, bc [.slice A n c, .slice vr.A vr.n vr.c, .slice lr.A lr.n lr.c, .int .i64 tt, .int .i64 mm, .bool cl] 84)]) :
    Calls Tryz.prog 43 #[.pointer (some ⟨bs, 0, none⟩)] w (fun ex w' => ∃ v, ex = .returned v ∧ (fun v w' => v = .tuple #[] ∧ ∃ r : Row, aX 40 10 r.A r.n r.c ((aFa xs cs ys).map aI) r.e ∧ Mem w (bU [(some bs, bc [.slice A n c, .slice vr.A vr.n vr.c, .slice lr.A lr.n lr.c, .int .i64 tt, .int .i64 mm, .bool cl] 84)]) [(some bs, bc [.slice A n c, .slice r.A r.n r.c, .slice lr.A lr.n lr.c, .int .i64 tt, .int .i64 mm, .bool (cl || aNy xs cs ys)] 84), r.e] w') v w') := by
  have hlen : xs.length = n := by simpa using R.len
  refine aJ #[] 20 Tryz.func43 rfl Tryz.results43 Tryz.ntmps43 rfl ?_
  have M0 := hO.mem
  refine bZ [(0, 0), (1, 0), (2, 0), (3, 0), (4, 1), (5, 0), (6, 0), (7, 0), (8, 1), (9, 0), (10, 0), (11, 0), (12, 1), (13, 2), (14, 2), (15, 0), (16, 0), (17, 2)] mixed rfl (by kernel_rfl) (fun w1 hb1 hh1 => ?_)
  have M1 := M0.drew hb1 hh1
  refine aW rfl rfl rfl (fun _ => aC (.pointer _) rfl) ?_
  refine aW rfl rfl rfl (fun _ => aC (.pointer _) rfl) ?_
  refine aW rfl rfl rfl (fun _ => aV rfl) ?_
  refine aW rfl rfl rfl (fun _ => aH 1 sF rfl) ?_
  refine cB rfl rfl rfl (aZ 0 (.slice _ _ _) jX M1 rfl rfl rfl) ?_
  refine aW rfl rfl rfl (fun _ => aC (.pointer _) rfl) ?_
  refine aW rfl rfl rfl (fun _ => aV rfl) ?_
  refine aW rfl rfl rfl (fun _ => aH 0 xL rfl) ?_
  refine cB rfl rfl rfl (aZ 0 (.slice _ _ _) jX M1 rfl rfl rfl) ?_
  refine aW rfl rfl rfl (fun _ => aC (.pointer _) rfl) ?_
  refine aW rfl rfl rfl (fun _ => aV rfl) ?_
  refine aW rfl rfl rfl (fun _ => aH 2 sC rfl) ?_
  refine cB rfl rfl rfl (aZ 0 (.slice _ _ _) mK M1 rfl rfl rfl) ?_
  refine eB [true, true, false] rfl (by kernel_rfl) ?_
  refine aL aXf rfl rfl rfl ?_
  refine (aEc _ A n c xs (R.memY M1 hdA) hs hb hn lr.A lr.n lr.c cs (RL.memY M1 hdL) hcs hmc).mono ?_
  rintro _ w2 ⟨v2, rfl, ⟨⟨qA, qn, qc, qe⟩, rfl, hq, hM2⟩⟩
  refine ⟨_, rfl, ?_⟩
  have hqn : xs.length = qn := by simpa using hq.1
  obtain rfl : qn = vr.n := by omega
  rw [hsh] at hq
  have M2 : Mem _ _ [_, _] _ := M1.call0 hM2
  refine aE (aF ⟨(kO (dG rfl (aZ 0 (.slice _ _ _) jX M2 rfl rfl rfl)) dZ), ?_⟩)
  refine eB [true] rfl (by kernel_rfl) ?_
  refine aL aRg rfl rfl rfl ?_
  refine (aBn _ vr.A vr.n vr.c ys (RV.memY M2 hdV) hb2 (by omega) (gB xs cs) hG qA qc (hq.rd M2 (aP (i := 1) rfl))).mono ?_
  rintro _ w3 ⟨v3, rfl, ⟨r, rfl, hr, hM3⟩⟩
  refine ⟨_, rfl, ?_⟩
  have M3 : Mem _ _ [_, _, _] _ := M2.call0 hM3
  refine aE (aF ⟨dZ, ?_⟩)
  refine aW rfl rfl rfl (fun _ => bE (.slice _ _ _) rfl rfl) ?_
  refine aW rfl rfl rfl (fun _ => bE (.bool _) rfl rfl) ?_
  refine eB [] rfl (by kernel_rfl) ?_
  refine aL aLo rfl rfl rfl ?_
  refine (aDg _ bs vr lr tt mm cl A n c r _ (M3.ownSeg 0 1)).mono ?_
  rintro _ w4 ⟨v4, rfl, ⟨rfl, hM4⟩⟩
  refine ⟨_, rfl, ?_⟩
  have M4 : Mem _ _ [_, _, _] _ := M3.seg 0 1 hM4
  refine aE (aF ⟨dZ, ?_⟩)
  refine cE ?_
  refine gM ?_
  exact ⟨rfl, r, hr, M4.keep [true, false, true]⟩
end Go.Proofs.YtlmcphcgiclanaaGreatDoor

namespace Go.Proofs.YtlmcphcgiclanaaGreatDoor
open Go.Bil
open Go.RowKit (Below)
open Go.Proofs
theorem aHn {xs : List Body} {cs : List Con} {b b' : Body} (h : SameB b b') : gB xs cs b = gB xs cs b' := by
  unfold gB oR uW
  rw [h.key, h.mass]
theorem zZ {xs ys zs : List Body} {cs : List Con} (h : Like ys zs) : ys.map (gB xs cs) = zs.map (gB xs cs) := by
  apply List.ext_getElem?
  intro i
  rw [List.getElem?_map, List.getElem?_map]
  by_cases hi : i < ys.length
  · have h1 : ys[i]? = some ys[i] := List.getElem?_eq_getElem hi
    have h2 : zs[i]? = some (zs[i]'(by rw [h.len]; exact hi)) := List.getElem?_eq_getElem _
    rw [h1, h2]
    exact congrArg some (aHn (h.at_ i _ _ h1 h2)).symm
  · have hl := h.len
    rw [List.getElem?_eq_none (show ys.length ≤ i by omega), List.getElem?_eq_none (show zs.length ≤ i by omega)]
theorem aOk {xs : List Body} {cs : List Con} (hs : bL xs) (hb : ∀ b ∈ xs, Okb b) (hcs : ∀ c ∈ cs, OkC xs c) (hl : cs.length ≤ 1073741824) {zs : List Body} (h : Like xs zs) : ∀ b ∈ zs, (-1152921504606846976 ≤ (gB xs cs b).1 ∧ (gB xs cs b).1 ≤ 1152921504606846976) ∧ -1152921504606846976 ≤ (gB xs cs b).2 ∧ (gB xs cs b).2 ≤ 1152921504606846976 := fun b hbm => by
  have hm : gB xs cs b ∈ zs.map (gB xs cs) := List.mem_map_of_mem hbm
  rw [← zZ h] at hm
  obtain ⟨x, hx, e⟩ := List.mem_map.1 hm
  rw [← e]
  have := xN hs hb hcs rfl hl cs.length hx
  rwa [List.take_of_length_le (Nat.le_refl _)] at this
set_option maxHeartbeats 16000000 in
theorem qC (w : World) (F : Rd w 2 (some ⟨0, 0, none⟩) 1 [[.int .u32 73856093, .int .u32 19349663]]) (N : Rd w 4 (some ⟨3, 0, none⟩) 1 [cT gT]) (A : Option Addr) (n c : Nat) (xs : List Body) (R : Rd w 10 A n (xs.map aI)) (hb : ∀ b ∈ xs, Okb b) (hs : bL xs) (hn : n ≤ 4096) :
    Calls Tryz.prog 16 #[.slice A n c] w (fun ex w' => ∃ v, ex = .returned v ∧ (fun v w' => ∃ (r : Row) (t : Nat), v = .tuple #[.slice r.A r.n r.c, .agg [.int .i64 (t : Int), .int .i64 ((jN xs).length : Int), .bool (rJ xs)].toArray] ∧ (jN xs).length ≤ t ∧ 2 * t ≤ xs.length * (xs.length - 1) ∧ aX 40 10 r.A r.n r.c ((oP xs).map aI) r.e ∧ Mem w [] [r.e] w') v w') := by
  have hlen : xs.length = n := by simpa using R.len
  have hnn : xs.length * xs.length ≤ 4096 * 4096 := Nat.mul_le_mul (by omega) (by omega)
  have hcl := aAc xs
  have hsq := aPf (xs := xs)
  refine aJ #[.tmp 2, .cell 3 27] 26 Tryz.func16 rfl Tryz.results16 Tryz.ntmps16 rfl ?_
  have M0 := Mem.refl w
  refine aG (aB ?_)
  refine aA (aD (.slice _ _ _) rfl) rfl rfl ?_
  refine aS mJ M0 rfl rfl (fun b1 w1 M1 => ?_)
  refine aE (aF (aG (aB ?_)))
  refine aA (aC (.slice _ _ _) rfl) rfl rfl ?_
  refine aA (cC [(0, .slice _ _ _)] _ aMk rfl rfl) rfl rfl ?_
  refine bK (.agg (List.toArray _)) M1 rfl rfl rfl (fun b2 w2 M2 => ?_)
  refine aA (aD (.pointer _) rfl) rfl rfl ?_
  refine aE (aF (aG (aG (aB ?_))))
  refine aA (uF [.func _ _ _, .func _ _ _, .func _ _ _, .func _ _ _] aCa aTp rfl rfl (cW rfl)) rfl rfl ?_
  refine aA (aC (.int _ _) rfl) rfl rfl ?_
  refine aE (aF (bA ?_))
  refine mV 5 (mT ?_)
  refine aG (aB ?_)
  refine aA (aO (.bool (decide _)) rfl rfl rfl) rfl rfl ?_
  refine aM 12 (.bool true) (bT (by first | decide | omega)).symm ?_
  refine aE (aF (aG ?_))
  refine dP rfl ?_
  refine aN (aF (aG (bA (aG (aB ?_)))))
  refine aA (tG 0 (.func _ _ _) aCa aFn rfl rfl (by decide) (by decide) rfl rfl) rfl rfl ?_
  refine aA (aD (.func _ _ _) rfl) rfl rfl ?_
  refine aE (aF (aB ?_))
  refine aA (aC (.func _ _ _) rfl) rfl rfl ?_
  refine aA (aC (.pointer _) rfl) rfl rfl ?_
  refine aL aXe rfl rfl rfl ?_
  refine (aQg _ (F.mem M2) (N.mem M2) b2 gE gE 0 0 false A n c xs (R.mem M2) hb hs hn (M2.ownSeg 1 1) (M2.away 1 1 R (by simp)) (M2.away 1 1 F (by simp)) (M2.away 1 1 N (by simp))).mono ?_
  rintro _ w3 ⟨v3, rfl, ⟨rfl, r, tm, ht1, ht2, hr, hM3⟩⟩
  refine ⟨_, rfl, ?_⟩
  have M3 : Mem _ _ [_, _, _] _ := M2.seg 1 1 hM3
  have hrn : (jN xs).length = r.n := by simpa using hr.1
  refine aE ?_
  refine dJ ?_
  refine aF (aB ?_)
  refine aA (bX rfl rfl (by first | decide | omega) (by first | decide | omega)) rfl rfl ?_
  refine aM 17 (.int .i64 1) (iE (by first | decide | omega)) ?_
  refine aA (aC (.int _ _) rfl) rfl rfl ?_
  refine aE ?_
  refine aF (mT ?_)
  refine aG (aB ?_)
  refine aA (aO (.bool (decide _)) rfl rfl rfl) rfl rfl ?_
  refine aM 12 (.bool true) (bT (by first | decide | omega)).symm ?_
  refine aE (aF (aG ?_))
  refine dP rfl ?_
  refine aN (aF (aG (bA (aG (aB ?_)))))
  refine aA (tG 1 (.func _ _ _) aCa aFn rfl rfl (by decide) (by decide) rfl rfl) rfl rfl ?_
  refine aA (aD (.func _ _ _) rfl) rfl rfl ?_
  refine aE (aF (aB ?_))
  refine aA (aC (.func _ _ _) rfl) rfl rfl ?_
  refine aA (aC (.pointer _) rfl) rfl rfl ?_
  refine aL aVx rfl rfl rfl ?_
  refine (aOr _ b2 gE r (tm : Int) (r.n : Int) false A n c xs (R.mem M3) hb (by omega) (M3.ownSeg 1 1) (M3.away 1 1 R (by simp))).mono ?_
  rintro _ w4 ⟨v4, rfl, ⟨rfl, g, hg, hM4⟩⟩
  refine ⟨_, rfl, ?_⟩
  have M4 : Mem _ _ [_, _, _, _] _ := M3.seg 1 1 hM4
  have hgn : (nZ xs).length = g.n := by simpa using hg.1
  have hgl := (kN xs).len
  refine aE ?_
  refine dJ ?_
  refine aF (aB ?_)
  refine aA (bX rfl rfl (by first | decide | omega) (by first | decide | omega)) rfl rfl ?_
  refine aM 17 (.int .i64 2) (iE (by first | decide | omega)) ?_
  refine aA (aC (.int _ _) rfl) rfl rfl ?_
  refine aE ?_
  refine aF (mT ?_)
  refine aG (aB ?_)
  refine aA (aO (.bool (decide _)) rfl rfl rfl) rfl rfl ?_
  refine aM 12 (.bool true) (bT (by first | decide | omega)).symm ?_
  refine aE (aF (aG ?_))
  refine dP rfl ?_
  refine aN (aF (aG (bA (aG (aB ?_)))))
  refine aA (tG 2 (.func _ _ _) aCa aFn rfl rfl (by decide) (by decide) rfl rfl) rfl rfl ?_
  refine aA (aD (.func _ _ _) rfl) rfl rfl ?_
  refine aE (aF (aB ?_))
  refine aA (aC (.func _ _ _) rfl) rfl rfl ?_
  refine aA (aC (.pointer _) rfl) rfl rfl ?_
  refine aL aXc rfl rfl rfl ?_
  refine (aMt _ b2 g r (tm : Int) (r.n : Int) _ A n c (nZ xs) (jN xs) (hg.rd M4 (aP (i := 3) rfl)) (hr.rd M4 (aP (i := 2) rfl)) ((kN xs).sorted hs) (xY hb) (by omega) (fun c h => (kN xs).okc (sY hs hb c h)) (by omega) (M4.ownSeg 1 1) (hg.awayB M4 3 1 rfl rfl rfl) (hr.awayB M4 2 1 rfl rfl rfl)).mono ?_
  rintro _ w5 ⟨v5, rfl, ⟨rfl, s, hsv, hM5⟩⟩
  refine ⟨_, rfl, ?_⟩
  have M5 : Mem _ _ [_, _, _, _, _] _ := M4.seg 1 1 hM5
  have hsn : (kA xs).length = s.n := by have h := hsv.1; rwa [List.length_map] at h
  have hlk : Like xs (kA xs) := (kN xs).trans (iA _ _ 4)
  have hsl := hlk.len
  refine aE ?_
  refine dJ ?_
  refine aF (aB ?_)
  refine aA (bX rfl rfl (by first | decide | omega) (by first | decide | omega)) rfl rfl ?_
  refine aM 17 (.int .i64 3) (iE (by first | decide | omega)) ?_
  refine aA (aC (.int _ _) rfl) rfl rfl ?_
  refine aE ?_
  refine aF (mT ?_)
  refine aG (aB ?_)
  refine aA (aO (.bool (decide _)) rfl rfl rfl) rfl rfl ?_
  refine aM 12 (.bool true) (bT (by first | decide | omega)).symm ?_
  refine aE (aF (aG ?_))
  refine dP rfl ?_
  refine aN (aF (aG (bA (aG (aB ?_)))))
  refine aA (tG 3 (.func _ _ _) aCa aFn rfl rfl (by decide) (by decide) rfl rfl) rfl rfl ?_
  refine aA (aD (.func _ _ _) rfl) rfl rfl ?_
  refine aE (aF (aB ?_))
  refine aA (aC (.func _ _ _) rfl) rfl rfl ?_
  refine aA (aC (.pointer _) rfl) rfl rfl ?_
  refine aL aVv rfl rfl rfl ?_
  refine (aQt _ b2 s r (tm : Int) (r.n : Int) _ A n c xs (R.mem M5) (kA xs) (jN xs) (hsv.rd M5 (aP (i := 4) rfl)) (hr.rd M5 (aP (i := 2) rfl)) hs hb (pJ (xY hb) 4) (by omega) (by omega) (sY hs hb) (by omega) (zZ hlk) (aOk hs hb (sY hs hb) (by omega) hlk) (M5.ownSeg 1 1) (M5.away 1 1 R (by simp)) (hsv.awayB M5 4 1 rfl rfl rfl) (hr.awayB M5 2 1 rfl rfl rfl)).mono ?_
  rintro _ w6 ⟨v6, rfl, ⟨rfl, m, hm, hM6⟩⟩
  refine ⟨_, rfl, ?_⟩
  have M6 : Mem _ _ [_, _, _, _, _, _] _ := M5.seg 1 1 hM6
  refine aE ?_
  refine dJ ?_
  refine aF (aB ?_)
  refine aA (bX rfl rfl (by first | decide | omega) (by first | decide | omega)) rfl rfl ?_
  refine aM 17 (.int .i64 4) (iE (by first | decide | omega)) ?_
  refine aA (aC (.int _ _) rfl) rfl rfl ?_
  refine aE ?_
  refine aF (mT ?_)
  refine aG (aB ?_)
  refine aA (aO (.bool (decide _)) rfl rfl rfl) rfl rfl ?_
  refine aM 12 (.bool false) (bF (by first | decide | omega)).symm ?_
  refine aE (aF (aG ?_))
  refine cH rfl ?_
  refine cK ?_
  refine dB (dB ?_)
  refine eN ?_
  refine aF (aG ?_)
  refine bZ [(0, 0), (1, 0), (2, 0), (3, 1), (4, 0), (5, 0), (6, 0), (7, 1), (8, 0), (9, 2)] mixed rfl (by kernel_rfl) (fun w7 hb7 hh7 => ?_)
  have M7 := M6.drew hb7 hh7
  refine aW rfl rfl rfl (fun _ => aC (.pointer _) rfl) ?_
  refine aW rfl rfl rfl (fun _ => aV rfl) ?_
  refine aW rfl rfl rfl (fun _ => aH 1 sF rfl) ?_
  refine cB rfl rfl rfl (aZ 1 (.slice _ _ _) jX M7 rfl rfl rfl) ?_
  refine aW rfl rfl rfl (fun _ => aC (.pointer _) rfl) ?_
  refine aW rfl rfl rfl (fun _ => aV rfl) ?_
  refine aW rfl rfl rfl (fun _ => aH 3 nC rfl) ?_
  refine cB rfl rfl rfl (uE 1 _ kZ M7 rfl rfl rfl rfl) ?_
  refine aW rfl rfl rfl (fun _ => aD (.slice _ _ _) rfl) ?_
  refine eB [true, true] rfl (by kernel_rfl) ?_
  refine bJ 0 _ kZ M7 rfl rfl rfl rfl rfl (aU rfl) rfl (fun w8 M8 => ?_)
  refine aE (aF ⟨dZ, ?_⟩)
  refine cE ?_
  refine aF (aR ?_)
  refine aSi (.slice _ _ _) 0 kZ M8 rfl rfl rfl rfl ?_
  exact ⟨m, tm, rV rfl (by rw [hrn]; show Value.agg _ = _; rw [show rJ xs = (((false || xs.any mF) || (fN (nZ xs) (jN xs) 4).2) || aNy xs (jN xs) (kA xs)) by unfold rJ; rw [Bool.false_or]]; rfl), by omega, ht2, hm, M8.keep [false, false, false, false, false, true]⟩
end Go.Proofs.YtlmcphcgiclanaaGreatDoor

namespace Go.Proofs.YtlmcphcgiclanaaGreatDoor
open Go.Bil
open Go.RowKit (Below)
open Go.Proofs
set_option maxHeartbeats 16000000 in
theorem tF (w : World) (F : Rd w 2 (some ⟨0, 0, none⟩) 1 [[.int .u32 73856093, .int .u32 19349663]]) (N_ : Rd w 4 (some ⟨3, 0, none⟩) 1 [cT gT]) (A : Option Addr) (n c : Nat) (xs : List Body) (R : Rd w 10 A n (xs.map aI)) (hb : ∀ b ∈ xs, Okb b) (hs : bL xs) (hn : n ≤ 4096) (z : Int) (N : Nat) (hz : max z 0 = (N : Int)) (hN : N ≤ 1048576) :
    Calls Tryz.prog 19 #[.slice A n c, .int .i64 z] w (fun ex w' => ∃ v, ex = .returned v ∧ (fun v w' => ∃ (r : Row) (t : Nat), v = .tuple #[.slice r.A r.n r.c, .agg [.int .i64 (t : Int), .int .i64 (mM xs N : Int), .bool (pW xs N)].toArray] ∧ mM xs N ≤ t ∧ t ≤ N * 16777216 ∧ aX 40 10 r.A r.n r.c ((fP xs N).map aI) r.e ∧ Mem w [] [r.e] w') v w') := by
  have hlen : xs.length = n := by simpa using R.len
  have hnn : xs.length * (xs.length - 1) ≤ 4096 * 4096 := Nat.mul_le_mul (by omega) (by omega)
  refine aJ #[.tmp 4, .cell 5 27] 43 Tryz.func19 rfl Tryz.results19 Tryz.ntmps19 rfl ?_
  have M0 := Mem.refl w
  refine aG (aB ?_)
  refine aA (aD (.slice _ _ _) rfl) rfl rfl ?_
  refine aS mJ M0 rfl rfl (fun b1 w1 M1 => ?_)
  refine aE (aF (aG (aB ?_)))
  refine aS mJ M1 rfl rfl (fun b2 w2 M2 => ?_)
  refine aE (aF (aG (aB ?_)))
  refine aA (aC (.slice _ _ _) rfl) rfl rfl ?_
  refine aL aWm rfl rfl rfl ?_
  refine (vL _ _ _ _ _ (R.mem M2) (aDo xs) (by omega)).mono ?_
  rintro _ w3 ⟨v3, rfl, ⟨qA, qn, qc, qe, rfl, hq0, hM3, _⟩⟩
  refine ⟨_, rfl, ?_⟩
  have M3 : Mem _ _ [_, _, _] _ := M2.call0 hM3
  refine aA (aD (.slice _ _ _) rfl) rfl rfl ?_
  refine aE (aF (aG (aG (aB ?_))))
  refine aA (aC (.int _ _) rfl) rfl rfl ?_
  refine aA (kH rfl rfl ) rfl rfl ?_
  refine aM 12 (.int .i64 (N : Int)) (iE (by omega)) ?_
  refine aA (aC (.int _ _) rfl) rfl rfl ?_
  refine aE (aF (bA ?_))
  refine dI (σ := Nat × Row × Nat) [4, 5, 6, 12] (fun (k, q, t) => [(0, .slice q.A q.n q.c), (13, .int .i64 (k : Int))]) (fun (k, q, t) w' => (k ≤ N ∧ mM xs k ≤ t ∧ t ≤ k * 16777216 ∧ aX 40 10 q.A q.n q.c ((fP xs k).map aI) q.e) ∧ Mem w [] [(some b1, bc [.int .i64 0, .int .i64 0, .bool false] 27), (some b2, bc [.int .i64 (t : Int), .int .i64 (mM xs k : Int), .bool (pW xs k)] 27), q.e] w') (fun (k, q, t) => N - k) (0, ⟨qA, qn, qc, qe⟩, 0) (bS rfl (bS rfl eV)) (⟨⟨by omega, (show 0 ≤ 0 by omega), by omega, hq0⟩, M3⟩) ?_
  rintro ⟨k, q, t⟩ ρ4 w4 ⟨⟨hk, htn, htk, hq⟩, hM4⟩
  have hkl := (lO xs k).len
  have hqn : (fP xs k).length = q.n := by simpa using hq.1
  refine aG (aB ?_)
  refine aA (aO (.bool (decide _)) rfl rfl rfl) rfl rfl ?_
  refine aE (aF (aG ?_))
  refine aY rfl (fun h14 => ?_) (fun h14 => ?_)
  · refine aN (aF (aG (bA (aG (aB ?_)))))
    refine aA (aC (.slice _ _ _) rfl) rfl rfl ?_
    refine aL aNo rfl rfl rfl ?_
    refine (qC _ (F.mem hM4) (N_.mem hM4) q.A q.n q.c (fP xs k) (hq.rd hM4 (aP (i := 2) rfl)) (sS hb k) (oU hs k) (by omega)).mono ?_
    rintro _ w5 ⟨v5, rfl, ⟨r, t2, rfl, h1, h2, hr, hM5⟩⟩
    refine ⟨_, rfl, ?_⟩
    have M5 : Mem _ _ [_, _, _, _] _ := hM4.call0 hM5
    rw [show (fP xs k).length = xs.length from hkl] at h2
    have hsuc : mM xs (k + 1) = mM xs k + (jN (fP xs k)).length := rfl
    refine aA (aC (.tuple (List.toArray _)) rfl) rfl rfl ?_
    refine aA (bE (.slice _ _ _) rfl rfl) rfl rfl ?_
    refine aA (bE (.agg (List.toArray _)) rfl rfl) rfl rfl ?_
    refine aS mJ M5 rfl rfl (fun b6 w6 M6 => ?_)
    refine aA (aD (.slice _ _ _) rfl) rfl rfl ?_
    refine bJ 4 _ kZ M6 rfl rfl rfl rfl rfl (aU rfl) rfl (fun w7 M7 => ?_)
    refine aE (aF (aG (aB ?_)))
    refine aA (aH 0 sL rfl) rfl rfl ?_
    refine aA (aZ 1 (.int _ _) kT M7 rfl rfl rfl) rfl rfl ?_
    refine aA (aH 0 sL rfl) rfl rfl ?_
    refine aA (aZ 4 (.int _ _) kT M7 rfl rfl rfl) rfl rfl ?_
    refine aA (bX rfl rfl (by omega) (by omega)) rfl rfl ?_
    refine aA (aH 0 sL rfl) rfl rfl ?_
    refine eC 1 (.int _ _) kT M7 rfl rfl rfl rfl rfl rfl (fun w8 M8 => ?_)
    refine aE (aF (aG (aB ?_)))
    refine aA (aH 1 sI rfl) rfl rfl ?_
    refine aA (aZ 1 (.int _ _) kT M8 rfl rfl rfl) rfl rfl ?_
    refine aA (aH 1 sI rfl) rfl rfl ?_
    refine aA (aZ 4 (.int _ _) kT M8 rfl rfl rfl) rfl rfl ?_
    refine aA (bX rfl rfl (by omega) (by omega)) rfl rfl ?_
    refine aA (aH 1 sI rfl) rfl rfl ?_
    refine eC 1 (.int _ _) kT M8 rfl rfl rfl rfl rfl rfl (fun w9 M9 => ?_)
    refine aE (aF (aG (aB ?_)))
    refine aA (aH 2 lF rfl) rfl rfl ?_
    refine aA (aZ 1 (.bool _) lV M9 rfl rfl rfl) rfl rfl ?_
    refine aA (aC (.bool _) rfl) rfl rfl ?_
    refine iS 34 _ rfl (fun g34 => ?_) (fun g34 => ?_)
    · refine aT rfl rfl ?_
      refine aT rfl rfl ?_
      refine aA (bP true (.bool true) rfl rfl) rfl rfl ?_
      refine aA (aH 2 lF rfl) rfl rfl ?_
      refine eC 1 (.bool true) lV M9 rfl rfl rfl rfl rfl rfl (fun w10 M10 => ?_)
      refine aE (aF (aB ?_))
      refine aA (aC (.slice _ _ _) rfl) rfl rfl ?_
      refine aA (aD (.slice _ _ _) rfl) rfl rfl ?_
      refine aE ?_
      refine dJ ?_
      refine aF (aB ?_)
      refine aA (bX rfl rfl (by omega) (by omega)) rfl rfl ?_
      refine aA (aC (.int _ _) rfl) rfl rfl ?_
      refine aE ?_
      refine cF (k + 1, r, t + t2) (bS rfl (bS rfl eV)) (cL rfl (cL rfl (cL rfl (cL rfl iI)))) ?_ ?_
      · exact ⟨⟨by omega, by rw [hsuc]; omega, by omega, hr⟩, by rw [hsuc, Int.natCast_add, Int.natCast_add, show pW xs (k + 1) = _ from by show (_ || _) = true; rw [g34, Bool.true_or]]; exact M10.keep [true, true, false, true, false]⟩
      · (show N - (k + 1) < N - k; omega)
    · refine aA (aH 2 lF rfl) rfl rfl ?_
      refine aA (aZ 4 (.bool _) lV M9 rfl rfl rfl) rfl rfl ?_
      refine aA (bP false (.bool _) rfl rfl) rfl rfl ?_
      refine aA (aH 2 lF rfl) rfl rfl ?_
      refine eC 1 (.bool _) lV M9 rfl rfl rfl rfl rfl rfl (fun w11 M11 => ?_)
      refine aE (aF (aB ?_))
      refine aA (aC (.slice _ _ _) rfl) rfl rfl ?_
      refine aA (aD (.slice _ _ _) rfl) rfl rfl ?_
      refine aE ?_
      refine dJ ?_
      refine aF (aB ?_)
      refine aA (bX rfl rfl (by omega) (by omega)) rfl rfl ?_
      refine aA (aC (.int _ _) rfl) rfl rfl ?_
      refine aE ?_
      refine cF (k + 1, r, t + t2) (bS rfl (bS rfl eV)) (cL rfl (cL rfl (cL rfl (cL rfl iI)))) ?_ ?_
      · exact ⟨⟨by omega, by rw [hsuc]; omega, by omega, hr⟩, by rw [hsuc, Int.natCast_add, Int.natCast_add, show pW xs (k + 1) = _ from by show (_ || _) = rJ (fP xs k); rw [g34, Bool.false_or]]; exact M11.keep [true, true, false, true, false]⟩
      · (show N - (k + 1) < N - k; omega)
  · have hkn : k = N := by omega
    rw [hkn] at hq htn hM4
    refine cK ?_
    refine dB ?_
    refine cY ?_
    refine eN ?_
    refine aF (aG ?_)
    refine bZ [(0, 0), (1, 1), (2, 0), (3, 2)] mixed rfl (by kernel_rfl) (fun w12 hb12 hh12 => ?_)
    have M12 := hM4.drew hb12 hh12
    refine aW rfl rfl rfl (fun _ => aC (.slice _ _ _) rfl) ?_
    refine cB rfl rfl rfl (bB 1 kZ M12 rfl rfl rfl) ?_
    refine aW rfl rfl rfl (fun _ => aD (.slice _ _ _) rfl) ?_
    refine eB [true] rfl (by kernel_rfl) ?_
    refine bJ 0 _ kZ M12 rfl rfl rfl rfl rfl (aU rfl) rfl (fun w13 M13 => ?_)
    refine aE (aF ⟨dZ, ?_⟩)
    refine cE ?_
    refine aF (aR ?_)
    refine aSi (.slice _ _ _) 0 kZ M13 rfl rfl rfl rfl ?_
    exact ⟨q, t, by rw [← hkn], htn, by rw [← hkn]; exact htk, hq, M13.keep [false, false, true]⟩
end Go.Proofs.YtlmcphcgiclanaaGreatDoor

namespace Go.Proofs.YtlmcphcgiclanaaGreatDoor
open Go.Bil
open Go.RowKit (Below)
open Go.Proofs
end Go.Proofs.YtlmcphcgiclanaaGreatDoor

namespace Go.Proofs.YtlmcphcgiclanaaGreatDoor
open Go.Bil
open Go.RowKit (Below)
open Go.Proofs
end Go.Proofs.YtlmcphcgiclanaaGreatDoor

namespace Go.Proofs.YtlmcphcgiclanaaGreatDoor
open Go.Bil
open Go.RowKit (Below)
open Go.Proofs
end Go.Proofs.YtlmcphcgiclanaaGreatDoor

namespace Go.Proofs.YtlmcphcgiclanaaGreatDoor
open Go.Bil
open Go.RowKit (Below)
open Go.Proofs
end Go.Proofs.YtlmcphcgiclanaaGreatDoor

namespace Go.Proofs.YtlmcphcgiclanaaGreatDoor
open Go.Bil
open Go.RowKit (Below)
open Go.Proofs
end Go.Proofs.YtlmcphcgiclanaaGreatDoor

namespace Go.Proofs.YtlmcphcgiclanaaGreatDoor
open Go.Bil
open Go.RowKit (Below)
open Go.Proofs
end Go.Proofs.YtlmcphcgiclanaaGreatDoor

namespace Go.Proofs.YtlmcphcgiclanaaGreatDoor
open Go.Bil
open Go.RowKit (Below)
open Go.Proofs
theorem aOb {T dd : Nat} {a b : Bool} {w : World} (hu : Tryz.prog.underlying T = some .bool) : (Op.equalIn (dd + 1) T (.bool a) (.bool b)).run Tryz.prog w = .ok (decide (a = b)) w := by
  simp [Op.equalIn, underlying, hu]
  cases a <;> cases b <;> rfl
theorem aWf (x0 x1 y0 y1 : Int) (x2 y2 : Bool) : EqA Tryz.prog 27 [.int .i64 x0, .int .i64 x1, .bool x2] [.int .i64 y0, .int .i64 y1, .bool y2] (decide (x0 = y0 ∧ x1 = y1 ∧ x2 = y2)) := ⟨by kernel_rfl, fun w => by
  have h := nB (P := Tryz.prog) (T := 27) (dd := 9998 + 1) (xs := [.int .i64 x0, .int .i64 x1, .bool x2]) (ys := [.int .i64 y0, .int .i64 y1, .bool y2]) (w := w) Tryz.underlying27 (by kernel_rfl) (eG rfl (fD kT rfl) (fD kT rfl) (kL (dd := 9998) Tryz.underlying3) (eG rfl (fD kT rfl) (fD kT rfl) (kL (dd := 9998) Tryz.underlying3) (eG rfl (fD lV rfl) (fD lV rfl) (aOb (dd := 9998) Tryz.underlying4) rZ)))
  refine h.trans (congrArg (fun r => Result.ok r w) ?_)
  simp only [Bool.decide_and, Bool.and_true, Bool.and_assoc]⟩
theorem aNi : ∀ b ∈ ([⟨0, 65536, 0, 0, 65536, 0, 0, 0, 0, 0⟩] : List Body), Okb b := fun b hb => oO ((by decide : ∀ b ∈ ([⟨0, 65536, 0, 0, 65536, 0, 0, 0, 0, 0⟩] : List Body), check b = 0) b hb)
theorem aQn : ∀ b ∈ ([⟨1, 65536, 0, 0, 65536, 0, 0, 0, 65536, 0⟩, ⟨2, 65536, 0, 0, 0, 0, 131071, 0, 0, 0⟩] : List Body), Okb b := fun b hb => oO ((by decide : ∀ b ∈ ([⟨1, 65536, 0, 0, 65536, 0, 0, 0, 65536, 0⟩, ⟨2, 65536, 0, 0, 0, 0, 131071, 0, 0, 0⟩] : List Body), check b = 0) b hb)
theorem aOp : Okb (⟨0, 65536, 0, 0, 0, 0, 0, 0, 0, 0⟩ : Body) := oO (by decide)
theorem aTe : jN ([⟨0, 65536, 0, 0, 65536, 0, 0, 0, 0, 0⟩] : List Body) = [] := by decide
theorem aLv : oP ([⟨0, 65536, 0, 0, 65536, 0, 0, 0, 0, 0⟩] : List Body) = ([⟨0, 65536, 0, 0, 65536, 0, 0, -16, 0, -1024⟩] : List Body) := by decide +kernel
theorem aVf : rJ ([⟨0, 65536, 0, 0, 65536, 0, 0, 0, 0, 0⟩] : List Body) = false := by decide +kernel
theorem aSo : qM 17179607041 = 131071 := (aJs (by decide) (by decide)).symm
theorem aNk : len 131071 0 = 131071 := by
  unfold len
  rw [show vH 131071 0 = 17179607041 by decide, aSo]
  rfl
theorem aSt : jP (⟨1, 65536, 0, 0, 65536, 0, 0, 0, 65536, 0⟩ : Body) (⟨2, 65536, 0, 0, 0, 0, 131071, 0, 0, 0⟩ : Body) = some ⟨1, 2, 65536, 0, 1⟩ := by
  have e : rG (⟨1, 65536, 0, 0, 65536, 0, 0, 0, 65536, 0⟩ : Body) (⟨2, 65536, 0, 0, 0, 0, 131071, 0, 0, 0⟩ : Body) = ((0, 0), (131071, 0), 17179607041) := by decide
  have hu : iY 131071 0 = (65536, 0) := by unfold iY; rw [aNk]; decide
  unfold jP
  rw [if_neg (by decide)]
  unfold kE
  rw [e]
  show (if ((65536 : Int) + 65536).natAbs * ((65536 : Int) + 65536).natAbs ≤ vH 131071 0 then none else some (⟨1, 2, (iY 131071 0).1, (iY 131071 0).2, IntKind.wrap .i32 (65536 + 65536 - len 131071 0)⟩ : Con)) = _
  rw [if_neg (by decide), hu, aNk]
  decide
theorem aUq : iQ ([⟨1, 65536, 0, 0, 65536, 0, 0, 0, 65536, 0⟩, ⟨2, 65536, 0, 0, 0, 0, 131071, 0, 0, 0⟩] : List Body) = [(1, 2)] := by decide
theorem rY : jN ([⟨1, 65536, 0, 0, 65536, 0, 0, 0, 65536, 0⟩, ⟨2, 65536, 0, 0, 0, 0, 131071, 0, 0, 0⟩] : List Body) = [⟨1, 2, 65536, 0, 1⟩] := by
  have h : zD (boM ([⟨1, 65536, 0, 0, 65536, 0, 0, 0, 65536, 0⟩, ⟨2, 65536, 0, 0, 0, 0, 131071, 0, 0, 0⟩] : List Body)) (1, 2) = some ⟨1, 2, 65536, 0, 1⟩ := (mZ (show boM ([⟨1, 65536, 0, 0, 65536, 0, 0, 0, 65536, 0⟩, ⟨2, 65536, 0, 0, 0, 0, 131071, 0, 0, 0⟩] : List Body) 1 = some (⟨1, 65536, 0, 0, 65536, 0, 0, 0, 65536, 0⟩ : Body) from by decide) (show boM ([⟨1, 65536, 0, 0, 65536, 0, 0, 0, 65536, 0⟩, ⟨2, 65536, 0, 0, 0, 0, 131071, 0, 0, 0⟩] : List Body) 2 = some (⟨2, 65536, 0, 0, 0, 0, 131071, 0, 0, 0⟩ : Body) from by decide)).trans aSt
  unfold jN
  rw [aUq]
  simp only [List.filterMap_cons, List.filterMap_nil, h]
theorem aUl : oP ([⟨1, 65536, 0, 0, 65536, 0, 0, 0, 65536, 0⟩, ⟨2, 65536, 0, 0, 0, 0, 131071, 0, 0, 0⟩] : List Body) = ([⟨1, 65536, 0, 0, 65536, 0, 0, -16, 0, -1024⟩, ⟨2, 65536, 0, 0, 0, 0, 131071, 0, 0, 0⟩] : List Body) := by
  unfold oP kA
  rw [rY]
  decide +kernel
theorem aUi : rJ ([⟨1, 65536, 0, 0, 65536, 0, 0, 0, 65536, 0⟩, ⟨2, 65536, 0, 0, 0, 0, 131071, 0, 0, 0⟩] : List Body) = false := by
  unfold rJ kA
  rw [rY]
  decide +kernel
theorem aTa : fP ([⟨0, 65536, 0, 0, 65536, 0, 0, 0, 0, 0⟩] : List Body) 2 = ([⟨0, 65536, 0, 0, 65536, 0, 0, -48, 0, -2048⟩] : List Body) := by
  show oP (oP ([⟨0, 65536, 0, 0, 65536, 0, 0, 0, 0, 0⟩] : List Body)) = _
  rw [aLv]
  decide +kernel
theorem aUs : aAm (⟨0, 65536, 0, 0, 0, 0, 0, 0, 0, 0⟩ : Body) = (⟨0, 65536, 0, 0, 0, 0, 0, 0, 0, 0⟩ : Body) := by decide
end Go.Proofs.YtlmcphcgiclanaaGreatDoor

namespace Go.Proofs.YtlmcphcgiclanaaGreatDoor
open Go.Bil
open Go.RowKit (Below)
open Go.Proofs
set_option maxHeartbeats 16000000 in
theorem aWw (w : World) (F : Rd w 2 (some ⟨0, 0, none⟩) 1 [[.int .u32 73856093, .int .u32 19349663]]) (N : Rd w 4 (some ⟨3, 0, none⟩) 1 [cT gT]) :
    Calls Tryz.prog 15 #[] w (fun ex w' => ∃ v, ex = .returned v ∧ (fun v w' => v = .bool true ∧ Below w.heap.size w w') v w') := by
  refine aJ #[.tmp 0] 95 Tryz.func15 rfl Tryz.results15 Tryz.ntmps15 rfl ?_
  have M0 := Mem.refl w
  refine aG (aB ?_)
  refine aA (aD (.bool false) rfl) rfl rfl ?_
  refine aE (aF (aG (aB ?_)))
  refine aA (cC [(1, .int _ _), (3, .int _ _)] _ lC rfl rfl) rfl rfl ?_
  refine cM [.agg (List.toArray _)] [aI ⟨0, 65536, 0, 0, 65536, 0, 0, 0, 0, 0⟩] rfl dD M0 rfl rfl rfl rfl (cW rfl) (by decide) (fun b1 w1 M1 => ?_)
  have hlit9 := gW (T := 40) (b := b1) (([⟨0, 65536, 0, 0, 65536, 0, 0, 0, 0, 0⟩] : List Body).map aI) (lL _) rfl (by decide)
  refine aL aNo rfl rfl rfl ?_
  refine (qC _ (F.mem M1) (N.mem M1) _ _ _ ([⟨0, 65536, 0, 0, 65536, 0, 0, 0, 0, 0⟩] : List Body) (hlit9.rd M1 (aP (i := 0) rfl)) aNi (iH (by decide)) (by decide)).mono ?_
  rintro _ w2 ⟨v2, rfl, ⟨ra, tra, rfl, h1ra, h2ra, hrra, hM2⟩⟩
  refine ⟨_, rfl, ?_⟩
  have M2 : Mem _ _ [_, _] _ := M1.call0 hM2
  rw [aLv] at hrra
  have hnra : 1 = ra.n := by simpa using hrra.1
  obtain rfl : tra = 0 := by have h : 2 * tra ≤ 0 := h2ra; omega
  refine aA (aC (.tuple (List.toArray _)) rfl) rfl rfl ?_
  refine aA (bE (.slice _ _ _) rfl rfl) rfl rfl ?_
  refine aA (bE (.agg (List.toArray _)) rfl rfl) rfl rfl ?_
  refine aM 12 (.agg [.int .i64 0, .int .i64 0, .bool false].toArray) (congrArg Value.agg (by rw [aTe, aVf]; rfl)) ?_
  refine aS mJ M2 rfl rfl (fun b3 w3 M3 => ?_)
  refine aA (aD (.slice _ _ _) rfl) rfl rfl ?_
  refine bJ 2 _ kZ M3 rfl rfl rfl rfl rfl (aU rfl) rfl (fun w4 M4 => ?_)
  refine aE (aF (aG (aB ?_)))
  refine aA (cC [(0, .int _ _)] _ dY rfl rfl) rfl rfl ?_
  refine aA (cC [(0, .int _ _), (1, .int _ _), (3, .int _ _), (6, .agg (List.toArray _))] _ lC rfl rfl) rfl rfl ?_
  refine aA (cC [(0, .int _ _)] _ dY rfl rfl) rfl rfl ?_
  refine aA (cC [(0, .int _ _), (1, .int _ _), (5, .agg (List.toArray _))] _ lC rfl rfl) rfl rfl ?_
  refine cM [.agg (List.toArray _), .agg (List.toArray _)] [aI ⟨1, 65536, 0, 0, 65536, 0, 0, 0, 65536, 0⟩, aI ⟨2, 65536, 0, 0, 0, 0, 131071, 0, 0, 0⟩] rfl dD M4 rfl rfl rfl rfl (cW rfl) (by decide) (fun b5 w5 M5 => ?_)
  have hlit18 := gW (T := 40) (b := b5) (([⟨1, 65536, 0, 0, 65536, 0, 0, 0, 65536, 0⟩, ⟨2, 65536, 0, 0, 0, 0, 131071, 0, 0, 0⟩] : List Body).map aI) (lL _) rfl (by decide)
  refine aL aNo rfl rfl rfl ?_
  refine (qC _ (F.mem M5) (N.mem M5) _ _ _ ([⟨1, 65536, 0, 0, 65536, 0, 0, 0, 65536, 0⟩, ⟨2, 65536, 0, 0, 0, 0, 131071, 0, 0, 0⟩] : List Body) (hlit18.rd M5 (aP (i := 3) rfl)) aQn (iH (by decide)) (by decide)).mono ?_
  rintro _ w6 ⟨v6, rfl, ⟨rb, trb, rfl, h1rb, h2rb, hrrb, hM6⟩⟩
  refine ⟨_, rfl, ?_⟩
  have M6 : Mem _ _ [_, _, _, _, _] _ := M5.call0 hM6
  rw [aUl] at hrrb
  have hnrb : 2 = rb.n := by simpa using hrrb.1
  rw [rY] at h1rb
  obtain rfl : trb = 1 := by have h : 2 * trb ≤ 2 := h2rb; have g : 1 ≤ trb := h1rb; omega
  refine aA (aC (.tuple (List.toArray _)) rfl) rfl rfl ?_
  refine aA (bE (.slice _ _ _) rfl rfl) rfl rfl ?_
  refine aA (bE (.agg (List.toArray _)) rfl rfl) rfl rfl ?_
  refine aM 21 (.agg [.int .i64 1, .int .i64 1, .bool false].toArray) (congrArg Value.agg (by rw [rY, aUi]; rfl)) ?_
  refine aS mJ M6 rfl rfl (fun b7 w7 M7 => ?_)
  refine aA (aD (.slice _ _ _) rfl) rfl rfl ?_
  refine bJ 5 _ kZ M7 rfl rfl rfl rfl rfl (aU rfl) rfl (fun w8 M8 => ?_)
  refine aE (aF (aG (aB ?_)))
  refine aA (cC [(1, .int _ _), (3, .int _ _)] _ lC rfl rfl) rfl rfl ?_
  refine cM [.agg (List.toArray _)] [aI ⟨0, 65536, 0, 0, 65536, 0, 0, 0, 0, 0⟩] rfl dD M8 rfl rfl rfl rfl (cW rfl) (by decide) (fun b9 w9 M9 => ?_)
  have hlit24 := gW (T := 40) (b := b9) (([⟨0, 65536, 0, 0, 65536, 0, 0, 0, 0, 0⟩] : List Body).map aI) (lL _) rfl (by decide)
  refine aL aRj rfl rfl rfl ?_
  refine (tF _ (F.mem M9) (N.mem M9) _ _ _ ([⟨0, 65536, 0, 0, 65536, 0, 0, 0, 0, 0⟩] : List Body) (hlit24.rd M9 (aP (i := 6) rfl)) aNi (iH (by decide)) (by decide) 2 2 rfl (by decide)).mono ?_
  rintro _ w10 ⟨v10, rfl, ⟨rc, trc, rfl, h1rc, _, hrc, hM10⟩⟩
  refine ⟨_, rfl, ?_⟩
  have M10 : Mem _ _ [_, _, _, _, _, _, _, _] _ := M9.call0 hM10
  rw [aTa] at hrc
  have hnrc : 1 = rc.n := by simpa using hrc.1
  refine aA (aC (.tuple (List.toArray _)) rfl) rfl rfl ?_
  refine aA (bE (.slice _ _ _) rfl rfl) rfl rfl ?_
  refine aA (bE (.agg (List.toArray _)) rfl rfl) rfl rfl ?_
  refine aS mJ M10 rfl rfl (fun b11 w11 M11 => ?_)
  refine aA (aD (.slice _ _ _) rfl) rfl rfl ?_
  refine bJ 8 _ kZ M11 rfl rfl rfl rfl rfl (aU rfl) rfl (fun w12 M12 => ?_)
  refine aE (aF (aG (aG (aB ?_))))
  refine aA (aC (.slice _ _ _) rfl) rfl rfl ?_
  refine aA (cS Tryz.underlying22 rfl) rfl rfl ?_
  refine aA (aO (.bool (decide _)) rfl rfl rfl) rfl rfl ?_
  refine aM 30 (.bool false) (bF (by omega)).symm ?_
  refine aA (aC (.bool false) rfl) rfl rfl ?_
  refine aA (aC (.slice _ _ _) rfl) rfl rfl ?_
  refine aA (cS Tryz.underlying22 rfl) rfl rfl ?_
  refine aA (aO (.bool (decide _)) rfl rfl rfl) rfl rfl ?_
  refine aM 34 (.bool false) (bF (by omega)).symm ?_
  refine aA (bP false (.bool false) rfl rfl) rfl rfl ?_
  refine aA (aC (.bool false) rfl) rfl rfl ?_
  refine aA (aC (.slice _ _ _) rfl) rfl rfl ?_
  refine aA (cS Tryz.underlying22 rfl) rfl rfl ?_
  refine aA (aO (.bool (decide _)) rfl rfl rfl) rfl rfl ?_
  refine aM 39 (.bool false) (bF (by omega)).symm ?_
  refine aA (bP false (.bool false) rfl rfl) rfl rfl ?_
  refine aE (aF ?_)
  refine cH rfl ?_
  refine aN (aF (aG (aB ?_)))
  refine aA (aC (.slice _ _ _) rfl) rfl rfl ?_
  refine aA (bO (0) dD rfl rfl rfl ((hrra.rd M12 (aP (i := 1) rfl)).below_len ((show (([⟨0, 65536, 0, 0, 65536, 0, 0, -16, 0, -1024⟩] : List Body).map aI)[0]? = some (aI ⟨0, 65536, 0, 0, 65536, 0, 0, -16, 0, -1024⟩) from rfl))) ((hrra.rd M12 (aP (i := 1) rfl)).someK ((show (([⟨0, 65536, 0, 0, 65536, 0, 0, -16, 0, -1024⟩] : List Body).map aI)[0]? = some (aI ⟨0, 65536, 0, 0, 65536, 0, 0, -16, 0, -1024⟩) from rfl)))) rfl rfl ?_
  refine aA (bM 6 eK (hrra.rd M12 (aP (i := 1) rfl)) (Nat.lt_of_le_of_lt (Nat.zero_le _) ((hrra.rd M12 (aP (i := 1) rfl)).below_len ((show (([⟨0, 65536, 0, 0, 65536, 0, 0, -16, 0, -1024⟩] : List Body).map aI)[0]? = some (aI ⟨0, 65536, 0, 0, 65536, 0, 0, -16, 0, -1024⟩) from rfl)))) rfl) rfl rfl ?_
  refine aA (lU (o := 6) _ bI (hrra.rd M12 (aP (i := 1) rfl)) ((show (([⟨0, 65536, 0, 0, 65536, 0, 0, -16, 0, -1024⟩] : List Body).map aI)[0]? = some (aI ⟨0, 65536, 0, 0, 65536, 0, 0, -16, 0, -1024⟩) from rfl)) rfl rfl rfl) rfl rfl ?_
  refine aA (cC [(1, .int _ _)] _ dY rfl rfl) rfl rfl ?_
  refine aA (rN (aAo _ _ _ _) rfl rfl) rfl rfl ?_
  refine aM 46 (.bool true) (bT (by decide)).symm ?_
  refine aA (aC (.bool true) rfl) rfl rfl ?_
  refine aA (aC (.slice _ _ _) rfl) rfl rfl ?_
  refine aA (bO (0) dD rfl rfl rfl ((hrra.rd M12 (aP (i := 1) rfl)).below_len ((show (([⟨0, 65536, 0, 0, 65536, 0, 0, -16, 0, -1024⟩] : List Body).map aI)[0]? = some (aI ⟨0, 65536, 0, 0, 65536, 0, 0, -16, 0, -1024⟩) from rfl))) ((hrra.rd M12 (aP (i := 1) rfl)).someK ((show (([⟨0, 65536, 0, 0, 65536, 0, 0, -16, 0, -1024⟩] : List Body).map aI)[0]? = some (aI ⟨0, 65536, 0, 0, 65536, 0, 0, -16, 0, -1024⟩) from rfl)))) rfl rfl ?_
  refine aA (bM 8 eF (hrra.rd M12 (aP (i := 1) rfl)) (Nat.lt_of_le_of_lt (Nat.zero_le _) ((hrra.rd M12 (aP (i := 1) rfl)).below_len ((show (([⟨0, 65536, 0, 0, 65536, 0, 0, -16, 0, -1024⟩] : List Body).map aI)[0]? = some (aI ⟨0, 65536, 0, 0, 65536, 0, 0, -16, 0, -1024⟩) from rfl)))) rfl) rfl rfl ?_
  refine aA (lU (o := 8) _ bI (hrra.rd M12 (aP (i := 1) rfl)) ((show (([⟨0, 65536, 0, 0, 65536, 0, 0, -16, 0, -1024⟩] : List Body).map aI)[0]? = some (aI ⟨0, 65536, 0, 0, 65536, 0, 0, -16, 0, -1024⟩) from rfl)) rfl rfl rfl) rfl rfl ?_
  refine aA (cC [(1, .int _ _)] _ dY rfl rfl) rfl rfl ?_
  refine aA (rN (aAo _ _ _ _) rfl rfl) rfl rfl ?_
  refine aM 53 (.bool true) (bT (by decide)).symm ?_
  refine aA (bP true (.bool true) rfl rfl) rfl rfl ?_
  refine aA (aC (.bool true) rfl) rfl rfl ?_
  refine aA (bB 2 kZ M12 rfl rfl rfl) rfl rfl ?_
  refine aA (cC [] _ aCi rfl rfl) rfl rfl ?_
  refine aA (rN (aWf _ _ _ _ _ _) rfl rfl) rfl rfl ?_
  refine aM 58 (.bool true) (bT (by decide)).symm ?_
  refine aA (bP true (.bool true) rfl rfl) rfl rfl ?_
  refine aA (aC (.bool true) rfl) rfl rfl ?_
  refine aA (aC (.slice _ _ _) rfl) rfl rfl ?_
  refine aA (bO (0) dD rfl rfl rfl ((hrrb.rd M12 (aP (i := 4) rfl)).below_len ((show (([⟨1, 65536, 0, 0, 65536, 0, 0, -16, 0, -1024⟩, ⟨2, 65536, 0, 0, 0, 0, 131071, 0, 0, 0⟩] : List Body).map aI)[0]? = some (aI ⟨1, 65536, 0, 0, 65536, 0, 0, -16, 0, -1024⟩) from rfl))) ((hrrb.rd M12 (aP (i := 4) rfl)).someK ((show (([⟨1, 65536, 0, 0, 65536, 0, 0, -16, 0, -1024⟩, ⟨2, 65536, 0, 0, 0, 0, 131071, 0, 0, 0⟩] : List Body).map aI)[0]? = some (aI ⟨1, 65536, 0, 0, 65536, 0, 0, -16, 0, -1024⟩) from rfl)))) rfl rfl ?_
  refine aA (bM 8 eF (hrrb.rd M12 (aP (i := 4) rfl)) (Nat.lt_of_le_of_lt (Nat.zero_le _) ((hrrb.rd M12 (aP (i := 4) rfl)).below_len ((show (([⟨1, 65536, 0, 0, 65536, 0, 0, -16, 0, -1024⟩, ⟨2, 65536, 0, 0, 0, 0, 131071, 0, 0, 0⟩] : List Body).map aI)[0]? = some (aI ⟨1, 65536, 0, 0, 65536, 0, 0, -16, 0, -1024⟩) from rfl)))) rfl) rfl rfl ?_
  refine aA (lU (o := 8) _ bI (hrrb.rd M12 (aP (i := 4) rfl)) ((show (([⟨1, 65536, 0, 0, 65536, 0, 0, -16, 0, -1024⟩, ⟨2, 65536, 0, 0, 0, 0, 131071, 0, 0, 0⟩] : List Body).map aI)[0]? = some (aI ⟨1, 65536, 0, 0, 65536, 0, 0, -16, 0, -1024⟩) from rfl)) rfl rfl rfl) rfl rfl ?_
  refine aA (cC [(1, .int _ _)] _ dY rfl rfl) rfl rfl ?_
  refine aA (rN (aAo _ _ _ _) rfl rfl) rfl rfl ?_
  refine aM 66 (.bool true) (bT (by decide)).symm ?_
  refine aA (bP true (.bool true) rfl rfl) rfl rfl ?_
  refine aA (aC (.bool true) rfl) rfl rfl ?_
  refine aA (aC (.slice _ _ _) rfl) rfl rfl ?_
  refine aA (bO (1) dD rfl rfl rfl ((hrrb.rd M12 (aP (i := 4) rfl)).below_len ((show (([⟨1, 65536, 0, 0, 65536, 0, 0, -16, 0, -1024⟩, ⟨2, 65536, 0, 0, 0, 0, 131071, 0, 0, 0⟩] : List Body).map aI)[1]? = some (aI ⟨2, 65536, 0, 0, 0, 0, 131071, 0, 0, 0⟩) from rfl))) ((hrrb.rd M12 (aP (i := 4) rfl)).someK ((show (([⟨1, 65536, 0, 0, 65536, 0, 0, -16, 0, -1024⟩, ⟨2, 65536, 0, 0, 0, 0, 131071, 0, 0, 0⟩] : List Body).map aI)[1]? = some (aI ⟨2, 65536, 0, 0, 0, 0, 131071, 0, 0, 0⟩) from rfl)))) rfl rfl ?_
  refine aA (bM 8 eF (hrrb.rd M12 (aP (i := 4) rfl)) (Nat.lt_of_le_of_lt (Nat.zero_le _) ((hrrb.rd M12 (aP (i := 4) rfl)).below_len ((show (([⟨1, 65536, 0, 0, 65536, 0, 0, -16, 0, -1024⟩, ⟨2, 65536, 0, 0, 0, 0, 131071, 0, 0, 0⟩] : List Body).map aI)[1]? = some (aI ⟨2, 65536, 0, 0, 0, 0, 131071, 0, 0, 0⟩) from rfl)))) rfl) rfl rfl ?_
  refine aA (lU (o := 8) _ bI (hrrb.rd M12 (aP (i := 4) rfl)) ((show (([⟨1, 65536, 0, 0, 65536, 0, 0, -16, 0, -1024⟩, ⟨2, 65536, 0, 0, 0, 0, 131071, 0, 0, 0⟩] : List Body).map aI)[1]? = some (aI ⟨2, 65536, 0, 0, 0, 0, 131071, 0, 0, 0⟩) from rfl)) rfl rfl rfl) rfl rfl ?_
  refine aA (cC [] _ dY rfl rfl) rfl rfl ?_
  refine aA (rN (aAo _ _ _ _) rfl rfl) rfl rfl ?_
  refine aM 74 (.bool true) (bT (by decide)).symm ?_
  refine aA (bP true (.bool true) rfl rfl) rfl rfl ?_
  refine aA (aC (.bool true) rfl) rfl rfl ?_
  refine aA (bB 5 kZ M12 rfl rfl rfl) rfl rfl ?_
  refine aA (cC [(0, .int _ _), (1, .int _ _)] _ aCi rfl rfl) rfl rfl ?_
  refine aA (rN (aWf _ _ _ _ _ _) rfl rfl) rfl rfl ?_
  refine aM 79 (.bool true) (bT (by decide)).symm ?_
  refine aA (bP true (.bool true) rfl rfl) rfl rfl ?_
  refine aA (aC (.bool true) rfl) rfl rfl ?_
  refine aA (aC (.slice _ _ _) rfl) rfl rfl ?_
  refine aA (bO (0) dD rfl rfl rfl ((hrc.rd M12 (aP (i := 7) rfl)).below_len ((show (([⟨0, 65536, 0, 0, 65536, 0, 0, -48, 0, -2048⟩] : List Body).map aI)[0]? = some (aI ⟨0, 65536, 0, 0, 65536, 0, 0, -48, 0, -2048⟩) from rfl))) ((hrc.rd M12 (aP (i := 7) rfl)).someK ((show (([⟨0, 65536, 0, 0, 65536, 0, 0, -48, 0, -2048⟩] : List Body).map aI)[0]? = some (aI ⟨0, 65536, 0, 0, 65536, 0, 0, -48, 0, -2048⟩) from rfl)))) rfl rfl ?_
  refine aA (bM 6 eK (hrc.rd M12 (aP (i := 7) rfl)) (Nat.lt_of_le_of_lt (Nat.zero_le _) ((hrc.rd M12 (aP (i := 7) rfl)).below_len ((show (([⟨0, 65536, 0, 0, 65536, 0, 0, -48, 0, -2048⟩] : List Body).map aI)[0]? = some (aI ⟨0, 65536, 0, 0, 65536, 0, 0, -48, 0, -2048⟩) from rfl)))) rfl) rfl rfl ?_
  refine aA (lU (o := 6) _ bI (hrc.rd M12 (aP (i := 7) rfl)) ((show (([⟨0, 65536, 0, 0, 65536, 0, 0, -48, 0, -2048⟩] : List Body).map aI)[0]? = some (aI ⟨0, 65536, 0, 0, 65536, 0, 0, -48, 0, -2048⟩) from rfl)) rfl rfl rfl) rfl rfl ?_
  refine aA (cC [(1, .int _ _)] _ dY rfl rfl) rfl rfl ?_
  refine aA (rN (aAo _ _ _ _) rfl rfl) rfl rfl ?_
  refine aM 87 (.bool true) (bT (by decide)).symm ?_
  refine aA (bP true (.bool true) rfl rfl) rfl rfl ?_
  refine aA (aC (.bool true) rfl) rfl rfl ?_
  refine aA (cC [(1, .int _ _)] _ lC rfl rfl) rfl rfl ?_
  refine aL aWz rfl rfl rfl ?_
  refine (aGv _ ⟨0, 65536, 0, 0, 0, 0, 0, 0, 0, 0⟩ aOp).mono ?_
  rintro _ w13 ⟨v13, rfl, ⟨rfl, hb13⟩⟩
  refine ⟨_, rfl, ?_⟩
  have M13 := M12.callB hb13
  refine aM 91 (.agg (aI ⟨0, 65536, 0, 0, 0, 0, 0, 0, 0, 0⟩).toArray) (congrArg (fun b => Value.agg (aI b).toArray) aUs) ?_
  refine aA (cC [(1, .int _ _)] _ lC rfl rfl) rfl rfl ?_
  refine aA (rN (aMj ⟨0, 65536, 0, 0, 0, 0, 0, 0, 0, 0⟩ ⟨0, 65536, 0, 0, 0, 0, 0, 0, 0, 0⟩) rfl rfl) rfl rfl ?_
  refine aM 93 (.bool true) (bT (by decide)).symm ?_
  refine aA (bP true (.bool true) rfl rfl) rfl rfl ?_
  refine aA (aD (.bool true) rfl) rfl rfl ?_
  refine aE (aF (aR ?_))
  refine cI (.bool true) rfl ?_
  exact ⟨rfl, M13.below⟩
end Go.Proofs.YtlmcphcgiclanaaGreatDoor

namespace Go.Proofs.YtlmcphcgiclanaaGreatDoor
open Go.Bil
open Go.RowKit (Below)
open Go.Proofs
theorem aNl {b : Body} (h : Okb b) : check b = 0 := by
  have h1 := h.r
  have h2 := h.a
  have h3 := h.m
  have h4 := h.c
  have h5 := h.p
  have h6 := h.v
  unfold check oK
  rw [if_neg (by omega), if_neg (by omega), if_neg (by omega), if_neg (by omega), if_neg (by omega), if_neg (by omega)]
theorem aCw {v : List Body} (hl : v.length ≤ 4096) (h : ∀ b ∈ v, Okb b) (hs : bL v) : oI v = 0 := aIf (zN hl fun b hb => aNl (h b hb)) hs
theorem aGr {x y : Body} (h : SameB y x) : (⟨y.key, y.radius, y.ax, y.ay, y.mass, y.bounce, x.px, x.py, x.vx, x.vy⟩ : Body) = x := by
  obtain ⟨h1, h2, h3, h4, h5, h6⟩ := h
  rw [h1, h2, h3, h4, h5, h6]
end Go.Proofs.YtlmcphcgiclanaaGreatDoor
