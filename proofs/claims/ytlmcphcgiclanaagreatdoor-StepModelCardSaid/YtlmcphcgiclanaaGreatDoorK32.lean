/- Part of the proof of the laws of this seat: S20i, S20j, S20k, S20l, S20m, S20n, R20a, R20b, R20c, R20d, R20e, R20f, Aw20. No conditions. -/
import Derived.Test.YtlmcphcgiclanaaGreatDoorK5
import Derived.Test.YtlmcphcgiclanaaGreatDoorK27
import Derived.Test.YtlmcphcgiclanaaGreatDoorK31
import Derived.Test.YtlmcphcgiclanaaGreatDoorK30
import Derived.Test.YtlmcphcgiclanaaGreatDoorK28
set_option linter.unusedVariables false
set_option linter.unusedSimpArgs false
set_option linter.unnecessarySimpa false
namespace Go.Proofs.YtlmcphcgiclanaaGreatDoor
open Go.Bil
open Go.RowKit (Below)
open Go.Proofs
set_option maxHeartbeats 4000000 in
theorem pB (w : World) (a l : Int) (hl : 0 ≤ l ∧ l ≤ 2147483647) (bf : Nat) (fl : Bool) (F : Option Addr) (cf : Nat) (RF : Rd w 1 F 1 [[.pointer (some ⟨bf, 0, none⟩)]]) (hdF : 0 < 1 → ∀ q off, F = some ⟨q, off, none⟩ → q ∉ cT [(some bf, bc [.bool fl] 4)]) (hO : Own [(some bf, bc [.bool fl] 4)] w) :
    Calls Tryz.prog 85 #[.int .i64 a, .int .i64 l, .slice F 1 cf] w (fun ex w' => ∃ v, ex = .returned v ∧ (fun v w' => v = .int .i32 (gV a l) ∧ Mem w (cT [(some bf, bc [.bool fl] 4)]) [(some bf, bc [.bool (fl || decide (gV a l ≠ a))] 4)] w') v w') := by
  have hr := fA a hl.1
  refine aL #[.tmp 6] 34 Tryz.func85 rfl Tryz.results85 Tryz.ntmps85 rfl ?_
  have M0 := hO.mem
  refine aH (aB ?_)
  refine aA (aD (.int _ _) rfl) rfl rfl ?_
  refine aE (aF (aH (aB ?_)))
  refine aA (aC (.int _ _) rfl) rfl rfl ?_
  refine aA (aC (.int _ _) rfl) rfl rfl ?_
  refine aM aIe rfl rfl rfl ?_
  refine (yP _ a l (by omega)).mono ?_
  rintro _ w1 ⟨v1, rfl, ⟨rfl, hb1⟩⟩
  refine ⟨_, rfl, ?_⟩
  have M1 := M0.callB hb1
  refine aA (aC (.tuple (List.toArray _)) rfl) rfl rfl ?_
  refine aA (bI (.int _ _) rfl rfl) rfl rfl ?_
  refine aA (bI (.bool (decide _)) rfl rfl) rfl rfl ?_
  refine aA (aD (.int _ _) rfl) rfl rfl ?_
  refine aA (aD (.bool (decide _)) rfl) rfl rfl ?_
  refine aE (aF (aH (aH (aB ?_))))
  refine aA (aC (.slice _ _ _) rfl) rfl rfl ?_
  refine aA (dE Tryz.underlying175 rfl) rfl rfl ?_
  refine aK 18 (.int .i64 1) (iE rfl) ?_
  refine aA (aC (.int _ _) rfl) rfl rfl ?_
  refine aE (aF (aT ?_))
  refine gX 2 (fI ?_)
  refine aH (aB ?_)
  refine aA (aN (.bool (decide _)) rfl rfl rfl) rfl rfl ?_
  refine aK 20 (.bool true) (bT (by first | decide | omega)).symm ?_
  refine aE (aF (aH ?_))
  refine cM rfl ?_
  refine aO (aF (aH (aT (aH (aB ?_)))))
  refine aA (bN (0) aJv rfl rfl rfl ((RF.memY M1 hdF).below_len ((show ([[.pointer (some ⟨bf, 0, none⟩)]] : List (List Value))[0]? = some [.pointer (some ⟨bf, 0, none⟩)] from rfl))) ((RF.memY M1 hdF).someK ((show ([[.pointer (some ⟨bf, 0, none⟩)]] : List (List Value))[0]? = some [.pointer (some ⟨bf, 0, none⟩)] from rfl)))) rfl rfl ?_
  refine aA (lP (.pointer _) aXi (RF.memY M1 hdF) ((show ([[.pointer (some ⟨bf, 0, none⟩)]] : List (List Value))[0]? = some [.pointer (some ⟨bf, 0, none⟩)] from rfl)) rfl) rfl rfl ?_
  refine aA (aD (.pointer _) rfl) rfl rfl ?_
  refine aE (aF (aB ?_))
  refine aA (aC (.pointer _) rfl) rfl rfl ?_
  refine aA (aC (.pointer _) rfl) rfl rfl ?_
  refine aA (bO rfl) rfl rfl ?_
  refine aA (aQ 0 (.bool _) nE M1 rfl rfl rfl) rfl rfl ?_
  refine aA (aC (.bool _) rfl) rfl rfl ?_
  refine gK 27 _ rfl (fun g27 => ?_) (fun g27 => ?_)
  · refine aS rfl rfl ?_
    refine aA (bQ true (.bool true) rfl rfl) rfl rfl ?_
    refine aA (bO rfl) rfl rfl ?_
    refine cY 0 (.bool true) nE M1 rfl rfl rfl rfl rfl rfl (fun w2 M2 => ?_)
    refine aE ?_
    refine cS ?_
    refine aF (aB ?_)
    refine aA (aZ rfl rfl (by first | decide | omega) (by first | decide | omega)) rfl rfl ?_
    refine aK 31 (.int .i64 1) (iE (by first | decide | omega)) ?_
    refine aA (aC (.int _ _) rfl) rfl rfl ?_
    refine aE ?_
    refine aF (fI ?_)
    refine aH (aB ?_)
    refine aA (aN (.bool (decide _)) rfl rfl rfl) rfl rfl ?_
    refine aK 20 (.bool false) (bF (by first | decide | omega)).symm ?_
    refine aE (aF (aH ?_))
    refine cP rfl ?_
    refine cQ ?_
    refine cX (cX ?_)
    refine eJ ?_
    refine aF (aH (aB ?_))
    refine aA (aC (.int _ _) rfl) rfl rfl ?_
    refine aA (bC lD Tryz.underlying21 rfl (iF _ (by omega) (by omega))) rfl rfl ?_
    refine aA (aD (.int _ _) rfl) rfl rfl ?_
    refine aE (aF (aU ?_))
    refine cU (.int _ _) rfl ?_
    first | exact ⟨rfl, by rw [(by simp only [g27, Bool.true_or] : (fl || decide (gV a l ≠ a)) = true)]; exact M2⟩ | exact ⟨rfl, by rw [(by simp only [g27, Bool.false_or] : (fl || decide (gV a l ≠ a)) = decide (gV a l ≠ a))]; exact M2⟩
  · refine aA (aC (.bool (decide _)) rfl) rfl rfl ?_
    refine aA (bQ false (.bool (decide _)) rfl rfl) rfl rfl ?_
    refine aA (bO rfl) rfl rfl ?_
    refine cY 0 (.bool (decide _)) nE M1 rfl rfl rfl rfl rfl rfl (fun w3 M3 => ?_)
    refine aE ?_
    refine cS ?_
    refine aF (aB ?_)
    refine aA (aZ rfl rfl (by first | decide | omega) (by first | decide | omega)) rfl rfl ?_
    refine aK 31 (.int .i64 1) (iE (by first | decide | omega)) ?_
    refine aA (aC (.int _ _) rfl) rfl rfl ?_
    refine aE ?_
    refine aF (fI ?_)
    refine aH (aB ?_)
    refine aA (aN (.bool (decide _)) rfl rfl rfl) rfl rfl ?_
    refine aK 20 (.bool false) (bF (by first | decide | omega)).symm ?_
    refine aE (aF (aH ?_))
    refine cP rfl ?_
    refine cQ ?_
    refine cX (cX ?_)
    refine eJ ?_
    refine aF (aH (aB ?_))
    refine aA (aC (.int _ _) rfl) rfl rfl ?_
    refine aA (bC lD Tryz.underlying21 rfl (iF _ (by omega) (by omega))) rfl rfl ?_
    refine aA (aD (.int _ _) rfl) rfl rfl ?_
    refine aE (aF (aU ?_))
    refine cU (.int _ _) rfl ?_
    first | exact ⟨rfl, by rw [(by simp only [g27, Bool.true_or] : (fl || decide (gV a l ≠ a)) = true)]; exact M3⟩ | exact ⟨rfl, by rw [(by simp only [g27, Bool.false_or] : (fl || decide (gV a l ≠ a)) = decide (gV a l ≠ a))]; exact M3⟩
set_option maxHeartbeats 4000000 in
theorem aNl (w : World) (i : Int) (b : Body) (hb : Okb b) (bf : Nat) (fl : Bool) (hO : Own [(some bf, bc [.bool fl] 4)] w) :
    Calls Tryz.prog 83 #[.int .i64 i, (.agg (aI b).toArray), .pointer (some ⟨bf, 0, none⟩)] w (fun ex w' => ∃ v, ex = .returned v ∧ (fun v w' => v = (.agg (aI (iQ b)).toArray) ∧ Mem w (cT [(some bf, bc [.bool fl] 4)]) [(some bf, bc [.bool (fl || jS b)] 4)] w') v w') := by
  have hv := hb.v
  refine aL #[.cell 5 40] 19 Tryz.func83 rfl Tryz.results83 Tryz.ntmps83 rfl ?_
  have M0 := hO.mem
  refine aH (aB ?_)
  refine bM (.agg (List.toArray _)) M0 rfl rfl rfl (fun b1 w1 M1 => ?_)
  refine aV gG M1 rfl rfl (fun b2 w2 M2 => ?_)
  refine aE (aF (aH (aH (aB ?_))))
  refine aA (aR 1 bP M2 rfl rfl rfl) rfl rfl ?_
  refine aM bCl rfl rfl rfl ?_
  refine (zD _ b).mono ?_
  rintro _ w3 ⟨v3, rfl, ⟨rfl, hb3⟩⟩
  refine ⟨_, rfl, ?_⟩
  have M3 := M2.callB hb3
  refine aA (qS rfl) rfl rfl ?_
  refine aE (aF ?_)
  refine aX rfl (fun h8 => ?_) (fun h8 => ?_)
  · refine aB ?_
    refine aA (aG 8 dN rfl) rfl rfl ?_
    refine aA (aG 1 cJ rfl) rfl rfl ?_
    refine aA (aQ 1 (.int _ _) aW M3 rfl rfl rfl) rfl rfl ?_
    refine aA (bC dJ Tryz.underlying2 rfl (eT _ (by omega) (by omega))) rfl rfl ?_
    refine aA (fC rfl rfl (by omega) (by omega)) rfl rfl ?_
    refine cR [.pointer _] [[.pointer (some ⟨bf, 0, none⟩)]] rfl aJv M3 rfl rfl rfl rfl (cZ rfl) (by decide) (fun b4 w4 M4 => ?_)
    have hlit14 := jI (T := 133) (sz := 1) (b := b4) (nn := 1) [[.pointer (some ⟨bf, 0, none⟩)]] (by simp) rfl (by decide)
    refine aM aOm rfl rfl rfl ?_
    refine (pB _ (b.vy - 1024) 16777216 ⟨by decide, by decide⟩ bf _ _ 1 (hlit14.rd M4 (bH (i := 3) rfl)) (hlit14.awayB M4 3 0 rfl rfl rfl) (M4.ownSeg 0 1)).mono ?_
    rintro _ w5 ⟨v5, rfl, ⟨rfl, hM5⟩⟩
    refine ⟨_, rfl, ?_⟩
    have M5 : Mem _ _ [_, _, _, _] _ := M4.seg 0 1 hM5
    refine aA (aG 8 dN rfl) rfl rfl ?_
    refine aA (aG 1 cJ rfl) rfl rfl ?_
    refine cY 1 (.int _ _) aW M5 rfl rfl rfl rfl rfl rfl (fun w6 M6 => ?_)
    refine aE (aF (aH (aB ?_)))
    refine aA (aR 1 bP M6 rfl rfl rfl) rfl rfl ?_
    refine bL 2 _ bP M6 rfl rfl rfl rfl rfl (bA rfl) rfl (fun w7 M7 => ?_)
    refine aE (aF (aU ?_))
    refine gM 2 bP M7 rfl rfl rfl ?_
    exact ⟨by unfold iQ; rw [if_neg h8]; rfl, by rw [show jS b = decide (gV (b.vy - 1024) 16777216 ≠ b.vy - 1024) by unfold jS; rw [decide_eq_true h8, Bool.true_and]]; exact M7.keep [true, false, false, false]⟩
  · refine aO (aF (aH (aB ?_)))
    refine aA (aR 1 bP M3 rfl rfl rfl) rfl rfl ?_
    refine bL 2 _ bP M3 rfl rfl rfl rfl rfl (bA rfl) rfl (fun w8 M8 => ?_)
    refine aE (aF (aU ?_))
    refine gM 2 bP M8 rfl rfl rfl ?_
    exact ⟨by unfold iQ; rw [if_pos (Decidable.not_not.1 h8)]; rfl, by rw [show jS b = false by unfold jS; rw [decide_eq_false h8, Bool.false_and], Bool.or_false]; exact M8.keep [true, false, false]⟩
set_option maxHeartbeats 4000000 in
theorem aHa (w : World) (A : Option Addr) (n c : Nat) (xs : List Body) (R : Rd w 10 A n (xs.map aI)) (hb : ∀ b ∈ xs, Okb b) (hn : n ≤ 1048576) (bf : Nat) (hO : Own [(some bf, bc [.bool false] 4)] w) (hdA : 0 < n → ∀ q off, A = some ⟨q, off, none⟩ → q ∉ cT [(some bf, bc [.bool false] 4)]) :
    Calls Tryz.prog 82 #[.slice A n c, .func (.func 83) #[] #[.pointer (some ⟨bf, 0, none⟩)]] w (fun ex w' => ∃ v, ex = .returned v ∧ (fun v w' => ∃ r : Row, v = .slice r.A r.n r.c ∧ bK 40 10 r.A r.n r.c ((lX xs).map aI) r.e ∧ Mem w (cT [(some bf, bc [.bool false] 4)]) [(some bf, bc [.bool (xs.any jS)] 4), r.e] w') v w') := by
  have hlen : xs.length = n := by simpa using R.len
  have hbd := R.bound
  refine aL #[.tmp 4] 24 Tryz.func82 rfl Tryz.results82 Tryz.ntmps82 rfl ?_
  have M0 := hO.mem
  refine aH (aB ?_)
  refine aA (aD (.slice _ _ _) rfl) rfl rfl ?_
  refine aE (aF (aH (aB ?_)))
  refine aA (aD (.slice _ _ _) rfl) rfl rfl ?_
  have M1 := M0.dummy default
  refine aE (aF (aH (aH (aB ?_))))
  refine aA (aC (.slice _ _ _) rfl) rfl rfl ?_
  refine aA (dE Tryz.underlying22 rfl) rfl rfl ?_
  refine aA (aC (.int _ _) rfl) rfl rfl ?_
  refine aE (aF (aT ?_))
  refine dM (σ := Nat × Row) [1, 4, 8, 9] (fun (k, q) => [(5, .slice q.A q.n q.c), (10, .int .i64 (k : Int))]) (fun (k, q) w' => (k ≤ n ∧ bK 40 10 q.A q.n q.c (((xs.take k).map iQ).map aI) q.e) ∧ Mem w (cT [(some bf, bc [.bool false] 4)]) [(some bf, bc [.bool ((xs.take k).any jS)] 4), q.e] w') (fun (k, q) => n - k) (0, gH) (bB rfl (bB rfl dO)) (⟨⟨by omega, bK.nil _ _ _⟩, M1⟩) ?_
  rintro ⟨k, q⟩ ρ2 w2 ⟨⟨hk, hq⟩, hM2⟩
  have htl := List.length_take_le k xs
  have hqn : (xs.take k).length = q.n := by simpa using hq.1
  refine aH (aB ?_)
  refine aA (aN (.bool (decide _)) rfl rfl rfl) rfl rfl ?_
  refine aE (aF (aH ?_))
  refine aX rfl (fun h11 => ?_) (fun h11 => ?_)
  · obtain ⟨xb, hxb⟩ := dA (xs := xs) (k := k) hlen (by omega)
    refine aO (aF (aH (aT (aH (aB ?_)))))
    refine aA (aC (.int _ _) rfl) rfl rfl ?_
    refine aA (bN (k) cW rfl rfl rfl ((R.memY hM2 hdA).below_len (aJ aI hxb)) ((R.memY hM2 hdA).someK (aJ aI hxb))) rfl rfl ?_
    refine aA (dG _ bP (R.memY hM2 hdA) (aJ aI hxb) rfl) rfl rfl ?_
    refine aV gG hM2 rfl rfl (fun b3 w3 M3 => ?_)
    refine aA (aD (.int _ _) rfl) rfl rfl ?_
    refine bL 2 _ bP M3 rfl rfl rfl rfl rfl (bA rfl) rfl (fun w4 M4 => ?_)
    refine aE (aF (aB ?_))
    refine aA (aC (.slice _ _ _) rfl) rfl rfl ?_
    refine aA (aC (.func _ _ _) rfl) rfl rfl ?_
    refine aA (aC (.int _ _) rfl) rfl rfl ?_
    refine aA (aR 2 bP M4 rfl rfl rfl) rfl rfl ?_
    refine aM bBz rfl rfl rfl ?_
    refine (aNl _ _ xb (hb xb (List.mem_of_getElem? hxb)) bf _ (M4.ownSeg 0 1)).mono ?_
    rintro _ w5 ⟨v5, rfl, ⟨rfl, hM5⟩⟩
    refine ⟨_, rfl, ?_⟩
    have M5 : Mem _ _ [_, _, _] _ := M4.seg 0 1 hM5
    refine cR [.agg (List.toArray _)] [aI (iQ xb)] rfl cW M5 rfl rfl rfl rfl (cZ rfl) (by decide) (fun b6 w6 M6 => ?_)
    refine dB 1 [aI (iQ xb)] cW M6 rfl rfl rfl rfl rfl hq rfl (by simp [aI, Go.Bil.one]) (dD.ofMem 3 M6 rfl) (by omega) (fun A7 c7 e7 w7 M7 hR7 => ?_)
    refine aA (aD (.slice _ _ _) rfl) rfl rfl ?_
    refine aE ?_
    refine cS ?_
    refine aF (aB ?_)
    refine aA (aZ rfl rfl (by omega) (by omega)) rfl rfl ?_
    refine aA (aC (.int _ _) rfl) rfl rfl ?_
    refine aE ?_
    refine cA (k + 1, ⟨A7, q.n + 1, c7, e7⟩) (bB rfl (bB rfl dO)) (cD rfl (cD rfl (cD rfl (cD rfl fS)))) ?_ ?_
    · exact ⟨⟨by omega, by rw [cE hxb, List.map_append, List.map_append]; exact hR7⟩, by rw [cE hxb, List.any_append, List.any_cons, List.any_nil, Bool.or_false]; exact M7.keep [true, true, false, false]⟩
    · (show n - (k + 1) < n - k; omega)
  · have hkn : k = n := by omega
    rw [List.take_of_length_le (by omega)] at hq
    rw [List.take_of_length_le (by omega)] at hM2
    refine cQ ?_
    refine cX ?_
    refine dF ?_
    refine eJ ?_
    refine aF (aH (aB ?_))
    refine aA (aC (.slice _ _ _) rfl) rfl rfl ?_
    refine aA (aD (.slice _ _ _) rfl) rfl rfl ?_
    refine aE (aF (aU ?_))
    refine cU (.slice _ _ _) rfl ?_
    exact ⟨q, rfl, hq, hM2⟩
set_option maxHeartbeats 4000000 in
theorem uQ (w : World) (A : Option Addr) (n c : Nat) (xs : List Body) (R : Rd w 10 A n (xs.map aI)) (hb : ∀ b ∈ xs, Okb b) (hn : n ≤ 1048576) :
    Calls Tryz.prog 53 #[.slice A n c] w (fun ex w' => ∃ v, ex = .returned v ∧ (fun v w' => ∃ r : Row, v = .tuple #[.slice r.A r.n r.c, .bool (xs.any jS)] ∧ bK 40 10 r.A r.n r.c ((lX xs).map aI) r.e ∧ Mem w [] [r.e] w') v w') := by
  refine aL #[.tmp 2, .tmp 3] 11 Tryz.func53 rfl Tryz.results53 Tryz.ntmps53 rfl ?_
  have M0 := Mem.refl w
  refine aH (aB ?_)
  refine aA (aD (.slice _ _ _) rfl) rfl rfl ?_
  refine aA (aD (.bool false) rfl) rfl rfl ?_
  refine aE (aF (aH (aB ?_)))
  refine aV aPg M0 rfl rfl (fun b1 w1 M1 => ?_)
  refine cY 0 (.bool false) nE M1 rfl rfl rfl rfl rfl rfl (fun w2 M2 => ?_)
  refine aE (aF (aH (aB ?_)))
  refine aA (aC (.slice _ _ _) rfl) rfl rfl ?_
  refine aA (eH [] [.pointer _] rfl rfl) rfl rfl ?_
  refine aM aWx rfl rfl rfl ?_
  refine (aHa _ A n c xs (R.mem M2) hb hn b1 (M2.ownSeg 0 1) (M2.away 0 1 R (by simp))).mono ?_
  rintro _ w3 ⟨v3, rfl, ⟨r, rfl, hr, hM3⟩⟩
  refine ⟨_, rfl, ?_⟩
  have M3 : Mem _ _ [_, _] _ := M2.seg 0 1 hM3
  refine aA (aD (.slice _ _ _) rfl) rfl rfl ?_
  refine aE (aF (aH ?_))
  refine bY [(0, 0), (1, 1), (2, 0), (3, 0)] mixed rfl (by kernel_rfl) (fun w4 hb4 hh4 => ?_)
  have M4 := M3.drew hb4 hh4
  refine aP rfl rfl rfl (fun _ => aC (.slice _ _ _) rfl) ?_
  refine cB rfl rfl rfl (aQ 0 (.bool _) nE M4 rfl rfl rfl) ?_
  refine aP rfl rfl rfl (fun _ => aD (.slice _ _ _) rfl) ?_
  refine aP rfl rfl rfl (fun _ => aD (.bool _) rfl) ?_
  refine cI ?_
  refine aF (aU ?_)
  refine fR (.slice _ _ _) (.bool _) rfl rfl ?_
  exact ⟨r, rfl, hr, M4.keep [false, true]⟩
end Go.Proofs.YtlmcphcgiclanaaGreatDoor

namespace Go.Proofs.YtlmcphcgiclanaaGreatDoor
open Go.Bil
open Go.RowKit (Below)
open Go.Proofs
set_option maxHeartbeats 4000000 in
theorem aMc (w : World) (i : Nat) (b : Body) (hb : Okb b) (bf bl : Nat) (fl : Bool) (C : Option Addr) (m cm : Nat) (l : List (Int × Int)) (RS : Rd w 2 C m (l.map bU)) (s : Int × Int) (hs : l[i]? = some s) (hsb : (-1152921504606846976 ≤ s.1 ∧ s.1 ≤ 1152921504606846976) ∧ -1152921504606846976 ≤ s.2 ∧ s.2 ≤ 1152921504606846976) (hO : Own [(some bf, bc [.bool fl] 4), (some bl, bc [.slice C m cm] 97)] w) (hdS : 0 < m → ∀ q off, C = some ⟨q, off, none⟩ → q ∉ cT [(some bf, bc [.bool fl] 4), (some bl, bc [.slice C m cm] 97)]) :
    Calls Tryz.prog 86 #[.int .i64 (i : Int), (.agg (aI b).toArray), .pointer (some ⟨bl, 0, none⟩), .pointer (some ⟨bf, 0, none⟩)] w (fun ex w' => ∃ v, ex = .returned v ∧ (fun v w' => v = (.agg (aI (mM b s.1 s.2)).toArray) ∧ Mem w (cT [(some bf, bc [.bool fl] 4), (some bl, bc [.slice C m cm] 97)]) [(some bf, bc [.bool (fl || yT b s.1 s.2)] 4), (some bl, bc [.slice C m cm] 97)] w') v w') := by
  have hv := hb.v
  have hpp := hb.p
  have hlm : l.length = m := by simpa using RS.len
  have hil := (List.getElem?_eq_some_iff.1 hs).1
  refine aL #[.cell 6 40] 50 Tryz.func86 rfl Tryz.results86 Tryz.ntmps86 rfl ?_
  have M0 := hO.mem
  refine aH (aB ?_)
  refine bM (.agg (List.toArray _)) M0 rfl rfl rfl (fun b1 w1 M1 => ?_)
  refine aV gG M1 rfl rfl (fun b2 w2 M2 => ?_)
  refine aE (aF (aH ?_))
  refine bY [(0, 0), (1, 0), (2, 1), (3, 0), (4, 1), (5, 0), (6, 1), (7, 1), (8, 1), (9, 0), (10, 0), (11, 0), (12, 1), (13, 0), (14, 0), (15, 0), (16, 0)] mixed rfl (by kernel_rfl) (fun w3 hb3 hh3 => ?_)
  have M3 := M2.drew hb3 hh3
  refine aP rfl rfl rfl (fun _ => aG 6 eO rfl) ?_
  refine aP rfl rfl rfl (fun _ => aG 0 cN rfl) ?_
  refine cB rfl rfl rfl (aQ 2 (.int _ _) aW M3 rfl rfl rfl) ?_
  refine aP rfl rfl rfl (fun _ => bC dJ Tryz.underlying2 rfl (eT _ (by omega) (by omega))) ?_
  refine cB rfl rfl rfl (aQ 1 (.slice _ _ _) aAr M3 rfl rfl rfl) ?_
  refine aP rfl rfl rfl (fun _ => aC (.int _ _) rfl) ?_
  refine cB rfl rfl rfl (bN (i) aEt rfl rfl rfl ((RS.memY M3 hdS).below_len (aJ bU hs)) ((RS.memY M3 hdS).someK (aJ bU hs))) ?_
  refine cB rfl rfl rfl (bG 0 yK (RS.memY M3 hdS) (Nat.lt_of_le_of_lt (Nat.zero_le _) ((RS.memY M3 hdS).below_len (aJ bU hs))) rfl) ?_
  refine cB rfl rfl rfl (dR (o := 0) (.int _ _) gA (RS.memY M3 hdS) (aJ bU hs) rfl rfl) ?_
  refine aP rfl rfl rfl (fun _ => aZ rfl rfl (by omega) (by omega)) ?_
  refine aP rfl rfl rfl (fun _ => aG 8 dN rfl) ?_
  refine aP rfl rfl rfl (fun _ => aG 0 cN rfl) ?_
  refine cB rfl rfl rfl (aQ 2 (.int _ _) aW M3 rfl rfl rfl) ?_
  refine aP rfl rfl rfl (fun _ => jN rfl rfl (by decide)) ?_
  refine eG 22 (.int .i32 (b.vx / 64)) (iE (aFs _)) ?_
  refine aP rfl rfl rfl (fun _ => bC dJ Tryz.underlying2 rfl (eT _ (by omega) (by omega))) ?_
  refine aP rfl rfl rfl (fun _ => aZ rfl rfl (by omega) (by omega)) ?_
  refine eG 24 (.int .i64 (zA b s.1)) rfl ?_
  refine aP rfl rfl rfl (fun _ => aD (.int _ _) rfl) ?_
  refine cI ?_
  refine aF (aH ?_)
  refine bY [(0, 0), (1, 0), (2, 1), (3, 0), (4, 1), (5, 0), (6, 1), (7, 1), (8, 1), (9, 0), (10, 0), (11, 0), (12, 1), (13, 0), (14, 0), (15, 0), (16, 0)] mixed rfl (by kernel_rfl) (fun w4 hb4 hh4 => ?_)
  have M4 := M3.drew hb4 hh4
  refine aP rfl rfl rfl (fun _ => aG 6 eO rfl) ?_
  refine aP rfl rfl rfl (fun _ => aG 1 cJ rfl) ?_
  refine cB rfl rfl rfl (aQ 2 (.int _ _) aW M4 rfl rfl rfl) ?_
  refine aP rfl rfl rfl (fun _ => bC dJ Tryz.underlying2 rfl (eT _ (by omega) (by omega))) ?_
  refine cB rfl rfl rfl (aQ 1 (.slice _ _ _) aAr M4 rfl rfl rfl) ?_
  refine aP rfl rfl rfl (fun _ => aC (.int _ _) rfl) ?_
  refine cB rfl rfl rfl (bN (i) aEt rfl rfl rfl ((RS.memY M4 hdS).below_len (aJ bU hs)) ((RS.memY M4 hdS).someK (aJ bU hs))) ?_
  refine cB rfl rfl rfl (bG 1 xN (RS.memY M4 hdS) (Nat.lt_of_le_of_lt (Nat.zero_le _) ((RS.memY M4 hdS).below_len (aJ bU hs))) rfl) ?_
  refine cB rfl rfl rfl (dR (o := 1) (.int _ _) gA (RS.memY M4 hdS) (aJ bU hs) rfl rfl) ?_
  refine aP rfl rfl rfl (fun _ => aZ rfl rfl (by omega) (by omega)) ?_
  refine aP rfl rfl rfl (fun _ => aG 8 dN rfl) ?_
  refine aP rfl rfl rfl (fun _ => aG 1 cJ rfl) ?_
  refine cB rfl rfl rfl (aQ 2 (.int _ _) aW M4 rfl rfl rfl) ?_
  refine aP rfl rfl rfl (fun _ => jN rfl rfl (by decide)) ?_
  refine eG 38 (.int .i32 (b.vy / 64)) (iE (aFs _)) ?_
  refine aP rfl rfl rfl (fun _ => bC dJ Tryz.underlying2 rfl (eT _ (by omega) (by omega))) ?_
  refine aP rfl rfl rfl (fun _ => aZ rfl rfl (by omega) (by omega)) ?_
  refine eG 40 (.int .i64 (yW b s.2)) rfl ?_
  refine aP rfl rfl rfl (fun _ => aD (.int _ _) rfl) ?_
  refine cI ?_
  refine aF (aH (aB ?_))
  refine aA (aC (.int _ _) rfl) rfl rfl ?_
  refine cR [.pointer _] [[.pointer (some ⟨bf, 0, none⟩)]] rfl aJv M4 rfl rfl rfl rfl (cZ rfl) (by decide) (fun b5 w5 M5 => ?_)
  have hlit42 := jI (T := 133) (sz := 1) (b := b5) (nn := 1) [[.pointer (some ⟨bf, 0, none⟩)]] (by simp) rfl (by decide)
  refine aM aOm rfl rfl rfl ?_
  refine (pB _ (zA b s.1) 1073741824 ⟨by decide, by decide⟩ bf _ _ 1 (hlit42.rd M5 (bH (i := 4) rfl)) (hlit42.awayB M5 4 0 rfl rfl rfl) (M5.ownSeg 0 1)).mono ?_
  rintro _ w6 ⟨v6, rfl, ⟨rfl, hM6⟩⟩
  refine ⟨_, rfl, ?_⟩
  have M6 : Mem _ _ [_, _, _, _, _] _ := M5.seg 0 1 hM6
  refine aA (aC (.int _ _) rfl) rfl rfl ?_
  refine cR [.pointer _] [[.pointer (some ⟨bf, 0, none⟩)]] rfl aJv M6 rfl rfl rfl rfl (cZ rfl) (by decide) (fun b7 w7 M7 => ?_)
  have hlit45 := jI (T := 133) (sz := 1) (b := b7) (nn := 1) [[.pointer (some ⟨bf, 0, none⟩)]] (by simp) rfl (by decide)
  refine aM aOm rfl rfl rfl ?_
  refine (pB _ (yW b s.2) 1073741824 ⟨by decide, by decide⟩ bf _ _ 1 (hlit45.rd M7 (bH (i := 5) rfl)) (hlit45.awayB M7 5 0 rfl rfl rfl) (M7.ownSeg 0 1)).mono ?_
  rintro _ w8 ⟨v8, rfl, ⟨rfl, hM8⟩⟩
  refine ⟨_, rfl, ?_⟩
  have M8 : Mem _ _ [_, _, _, _, _, _] _ := M7.seg 0 1 hM8
  refine aA (cL [(0, .int _ _), (1, .int _ _)] _ dW rfl rfl) rfl rfl ?_
  refine aA (aG 6 eO rfl) rfl rfl ?_
  refine tY 2 _ bE M8 rfl rfl rfl rfl rfl (bA rfl) (Nat.le_of_ble_eq_true rfl) (fun w9 M9 => ?_)
  refine aE (aF (aH (aB ?_)))
  refine aA (aR 2 bP M9 rfl rfl rfl) rfl rfl ?_
  refine bL 3 _ bP M9 rfl rfl rfl rfl rfl (bA rfl) rfl (fun w10 M10 => ?_)
  refine aE (aF (aU ?_))
  refine gM 3 bP M10 rfl rfl rfl ?_
  exact ⟨rfl, by rw [show (fl || yT b s.1 s.2) = ((fl || decide (gV (zA b s.1) 1073741824 ≠ zA b s.1)) || decide (gV (yW b s.2) 1073741824 ≠ yW b s.2)) from (Bool.or_assoc _ _ _).symm]; exact M10.keep [true, true, false, false, false, false]⟩
end Go.Proofs.YtlmcphcgiclanaaGreatDoor

namespace Go.Proofs.YtlmcphcgiclanaaGreatDoor
open Go.Bil
open Go.RowKit (Below)
open Go.Proofs
set_option maxHeartbeats 4000000 in
theorem aGv (w : World) (A : Option Addr) (n c : Nat) (xs : List Body) (R : Rd w 10 A n (xs.map aI)) (hb : ∀ b ∈ xs, Okb b) (hn : n ≤ 1048576) (bf bl : Nat) (G : Body → Int × Int) (hG : ∀ b ∈ xs, (-1152921504606846976 ≤ (G b).1 ∧ (G b).1 ≤ 1152921504606846976) ∧ -1152921504606846976 ≤ (G b).2 ∧ (G b).2 ≤ 1152921504606846976) (C : Option Addr) (cm : Nat) (RS : Rd w 2 C n ((xs.map G).map bU)) (hO : Own [(some bf, bc [.bool false] 4), (some bl, bc [.slice C n cm] 97)] w) (hdA : 0 < n → ∀ q off, A = some ⟨q, off, none⟩ → q ∉ cT [(some bf, bc [.bool false] 4), (some bl, bc [.slice C n cm] 97)]) (hdS : 0 < n → ∀ q off, C = some ⟨q, off, none⟩ → q ∉ cT [(some bf, bc [.bool false] 4), (some bl, bc [.slice C n cm] 97)]) :
    Calls Tryz.prog 82 #[.slice A n c, .func (.func 86) #[] #[.pointer (some ⟨bl, 0, none⟩), .pointer (some ⟨bf, 0, none⟩)]] w (fun ex w' => ∃ v, ex = .returned v ∧ (fun v w' => ∃ r : Row, v = .slice r.A r.n r.c ∧ bK 40 10 r.A r.n r.c ((xs.map (fun b => mM b (G b).1 (G b).2)).map aI) r.e ∧ Mem w (cT [(some bf, bc [.bool false] 4), (some bl, bc [.slice C n cm] 97)]) [(some bf, bc [.bool (xs.any (fun b => yT b (G b).1 (G b).2))] 4), (some bl, bc [.slice C n cm] 97), r.e] w') v w') := by
  have hlen : xs.length = n := by simpa using R.len
  have hbd := R.bound
  refine aL #[.tmp 4] 24 Tryz.func82 rfl Tryz.results82 Tryz.ntmps82 rfl ?_
  have M0 := hO.mem
  refine aH (aB ?_)
  refine aA (aD (.slice _ _ _) rfl) rfl rfl ?_
  refine aE (aF (aH (aB ?_)))
  refine aA (aD (.slice _ _ _) rfl) rfl rfl ?_
  have M1 := M0.dummy default
  refine aE (aF (aH (aH (aB ?_))))
  refine aA (aC (.slice _ _ _) rfl) rfl rfl ?_
  refine aA (dE Tryz.underlying22 rfl) rfl rfl ?_
  refine aA (aC (.int _ _) rfl) rfl rfl ?_
  refine aE (aF (aT ?_))
  refine dM (σ := Nat × Row) [1, 4, 8, 9] (fun (k, q) => [(5, .slice q.A q.n q.c), (10, .int .i64 (k : Int))]) (fun (k, q) w' => (k ≤ n ∧ bK 40 10 q.A q.n q.c (((xs.take k).map (fun b => mM b (G b).1 (G b).2)).map aI) q.e) ∧ Mem w (cT [(some bf, bc [.bool false] 4), (some bl, bc [.slice C n cm] 97)]) [(some bf, bc [.bool ((xs.take k).any (fun b => yT b (G b).1 (G b).2))] 4), (some bl, bc [.slice C n cm] 97), q.e] w') (fun (k, q) => n - k) (0, gH) (bB rfl (bB rfl dO)) (⟨⟨by omega, bK.nil _ _ _⟩, M1⟩) ?_
  rintro ⟨k, q⟩ ρ2 w2 ⟨⟨hk, hq⟩, hM2⟩
  have htl := List.length_take_le k xs
  have hqn : (xs.take k).length = q.n := by simpa using hq.1
  refine aH (aB ?_)
  refine aA (aN (.bool (decide _)) rfl rfl rfl) rfl rfl ?_
  refine aE (aF (aH ?_))
  refine aX rfl (fun h11 => ?_) (fun h11 => ?_)
  · obtain ⟨xb, hxb⟩ := dA (xs := xs) (k := k) hlen (by omega)
    refine aO (aF (aH (aT (aH (aB ?_)))))
    refine aA (aC (.int _ _) rfl) rfl rfl ?_
    refine aA (bN (k) cW rfl rfl rfl ((R.memY hM2 hdA).below_len (aJ aI hxb)) ((R.memY hM2 hdA).someK (aJ aI hxb))) rfl rfl ?_
    refine aA (dG _ bP (R.memY hM2 hdA) (aJ aI hxb) rfl) rfl rfl ?_
    refine aV gG hM2 rfl rfl (fun b3 w3 M3 => ?_)
    refine aA (aD (.int _ _) rfl) rfl rfl ?_
    refine bL 3 _ bP M3 rfl rfl rfl rfl rfl (bA rfl) rfl (fun w4 M4 => ?_)
    refine aE (aF (aB ?_))
    refine aA (aC (.slice _ _ _) rfl) rfl rfl ?_
    refine aA (aC (.func _ _ _) rfl) rfl rfl ?_
    refine aA (aC (.int _ _) rfl) rfl rfl ?_
    refine aA (aR 3 bP M4 rfl rfl rfl) rfl rfl ?_
    refine aM bBs rfl rfl rfl ?_
    refine (aMc _ k xb (hb xb (List.mem_of_getElem? hxb)) bf bl _ C n cm (xs.map G) (RS.memY M4 hdS) (G xb) (aJ G hxb) (hG xb (List.mem_of_getElem? hxb)) (M4.ownSeg 0 2) (M4.away 0 2 RS hdS)).mono ?_
    rintro _ w5 ⟨v5, rfl, ⟨rfl, hM5⟩⟩
    refine ⟨_, rfl, ?_⟩
    have M5 : Mem _ _ [_, _, _, _] _ := M4.seg 0 2 hM5
    refine cR [.agg (List.toArray _)] [aI (mM xb (G xb).1 (G xb).2)] rfl cW M5 rfl rfl rfl rfl (cZ rfl) (by decide) (fun b6 w6 M6 => ?_)
    refine dB 2 [aI (mM xb (G xb).1 (G xb).2)] cW M6 rfl rfl rfl rfl rfl hq rfl (by simp [aI, Go.Bil.one]) (dD.ofMem 4 M6 rfl) (by omega) (fun A7 c7 e7 w7 M7 hR7 => ?_)
    refine aA (aD (.slice _ _ _) rfl) rfl rfl ?_
    refine aE ?_
    refine cS ?_
    refine aF (aB ?_)
    refine aA (aZ rfl rfl (by omega) (by omega)) rfl rfl ?_
    refine aA (aC (.int _ _) rfl) rfl rfl ?_
    refine aE ?_
    refine cA (k + 1, ⟨A7, q.n + 1, c7, e7⟩) (bB rfl (bB rfl dO)) (cD rfl (cD rfl (cD rfl (cD rfl fS)))) ?_ ?_
    · exact ⟨⟨by omega, by rw [cE hxb, List.map_append, List.map_append]; exact hR7⟩, by rw [cE hxb, List.any_append, List.any_cons, List.any_nil, Bool.or_false]; exact M7.keep [true, true, true, false, false]⟩
    · (show n - (k + 1) < n - k; omega)
  · have hkn : k = n := by omega
    rw [List.take_of_length_le (by omega)] at hq
    rw [List.take_of_length_le (by omega)] at hM2
    refine cQ ?_
    refine cX ?_
    refine dF ?_
    refine eJ ?_
    refine aF (aH (aB ?_))
    refine aA (aC (.slice _ _ _) rfl) rfl rfl ?_
    refine aA (aD (.slice _ _ _) rfl) rfl rfl ?_
    refine aE (aF (aU ?_))
    refine cU (.slice _ _ _) rfl ?_
    exact ⟨q, rfl, hq, hM2⟩
set_option maxHeartbeats 4000000 in
theorem aEr (w : World) (A : Option Addr) (n c : Nat) (xs : List Body) (R : Rd w 10 A n (xs.map aI)) (hb : ∀ b ∈ xs, Okb b) (hn : n ≤ 1048576) (G : Body → Int × Int) (hG : ∀ b ∈ xs, (-1152921504606846976 ≤ (G b).1 ∧ (G b).1 ≤ 1152921504606846976) ∧ -1152921504606846976 ≤ (G b).2 ∧ (G b).2 ≤ 1152921504606846976) (C : Option Addr) (cm : Nat) (RS : Rd w 2 C n ((xs.map G).map bU)) :
    Calls Tryz.prog 54 #[.slice A n c, .slice C n cm] w (fun ex w' => ∃ v, ex = .returned v ∧ (fun v w' => ∃ r : Row, v = .tuple #[.slice r.A r.n r.c, .bool (xs.any (fun b => yT b (G b).1 (G b).2))] ∧ bK 40 10 r.A r.n r.c ((xs.map (fun b => mM b (G b).1 (G b).2)).map aI) r.e ∧ Mem w [] [r.e] w') v w') := by
  refine aL #[.tmp 4, .tmp 5] 13 Tryz.func54 rfl Tryz.results54 Tryz.ntmps54 rfl ?_
  have M0 := Mem.refl w
  refine aH (aB ?_)
  refine bM (.slice _ _ _) M0 rfl rfl rfl (fun b1 w1 M1 => ?_)
  refine aA (aD (.slice _ _ _) rfl) rfl rfl ?_
  refine aA (aD (.bool false) rfl) rfl rfl ?_
  refine aE (aF (aH (aB ?_)))
  refine aV aPg M1 rfl rfl (fun b2 w2 M2 => ?_)
  refine cY 1 (.bool false) nE M2 rfl rfl rfl rfl rfl rfl (fun w3 M3 => ?_)
  refine aE (aF (aH (aB ?_)))
  have M4 : Mem _ _ [_, _] _ := Mem.swap2 M3
  refine aA (aC (.slice _ _ _) rfl) rfl rfl ?_
  refine aA (eH [] [.pointer _, .pointer _] rfl rfl) rfl rfl ?_
  refine aM aWx rfl rfl rfl ?_
  refine (aGv _ A n c xs (R.mem M4) hb hn b2 b1 G hG C cm (RS.mem M4) (M4.ownSeg 0 2) (M4.away 0 2 R (by simp)) (M4.away 0 2 RS (by simp))).mono ?_
  rintro _ w5 ⟨v5, rfl, ⟨r, rfl, hr, hM5⟩⟩
  refine ⟨_, rfl, ?_⟩
  have M5 : Mem _ _ [_, _, _] _ := M4.seg 0 2 hM5
  refine aA (aD (.slice _ _ _) rfl) rfl rfl ?_
  refine aE (aF (aH ?_))
  refine bY [(0, 0), (1, 1), (2, 0), (3, 0)] mixed rfl (by kernel_rfl) (fun w6 hb6 hh6 => ?_)
  have M6 := M5.drew hb6 hh6
  refine aP rfl rfl rfl (fun _ => aC (.slice _ _ _) rfl) ?_
  refine cB rfl rfl rfl (aQ 0 (.bool _) nE M6 rfl rfl rfl) ?_
  refine aP rfl rfl rfl (fun _ => aD (.slice _ _ _) rfl) ?_
  refine aP rfl rfl rfl (fun _ => aD (.bool _) rfl) ?_
  refine cI ?_
  refine aF (aU ?_)
  refine fR (.slice _ _ _) (.bool _) rfl rfl ?_
  exact ⟨r, rfl, hr, M6.keep [false, false, true]⟩
set_option maxHeartbeats 4000000 in
theorem aLu (w : World) (b : Body) (hb : Okb b) :
    Calls Tryz.prog 23 #[(.agg (aI b).toArray)] w (fun ex w' => ∃ v, ex = .returned v ∧ (fun v w' => v = (.agg (aI (aGb b)).toArray) ∧ Below w.heap.size w w') v w') := by
  refine aL #[.cell 2 40] 20 Tryz.func23 rfl Tryz.results23 Tryz.ntmps23 rfl ?_
  have M0 := Mem.refl w
  refine aH (aB ?_)
  refine bM (.agg (List.toArray _)) M0 rfl rfl rfl (fun b1 w1 M1 => ?_)
  refine aV gG M1 rfl rfl (fun b2 w2 M2 => ?_)
  refine aE (aF (aH (aB ?_)))
  refine aA (aR 0 bP M2 rfl rfl rfl) rfl rfl ?_
  refine cR [.agg (List.toArray _)] [aI (b)] rfl cW M2 rfl rfl rfl rfl (cZ rfl) (by decide) (fun b3 w3 M3 => ?_)
  have hlit7 := jI (T := 40) (b := b3) (nn := 1) (([b] : List Body).map aI) (oB _) rfl (by decide)
  refine aM aWa rfl rfl rfl ?_
  refine (uQ _ _ _ _ [b] (hlit7.rd M3 (bH (i := 2) rfl)) (by intro y hy; rw [List.mem_singleton] at hy; subst hy; exact hb) (by decide)).mono ?_
  rintro _ w4 ⟨v4, rfl, ⟨⟨rA, rn, rc, re⟩, rfl, hr, hM4⟩⟩
  refine ⟨_, rfl, ?_⟩
  obtain rfl : rn = 1 := hr.1.symm
  have M4 : Mem _ _ [_, _, _, _] _ := M3.call0 hM4
  refine aA (aC (.tuple (List.toArray _)) rfl) rfl rfl ?_
  refine aA (bI (.slice _ _ _) rfl rfl) rfl rfl ?_
  refine aA (bI (.bool _) rfl rfl) rfl rfl ?_
  refine aA (aD (.slice _ _ _) rfl) rfl rfl ?_
  refine aA (aD (.bool _) rfl) rfl rfl ?_
  refine aE (aF (aH (aB ?_)))
  refine aA (aC (.slice _ _ _) rfl) rfl rfl ?_
  refine iO (1) [.int .i64 0, .int .i64 0] aEt aJg rfl M4 rfl rfl rfl rfl rfl rfl (by omega) (by omega) (fun b5 w5 M5 => ?_)
  have hL13 := jI (T := 135) (sz := 2) (b := b5) (nn := 1) (([iQ b].map (fun _ => ((0, 0) : Int × Int))).map bU) (aQi _) rfl (by omega)
  refine aM aWj rfl rfl rfl ?_
  refine (aEr _ rA 1 rc [iQ b] (hr.rd M5 (bH (i := 3) rfl)) (by intro y hy; rw [List.mem_singleton] at hy; subst hy; exact aEy hb) (by decide) (fun _ => (0, 0)) (fun _ _ => ⟨⟨by decide, by decide⟩, by decide, by decide⟩) _ _ (hL13.rd M5 (bH (i := 4) rfl))).mono ?_
  rintro _ w6 ⟨v6, rfl, ⟨r2, rfl, hr2, hM6⟩⟩
  refine ⟨_, rfl, ?_⟩
  have M6 : Mem _ _ [_, _, _, _, _, _] _ := M5.call0 hM6
  refine aA (aC (.tuple (List.toArray _)) rfl) rfl rfl ?_
  refine aA (bI (.slice _ _ _) rfl rfl) rfl rfl ?_
  refine aA (bI (.bool _) rfl rfl) rfl rfl ?_
  refine aA (aD (.slice _ _ _) rfl) rfl rfl ?_
  refine aE (aF (aH (aB ?_)))
  refine aA (aC (.slice _ _ _) rfl) rfl rfl ?_
  refine aA (bN (0) cW rfl rfl rfl ((hr2.rd M6 (bH (i := 5) rfl)).below_len ((show (([iQ b].map (fun b => mM b 0 0)).map aI)[0]? = some (aI (aGb b)) from rfl))) ((hr2.rd M6 (bH (i := 5) rfl)).someK ((show (([iQ b].map (fun b => mM b 0 0)).map aI)[0]? = some (aI (aGb b)) from rfl)))) rfl rfl ?_
  refine aA (dG _ bP (hr2.rd M6 (bH (i := 5) rfl)) ((show (([iQ b].map (fun b => mM b 0 0)).map aI)[0]? = some (aI (aGb b)) from rfl)) rfl) rfl rfl ?_
  refine bL 1 _ bP M6 rfl rfl rfl rfl rfl (bA rfl) rfl (fun w7 M7 => ?_)
  refine aE (aF (aU ?_))
  refine gM 1 bP M7 rfl rfl rfl ?_
  exact ⟨rfl, M7.below⟩
end Go.Proofs.YtlmcphcgiclanaaGreatDoor

namespace Go.Proofs.YtlmcphcgiclanaaGreatDoor
open Go.Bil
open Go.RowKit (Below)
open Go.Proofs
set_option maxHeartbeats 4000000 in
theorem aHe (w : World) (bs : Nat) (vr lr : Row) (tt mm : Int) (cl : Bool) (A : Option Addr) (n c : Nat) (q : Row) (c2 : Bool) (hO : Own [(some bs, bc [.slice A n c, .slice vr.A vr.n vr.c, .slice lr.A lr.n lr.c, .int .i64 tt, .int .i64 mm, .bool cl] 84)] w) :
    Calls Tryz.prog 72 #[.pointer (some ⟨bs, 0, none⟩), .slice q.A q.n q.c, .bool c2] w (fun ex w' => ∃ v, ex = .returned v ∧ (fun v w' => v = .tuple #[] ∧ Mem w (cT [(some bs, bc [.slice A n c, .slice vr.A vr.n vr.c, .slice lr.A lr.n lr.c, .int .i64 tt, .int .i64 mm, .bool cl] 84)]) [(some bs, bc [.slice A n c, .slice q.A q.n q.c, .slice lr.A lr.n lr.c, .int .i64 tt, .int .i64 mm, .bool (cl || c2)] 84)] w') v w') := by
  refine aL #[] 22 Tryz.func72 rfl Tryz.results72 Tryz.ntmps72 rfl ?_
  have M0 := hO.mem
  refine aH (aB ?_)
  refine aA (aC (.pointer _) rfl) rfl rfl ?_
  refine aA (aC (.slice _ _ _) rfl) rfl rfl ?_
  refine aA (bO rfl) rfl rfl ?_
  refine aA (aG 1 vM rfl) rfl rfl ?_
  refine cY 0 (.slice _ _ _) mC M0 rfl rfl rfl rfl rfl rfl (fun w1 M1 => ?_)
  refine aE (aF (aB ?_))
  refine aA (aC (.pointer _) rfl) rfl rfl ?_
  refine aA (aC (.pointer _) rfl) rfl rfl ?_
  refine aA (bO rfl) rfl rfl ?_
  refine aA (aG 3 pW rfl) rfl rfl ?_
  refine aA (aG 2 mL rfl) rfl rfl ?_
  refine aA (aQ 0 (.bool _) nE M1 rfl rfl rfl) rfl rfl ?_
  refine aA (aC (.bool _) rfl) rfl rfl ?_
  refine gK 16 _ rfl (fun g16 => ?_) (fun g16 => ?_)
  · refine aS rfl rfl ?_
    refine aA (bQ true (.bool true) rfl rfl) rfl rfl ?_
    refine aA (bO rfl) rfl rfl ?_
    refine aA (aG 3 pW rfl) rfl rfl ?_
    refine aA (aG 2 mL rfl) rfl rfl ?_
    refine cY 0 (.bool true) nE M1 rfl rfl rfl rfl rfl rfl (fun w2 M2 => ?_)
    refine aE ?_
    refine jQ ?_
    first | exact ⟨rfl, by rw [(by simp only [g16, Bool.true_or] : (cl || c2) = true)]; exact M2⟩ | exact ⟨rfl, by rw [(by simp only [g16, Bool.false_or] : (cl || c2) = c2)]; exact M2⟩
  · refine aA (aC (.bool _) rfl) rfl rfl ?_
    refine aA (bQ false (.bool _) rfl rfl) rfl rfl ?_
    refine aA (bO rfl) rfl rfl ?_
    refine aA (aG 3 pW rfl) rfl rfl ?_
    refine aA (aG 2 mL rfl) rfl rfl ?_
    refine cY 0 (.bool _) nE M1 rfl rfl rfl rfl rfl rfl (fun w3 M3 => ?_)
    refine aE ?_
    refine jQ ?_
    first | exact ⟨rfl, by rw [(by simp only [g16, Bool.true_or] : (cl || c2) = true)]; exact M3⟩ | exact ⟨rfl, by rw [(by simp only [g16, Bool.false_or] : (cl || c2) = c2)]; exact M3⟩
set_option maxHeartbeats 4000000 in
theorem aTx (w : World) (F : Rd w 2 (some ⟨0, 0, none⟩) 1 [[.int .u32 73856093, .int .u32 19349663]]) (N : Rd w 4 (some ⟨3, 0, none⟩) 1 [dV kA]) (bs : Nat) (vr lr : Row) (tt mm : Int) (cl : Bool) (A : Option Addr) (n c : Nat) (xs : List Body) (R : Rd w 10 A n (xs.map aI)) (hb : ∀ b ∈ xs, Okb b) (hs : cG xs) (hn : n ≤ 4096) (hO : Own [(some bs, bc [.slice A n c, .slice vr.A vr.n vr.c, .slice lr.A lr.n lr.c, .int .i64 tt, .int .i64 mm, .bool cl] 84)] w) (hdA : 0 < n → ∀ q off, A = some ⟨q, off, none⟩ → q ∉ cT [(some bs, bc [.slice A n c, .slice vr.A vr.n vr.c, .slice lr.A lr.n lr.c, .int .i64 tt, .int .i64 mm, .bool cl] 84)]) (hdF : 0 < 1 → ∀ q off, (some ⟨0, 0, none⟩ : Option Addr) = some ⟨q, off, none⟩ → q ∉ cT [(some bs, bc [.slice A n c, .slice vr.A vr.n vr.c, .slice lr.A lr.n lr.c, .int .i64 tt, .int .i64 mm, .bool cl] 84)]) (hdN : 0 < 1 → ∀ q off, (some ⟨3, 0, none⟩ : Option Addr) = some ⟨q, off, none⟩ → q ∉ cT [(some bs, bc [.slice A n c, .slice vr.A vr.n vr.c, .slice lr.A lr.n lr.c, .int .i64 tt, .int .i64 mm, .bool cl] 84)]) :
    Calls Tryz.prog 40 #[.pointer (some ⟨bs, 0, none⟩)] w (fun ex w' => ∃ v, ex = .returned v ∧ (fun v w' => v = .tuple #[] ∧ ∃ (r : Row) (m : Nat), (kP xs).length ≤ m ∧ 2 * m ≤ xs.length * (xs.length - 1) ∧ bK 121 5 r.A r.n r.c ((jG xs).map bW) r.e ∧ Mem w (cT [(some bs, bc [.slice A n c, .slice vr.A vr.n vr.c, .slice lr.A lr.n lr.c, .int .i64 tt, .int .i64 mm, .bool cl] 84)]) [(some bs, bc [.slice A n c, .slice vr.A vr.n vr.c, .slice r.A r.n r.c, .int .i64 (m : Int), .int .i64 (r.n : Int), .bool cl] 84), r.e] w') v w') := by
  refine aL #[] 26 Tryz.func40 rfl Tryz.results40 Tryz.ntmps40 rfl ?_
  have M0 := hO.mem
  refine aH (aB ?_)
  refine aA (aC (.pointer _) rfl) rfl rfl ?_
  refine aA (aC (.pointer _) rfl) rfl rfl ?_
  refine aA (aC (.pointer _) rfl) rfl rfl ?_
  refine aA (bO rfl) rfl rfl ?_
  refine aA (aG 0 aBf rfl) rfl rfl ?_
  refine aA (aQ 0 (.slice _ _ _) mC M0 rfl rfl rfl) rfl rfl ?_
  refine aM bBk rfl rfl rfl ?_
  refine (aBh _ (F.memY M0 hdF) (N.memY M0 hdN) A n c xs (R.memY M0 hdA) hb hs hn).mono ?_
  rintro _ w1 ⟨v1, rfl, ⟨r, m, rfl, hm1, hm2, hr, hM1⟩⟩
  refine ⟨_, rfl, ?_⟩
  have M1 : Mem _ _ [_, _] _ := M0.call0 hM1
  refine aA (aC (.tuple (List.toArray _)) rfl) rfl rfl ?_
  refine aA (bI (.slice _ _ _) rfl rfl) rfl rfl ?_
  refine aA (bI (.int _ _) rfl rfl) rfl rfl ?_
  refine aA (bO rfl) rfl rfl ?_
  refine aA (aG 2 vZ rfl) rfl rfl ?_
  refine cY 0 (.slice _ _ _) oP M1 rfl rfl rfl rfl rfl rfl (fun w2 M2 => ?_)
  refine aA (bO rfl) rfl rfl ?_
  refine aA (aG 3 pW rfl) rfl rfl ?_
  refine aA (aG 0 qC rfl) rfl rfl ?_
  refine cY 0 (.int _ _) lM M2 rfl rfl rfl rfl rfl rfl (fun w3 M3 => ?_)
  refine aE (aF (aB ?_))
  refine aA (aC (.pointer _) rfl) rfl rfl ?_
  refine aA (aC (.pointer _) rfl) rfl rfl ?_
  refine aA (bO rfl) rfl rfl ?_
  refine aA (aG 2 vZ rfl) rfl rfl ?_
  refine aA (aQ 0 (.slice _ _ _) oP M3 rfl rfl rfl) rfl rfl ?_
  refine aA (dE Tryz.underlying82 rfl) rfl rfl ?_
  refine aA (bO rfl) rfl rfl ?_
  refine aA (aG 3 pW rfl) rfl rfl ?_
  refine aA (aG 1 rV rfl) rfl rfl ?_
  refine cY 0 (.int _ _) lM M3 rfl rfl rfl rfl rfl rfl (fun w4 M4 => ?_)
  refine aE ?_
  refine jQ ?_
  exact ⟨rfl, r, m, hm1, hm2, hr, M4⟩
set_option maxHeartbeats 4000000 in
theorem aTw (w : World) (bs : Nat) (vr lr : Row) (tt mm : Int) (cl : Bool) (A : Option Addr) (n c : Nat) (xs : List Body) (R : Rd w 10 A n (xs.map aI)) (hb : ∀ b ∈ xs, Okb b) (hn : n ≤ 1048576) (hO : Own [(some bs, bc [.slice A n c, .slice vr.A vr.n vr.c, .slice lr.A lr.n lr.c, .int .i64 tt, .int .i64 mm, .bool cl] 84)] w) (hdA : 0 < n → ∀ q off, A = some ⟨q, off, none⟩ → q ∉ cT [(some bs, bc [.slice A n c, .slice vr.A vr.n vr.c, .slice lr.A lr.n lr.c, .int .i64 tt, .int .i64 mm, .bool cl] 84)]) :
    Calls Tryz.prog 41 #[.pointer (some ⟨bs, 0, none⟩)] w (fun ex w' => ∃ v, ex = .returned v ∧ (fun v w' => v = .tuple #[] ∧ ∃ r : Row, bK 40 10 r.A r.n r.c ((lX xs).map aI) r.e ∧ Mem w (cT [(some bs, bc [.slice A n c, .slice vr.A vr.n vr.c, .slice lr.A lr.n lr.c, .int .i64 tt, .int .i64 mm, .bool cl] 84)]) [(some bs, bc [.slice A n c, .slice r.A r.n r.c, .slice lr.A lr.n lr.c, .int .i64 tt, .int .i64 mm, .bool (cl || xs.any jS)] 84), r.e] w') v w') := by
  refine aL #[] 11 Tryz.func41 rfl Tryz.results41 Tryz.ntmps41 rfl ?_
  have M0 := hO.mem
  refine aB ?_
  refine aA (aC (.pointer _) rfl) rfl rfl ?_
  refine aA (aC (.pointer _) rfl) rfl rfl ?_
  refine aA (bO rfl) rfl rfl ?_
  refine aA (aG 0 aBf rfl) rfl rfl ?_
  refine aA (aQ 0 (.slice _ _ _) mC M0 rfl rfl rfl) rfl rfl ?_
  refine aM aWa rfl rfl rfl ?_
  refine (uQ _ A n c xs (R.memY M0 hdA) hb hn).mono ?_
  rintro _ w1 ⟨v1, rfl, ⟨r, rfl, hr, hM1⟩⟩
  refine ⟨_, rfl, ?_⟩
  have M1 : Mem _ _ [_, _] _ := M0.call0 hM1
  refine aA (bI (.slice _ _ _) rfl rfl) rfl rfl ?_
  refine aA (bI (.bool _) rfl rfl) rfl rfl ?_
  refine aM aQs rfl rfl rfl ?_
  refine (aHe _ bs vr lr tt mm cl A n c r _ (M1.ownSeg 0 1)).mono ?_
  rintro _ w2 ⟨v2, rfl, ⟨rfl, hM2⟩⟩
  refine ⟨_, rfl, ?_⟩
  have M2 : Mem _ _ [_, _] _ := M1.seg 0 1 hM2
  refine aE ?_
  refine jQ ?_
  exact ⟨rfl, r, hr, M2⟩
set_option maxHeartbeats 4000000 in
theorem aRx (w : World) (bs : Nat) (vr lr : Row) (tt mm : Int) (cl : Bool) (A : Option Addr) (n c : Nat) (ys : List Body) (cs : List Con) (RV : Rd w 10 vr.A vr.n (ys.map aI)) (RL : Rd w 5 lr.A lr.n (cs.map bW)) (hs : cG ys) (hb : ∀ b ∈ ys, Okb b) (hn : vr.n ≤ 1048576) (hcs : ∀ c ∈ cs, OkC ys c) (hmc : lr.n ≤ 8589934592) (hO : Own [(some bs, bc [.slice A n c, .slice vr.A vr.n vr.c, .slice lr.A lr.n lr.c, .int .i64 tt, .int .i64 mm, .bool cl] 84)] w) (hdV : 0 < vr.n → ∀ q off, vr.A = some ⟨q, off, none⟩ → q ∉ cT [(some bs, bc [.slice A n c, .slice vr.A vr.n vr.c, .slice lr.A lr.n lr.c, .int .i64 tt, .int .i64 mm, .bool cl] 84)]) (hdL : 0 < lr.n → ∀ q off, lr.A = some ⟨q, off, none⟩ → q ∉ cT [(some bs, bc [.slice A n c, .slice vr.A vr.n vr.c, .slice lr.A lr.n lr.c, .int .i64 tt, .int .i64 mm, .bool cl] 84)]) :
    Calls Tryz.prog 42 #[.pointer (some ⟨bs, 0, none⟩)] w (fun ex w' => ∃ v, ex = .returned v ∧ (fun v w' => v = .tuple #[] ∧ ∃ r : Row, bK 40 10 r.A r.n r.c (((fL ys cs 4).1).map aI) r.e ∧ Mem w (cT [(some bs, bc [.slice A n c, .slice vr.A vr.n vr.c, .slice lr.A lr.n lr.c, .int .i64 tt, .int .i64 mm, .bool cl] 84)]) [(some bs, bc [.slice A n c, .slice r.A r.n r.c, .slice lr.A lr.n lr.c, .int .i64 tt, .int .i64 mm, .bool (cl || (fL ys cs 4).2)] 84), r.e] w') v w') := by
  refine aL #[] 15 Tryz.func42 rfl Tryz.results42 Tryz.ntmps42 rfl ?_
  have M0 := hO.mem
  refine bY [(0, 0), (1, 0), (2, 0), (3, 0), (4, 1), (5, 0), (6, 0), (7, 0), (8, 1), (9, 2), (10, 0), (11, 0), (12, 2)] mixed rfl (by kernel_rfl) (fun w1 hb1 hh1 => ?_)
  have M1 := M0.drew hb1 hh1
  refine aP rfl rfl rfl (fun _ => aC (.pointer _) rfl) ?_
  refine aP rfl rfl rfl (fun _ => aC (.pointer _) rfl) ?_
  refine aP rfl rfl rfl (fun _ => bO rfl) ?_
  refine aP rfl rfl rfl (fun _ => aG 1 vM rfl) ?_
  refine cB rfl rfl rfl (aQ 0 (.slice _ _ _) mC M1 rfl rfl rfl) ?_
  refine aP rfl rfl rfl (fun _ => aC (.pointer _) rfl) ?_
  refine aP rfl rfl rfl (fun _ => bO rfl) ?_
  refine aP rfl rfl rfl (fun _ => aG 2 vZ rfl) ?_
  refine cB rfl rfl rfl (aQ 0 (.slice _ _ _) oP M1 rfl rfl rfl) ?_
  refine eN [true, true] rfl (by kernel_rfl) ?_
  refine aM bBc rfl rfl rfl ?_
  refine (aLl _ vr.A vr.n vr.c ys (RV.memY M1 hdV) hs hb hn lr.A lr.n lr.c cs (RL.memY M1 hdL) hcs hmc).mono ?_
  rintro _ w2 ⟨v2, rfl, ⟨r, rfl, hr, hM2⟩⟩
  refine ⟨_, rfl, ?_⟩
  have M2 : Mem _ _ [_, _] _ := M1.call0 hM2
  refine aE (aF ⟨eM, ?_⟩)
  refine aP rfl rfl rfl (fun _ => bI (.slice _ _ _) rfl rfl) ?_
  refine aP rfl rfl rfl (fun _ => bI (.bool _) rfl rfl) ?_
  refine eN [] rfl (by kernel_rfl) ?_
  refine aM aQs rfl rfl rfl ?_
  refine (aHe _ bs vr lr tt mm cl A n c r _ (M2.ownSeg 0 1)).mono ?_
  rintro _ w3 ⟨v3, rfl, ⟨rfl, hM3⟩⟩
  refine ⟨_, rfl, ?_⟩
  have M3 : Mem _ _ [_, _] _ := M2.seg 0 1 hM3
  refine aE (aF ⟨eM, ?_⟩)
  refine cI ?_
  refine jQ ?_
  exact ⟨rfl, r, hr, M3⟩
set_option maxHeartbeats 4000000 in
theorem aUo (w : World) (bs : Nat) (vr lr : Row) (tt mm : Int) (cl : Bool) (A : Option Addr) (n c : Nat) (xs : List Body) (R : Rd w 10 A n (xs.map aI)) (ys : List Body) (cs : List Con) (RV : Rd w 10 vr.A vr.n (ys.map aI)) (RL : Rd w 5 lr.A lr.n (cs.map bW)) (hs : cG xs) (hb : ∀ b ∈ xs, Okb b) (hb2 : ∀ b ∈ ys, Okb b) (hn : n ≤ 1048576) (hvn : vr.n = n) (hcs : ∀ c ∈ cs, OkC xs c) (hmc : lr.n ≤ 1073741824) (hsh : xs.map (gY xs cs) = ys.map (gY xs cs)) (hG : ∀ b ∈ ys, (-1152921504606846976 ≤ (gY xs cs b).1 ∧ (gY xs cs b).1 ≤ 1152921504606846976) ∧ -1152921504606846976 ≤ (gY xs cs b).2 ∧ (gY xs cs b).2 ≤ 1152921504606846976) (hO : Own [(some bs, bc [.slice A n c, .slice vr.A vr.n vr.c, .slice lr.A lr.n lr.c, .int .i64 tt, .int .i64 mm, .bool cl] 84)] w) (hdA : 0 < n → ∀ q off, A = some ⟨q, off, none⟩ → q ∉ cT [(some bs, bc [.slice A n c, .slice vr.A vr.n vr.c, .slice lr.A lr.n lr.c, .int .i64 tt, .int .i64 mm, .bool cl] 84)]) (hdV : 0 < vr.n → ∀ q off, vr.A = some ⟨q, off, none⟩ → q ∉ cT [(some bs, bc [.slice A n c, .slice vr.A vr.n vr.c, .slice lr.A lr.n lr.c, .int .i64 tt, .int .i64 mm, .bool cl] 84)]) (hdL : 0 < lr.n → ∀ q off, lr.A = some ⟨q, off, none⟩ → q ∉ cT [(some bs, bc [.slice A n c, .slice vr.A vr.n vr.c, .slice lr.A lr.n lr.c, .int .i64 tt, .int .i64 mm, .bool cl] 84)]) :
    Calls Tryz.prog 43 #[.pointer (some ⟨bs, 0, none⟩)] w (fun ex w' => ∃ v, ex = .returned v ∧ (fun v w' => v = .tuple #[] ∧ ∃ r : Row, bK 40 10 r.A r.n r.c ((aJs xs cs ys).map aI) r.e ∧ Mem w (cT [(some bs, bc [.slice A n c, .slice vr.A vr.n vr.c, .slice lr.A lr.n lr.c, .int .i64 tt, .int .i64 mm, .bool cl] 84)]) [(some bs, bc [.slice A n c, .slice r.A r.n r.c, .slice lr.A lr.n lr.c, .int .i64 tt, .int .i64 mm, .bool (cl || aJz xs cs ys)] 84), r.e] w') v w') := by
  have hlen : xs.length = n := by simpa using R.len
  refine aL #[] 20 Tryz.func43 rfl Tryz.results43 Tryz.ntmps43 rfl ?_
  have M0 := hO.mem
  refine bY [(0, 0), (1, 0), (2, 0), (3, 0), (4, 1), (5, 0), (6, 0), (7, 0), (8, 1), (9, 0), (10, 0), (11, 0), (12, 1), (13, 2), (14, 2), (15, 0), (16, 0), (17, 2)] mixed rfl (by kernel_rfl) (fun w1 hb1 hh1 => ?_)
  have M1 := M0.drew hb1 hh1
  refine aP rfl rfl rfl (fun _ => aC (.pointer _) rfl) ?_
  refine aP rfl rfl rfl (fun _ => aC (.pointer _) rfl) ?_
  refine aP rfl rfl rfl (fun _ => bO rfl) ?_
  refine aP rfl rfl rfl (fun _ => aG 1 vM rfl) ?_
  refine cB rfl rfl rfl (aQ 0 (.slice _ _ _) mC M1 rfl rfl rfl) ?_
  refine aP rfl rfl rfl (fun _ => aC (.pointer _) rfl) ?_
  refine aP rfl rfl rfl (fun _ => bO rfl) ?_
  refine aP rfl rfl rfl (fun _ => aG 0 aBf rfl) ?_
  refine cB rfl rfl rfl (aQ 0 (.slice _ _ _) mC M1 rfl rfl rfl) ?_
  refine aP rfl rfl rfl (fun _ => aC (.pointer _) rfl) ?_
  refine aP rfl rfl rfl (fun _ => bO rfl) ?_
  refine aP rfl rfl rfl (fun _ => aG 2 vZ rfl) ?_
  refine cB rfl rfl rfl (aQ 0 (.slice _ _ _) oP M1 rfl rfl rfl) ?_
  refine eN [true, true, false] rfl (by kernel_rfl) ?_
  refine aM bCc rfl rfl rfl ?_
  refine (aHm _ A n c xs (R.memY M1 hdA) hs hb hn lr.A lr.n lr.c cs (RL.memY M1 hdL) hcs hmc).mono ?_
  rintro _ w2 ⟨v2, rfl, ⟨⟨qA, qn, qc, qe⟩, rfl, hq, hM2⟩⟩
  refine ⟨_, rfl, ?_⟩
  have hqn : xs.length = qn := by simpa using hq.1
  obtain rfl : qn = vr.n := by omega
  rw [hsh] at hq
  have M2 : Mem _ _ [_, _] _ := M1.call0 hM2
  refine aE (aF ⟨(fH (cF rfl (aQ 0 (.slice _ _ _) mC M2 rfl rfl rfl)) eM), ?_⟩)
  refine eN [true] rfl (by kernel_rfl) ?_
  refine aM aWj rfl rfl rfl ?_
  refine (aEr _ vr.A vr.n vr.c ys (RV.memY M2 hdV) hb2 (by omega) (gY xs cs) hG qA qc (hq.rd M2 (bH (i := 1) rfl))).mono ?_
  rintro _ w3 ⟨v3, rfl, ⟨r, rfl, hr, hM3⟩⟩
  refine ⟨_, rfl, ?_⟩
  have M3 : Mem _ _ [_, _, _] _ := M2.call0 hM3
  refine aE (aF ⟨eM, ?_⟩)
  refine aP rfl rfl rfl (fun _ => bI (.slice _ _ _) rfl rfl) ?_
  refine aP rfl rfl rfl (fun _ => bI (.bool _) rfl rfl) ?_
  refine eN [] rfl (by kernel_rfl) ?_
  refine aM aQs rfl rfl rfl ?_
  refine (aHe _ bs vr lr tt mm cl A n c r _ (M3.ownSeg 0 1)).mono ?_
  rintro _ w4 ⟨v4, rfl, ⟨rfl, hM4⟩⟩
  refine ⟨_, rfl, ?_⟩
  have M4 : Mem _ _ [_, _, _] _ := M3.seg 0 1 hM4
  refine aE (aF ⟨eM, ?_⟩)
  refine cI ?_
  refine jQ ?_
  exact ⟨rfl, r, hr, M4.keep [true, false, true]⟩
end Go.Proofs.YtlmcphcgiclanaaGreatDoor

namespace Go.Proofs.YtlmcphcgiclanaaGreatDoor
open Go.Bil
open Go.RowKit (Below)
open Go.Proofs
theorem aNk {xs : List Body} {cs : List Con} {b b' : Body} (h : SameB b b') : gY xs cs b = gY xs cs b' := by
  unfold gY qK qL
  rw [h.key, h.mass]
theorem xJ {xs ys zs : List Body} {cs : List Con} (h : Like ys zs) : ys.map (gY xs cs) = zs.map (gY xs cs) := by
  apply List.ext_getElem?
  intro i
  rw [List.getElem?_map, List.getElem?_map]
  by_cases hi : i < ys.length
  · have h1 : ys[i]? = some ys[i] := List.getElem?_eq_getElem hi
    have h2 : zs[i]? = some (zs[i]'(by rw [h.len]; exact hi)) := List.getElem?_eq_getElem _
    rw [h1, h2]
    exact congrArg some (aNk (h.at_ i _ _ h1 h2)).symm
  · have hl := h.len
    rw [List.getElem?_eq_none (show ys.length ≤ i by omega), List.getElem?_eq_none (show zs.length ≤ i by omega)]
theorem aJu {xs : List Body} {cs : List Con} (hs : cG xs) (hb : ∀ b ∈ xs, Okb b) (hcs : ∀ c ∈ cs, OkC xs c) (hl : cs.length ≤ 1073741824) {zs : List Body} (h : Like xs zs) : ∀ b ∈ zs, (-1152921504606846976 ≤ (gY xs cs b).1 ∧ (gY xs cs b).1 ≤ 1152921504606846976) ∧ -1152921504606846976 ≤ (gY xs cs b).2 ∧ (gY xs cs b).2 ≤ 1152921504606846976 := fun b hbm => by
  have hm : gY xs cs b ∈ zs.map (gY xs cs) := List.mem_map_of_mem hbm
  rw [← xJ h] at hm
  obtain ⟨x, hx, e⟩ := List.mem_map.1 hm
  rw [← e]
  have := vR hs hb hcs rfl hl cs.length hx
  rwa [List.take_of_length_le (Nat.le_refl _)] at this
set_option maxHeartbeats 16000000 in
theorem pP (w : World) (F : Rd w 2 (some ⟨0, 0, none⟩) 1 [[.int .u32 73856093, .int .u32 19349663]]) (N : Rd w 4 (some ⟨3, 0, none⟩) 1 [dV kA]) (A : Option Addr) (n c : Nat) (xs : List Body) (R : Rd w 10 A n (xs.map aI)) (hb : ∀ b ∈ xs, Okb b) (hs : cG xs) (hn : n ≤ 4096) :
    Calls Tryz.prog 16 #[.slice A n c] w (fun ex w' => ∃ v, ex = .returned v ∧ (fun v w' => ∃ (r : Row) (t : Nat), v = .tuple #[.slice r.A r.n r.c, .agg [.int .i64 (t : Int), .int .i64 ((jG xs).length : Int), .bool (qQ xs)].toArray] ∧ (jG xs).length ≤ t ∧ 2 * t ≤ xs.length * (xs.length - 1) ∧ bK 40 10 r.A r.n r.c ((oT xs).map aI) r.e ∧ Mem w [] [r.e] w') v w') := by
  have hlen : xs.length = n := by simpa using R.len
  have hnn : xs.length * xs.length ≤ 4096 * 4096 := Nat.mul_le_mul (by omega) (by omega)
  have hcl := yG xs
  have hsq := aJm (xs := xs)
  refine aL #[.tmp 2, .cell 3 27] 26 Tryz.func16 rfl Tryz.results16 Tryz.ntmps16 rfl ?_
  have M0 := Mem.refl w
  refine aH (aB ?_)
  refine aA (aD (.slice _ _ _) rfl) rfl rfl ?_
  refine aV oY M0 rfl rfl (fun b1 w1 M1 => ?_)
  refine aE (aF (aH (aB ?_)))
  refine aA (aC (.slice _ _ _) rfl) rfl rfl ?_
  refine aA (cL [(0, .slice _ _ _)] _ aQy rfl rfl) rfl rfl ?_
  refine bM (.agg (List.toArray _)) M1 rfl rfl rfl (fun b2 w2 M2 => ?_)
  refine aA (aD (.pointer _) rfl) rfl rfl ?_
  refine aE (aF (aH (aH (aB ?_))))
  refine aA (wK [.func _ _ _, .func _ _ _, .func _ _ _, .func _ _ _] aFy aZw rfl rfl (cZ rfl)) rfl rfl ?_
  refine aA (aC (.int _ _) rfl) rfl rfl ?_
  refine aE (aF (aT ?_))
  refine gX 5 (fI ?_)
  refine aH (aB ?_)
  refine aA (aN (.bool (decide _)) rfl rfl rfl) rfl rfl ?_
  refine aK 12 (.bool true) (bT (by first | decide | omega)).symm ?_
  refine aE (aF (aH ?_))
  refine cM rfl ?_
  refine aO (aF (aH (aT (aH (aB ?_)))))
  refine aA (yH 0 (.func _ _ _) aFy aKl rfl rfl (by decide) (by decide) rfl rfl) rfl rfl ?_
  refine aA (aD (.func _ _ _) rfl) rfl rfl ?_
  refine aE (aF (aB ?_))
  refine aA (aC (.func _ _ _) rfl) rfl rfl ?_
  refine aA (aC (.pointer _) rfl) rfl rfl ?_
  refine aM bBa rfl rfl rfl ?_
  refine (aTx _ (F.mem M2) (N.mem M2) b2 gH gH 0 0 false A n c xs (R.mem M2) hb hs hn (M2.ownSeg 1 1) (M2.away 1 1 R (by simp)) (M2.away 1 1 F (by simp)) (M2.away 1 1 N (by simp))).mono ?_
  rintro _ w3 ⟨v3, rfl, ⟨rfl, r, tm, ht1, ht2, hr, hM3⟩⟩
  refine ⟨_, rfl, ?_⟩
  have M3 : Mem _ _ [_, _, _] _ := M2.seg 1 1 hM3
  have hrn : (jG xs).length = r.n := by simpa using hr.1
  refine aE ?_
  refine cS ?_
  refine aF (aB ?_)
  refine aA (aZ rfl rfl (by first | decide | omega) (by first | decide | omega)) rfl rfl ?_
  refine aK 17 (.int .i64 1) (iE (by first | decide | omega)) ?_
  refine aA (aC (.int _ _) rfl) rfl rfl ?_
  refine aE ?_
  refine aF (fI ?_)
  refine aH (aB ?_)
  refine aA (aN (.bool (decide _)) rfl rfl rfl) rfl rfl ?_
  refine aK 12 (.bool true) (bT (by first | decide | omega)).symm ?_
  refine aE (aF (aH ?_))
  refine cM rfl ?_
  refine aO (aF (aH (aT (aH (aB ?_)))))
  refine aA (yH 1 (.func _ _ _) aFy aKl rfl rfl (by decide) (by decide) rfl rfl) rfl rfl ?_
  refine aA (aD (.func _ _ _) rfl) rfl rfl ?_
  refine aE (aF (aB ?_))
  refine aA (aC (.func _ _ _) rfl) rfl rfl ?_
  refine aA (aC (.pointer _) rfl) rfl rfl ?_
  refine aM bCk rfl rfl rfl ?_
  refine (aTw _ b2 gH r (tm : Int) (r.n : Int) false A n c xs (R.mem M3) hb (by omega) (M3.ownSeg 1 1) (M3.away 1 1 R (by simp))).mono ?_
  rintro _ w4 ⟨v4, rfl, ⟨rfl, g, hg, hM4⟩⟩
  refine ⟨_, rfl, ?_⟩
  have M4 : Mem _ _ [_, _, _, _] _ := M3.seg 1 1 hM4
  have hgn : (lX xs).length = g.n := by simpa using hg.1
  have hgl := (iP xs).len
  refine aE ?_
  refine cS ?_
  refine aF (aB ?_)
  refine aA (aZ rfl rfl (by first | decide | omega) (by first | decide | omega)) rfl rfl ?_
  refine aK 17 (.int .i64 2) (iE (by first | decide | omega)) ?_
  refine aA (aC (.int _ _) rfl) rfl rfl ?_
  refine aE ?_
  refine aF (fI ?_)
  refine aH (aB ?_)
  refine aA (aN (.bool (decide _)) rfl rfl rfl) rfl rfl ?_
  refine aK 12 (.bool true) (bT (by first | decide | omega)).symm ?_
  refine aE (aF (aH ?_))
  refine cM rfl ?_
  refine aO (aF (aH (aT (aH (aB ?_)))))
  refine aA (yH 2 (.func _ _ _) aFy aKl rfl rfl (by decide) (by decide) rfl rfl) rfl rfl ?_
  refine aA (aD (.func _ _ _) rfl) rfl rfl ?_
  refine aE (aF (aB ?_))
  refine aA (aC (.func _ _ _) rfl) rfl rfl ?_
  refine aA (aC (.pointer _) rfl) rfl rfl ?_
  refine aM bBq rfl rfl rfl ?_
  refine (aRx _ b2 g r (tm : Int) (r.n : Int) _ A n c (lX xs) (jG xs) (hg.rd M4 (bH (i := 3) rfl)) (hr.rd M4 (bH (i := 2) rfl)) ((iP xs).sorted hs) (sR hb) (by omega) (fun c h => (iP xs).okc (nB hs hb c h)) (by omega) (M4.ownSeg 1 1) (hg.awayB M4 3 1 rfl rfl rfl) (hr.awayB M4 2 1 rfl rfl rfl)).mono ?_
  rintro _ w5 ⟨v5, rfl, ⟨rfl, s, hsv, hM5⟩⟩
  refine ⟨_, rfl, ?_⟩
  have M5 : Mem _ _ [_, _, _, _, _] _ := M4.seg 1 1 hM5
  have hsn : (jC xs).length = s.n := by have h := hsv.1; rwa [List.length_map] at h
  have hlk : Like xs (jC xs) := (iP xs).trans (gB _ _ 4)
  have hsl := hlk.len
  refine aE ?_
  refine cS ?_
  refine aF (aB ?_)
  refine aA (aZ rfl rfl (by first | decide | omega) (by first | decide | omega)) rfl rfl ?_
  refine aK 17 (.int .i64 3) (iE (by first | decide | omega)) ?_
  refine aA (aC (.int _ _) rfl) rfl rfl ?_
  refine aE ?_
  refine aF (fI ?_)
  refine aH (aB ?_)
  refine aA (aN (.bool (decide _)) rfl rfl rfl) rfl rfl ?_
  refine aK 12 (.bool true) (bT (by first | decide | omega)).symm ?_
  refine aE (aF (aH ?_))
  refine cM rfl ?_
  refine aO (aF (aH (aT (aH (aB ?_)))))
  refine aA (yH 3 (.func _ _ _) aFy aKl rfl rfl (by decide) (by decide) rfl rfl) rfl rfl ?_
  refine aA (aD (.func _ _ _) rfl) rfl rfl ?_
  refine aE (aF (aB ?_))
  refine aA (aC (.func _ _ _) rfl) rfl rfl ?_
  refine aA (aC (.pointer _) rfl) rfl rfl ?_
  refine aM bBo rfl rfl rfl ?_
  refine (aUo _ b2 s r (tm : Int) (r.n : Int) _ A n c xs (R.mem M5) (jC xs) (jG xs) (hsv.rd M5 (bH (i := 4) rfl)) (hr.rd M5 (bH (i := 2) rfl)) hs hb (mX (sR hb) 4) (by omega) (by omega) (nB hs hb) (by omega) (xJ hlk) (aJu hs hb (nB hs hb) (by omega) hlk) (M5.ownSeg 1 1) (M5.away 1 1 R (by simp)) (hsv.awayB M5 4 1 rfl rfl rfl) (hr.awayB M5 2 1 rfl rfl rfl)).mono ?_
  rintro _ w6 ⟨v6, rfl, ⟨rfl, m, hm, hM6⟩⟩
  refine ⟨_, rfl, ?_⟩
  have M6 : Mem _ _ [_, _, _, _, _, _] _ := M5.seg 1 1 hM6
  refine aE ?_
  refine cS ?_
  refine aF (aB ?_)
  refine aA (aZ rfl rfl (by first | decide | omega) (by first | decide | omega)) rfl rfl ?_
  refine aK 17 (.int .i64 4) (iE (by first | decide | omega)) ?_
  refine aA (aC (.int _ _) rfl) rfl rfl ?_
  refine aE ?_
  refine aF (fI ?_)
  refine aH (aB ?_)
  refine aA (aN (.bool (decide _)) rfl rfl rfl) rfl rfl ?_
  refine aK 12 (.bool false) (bF (by first | decide | omega)).symm ?_
  refine aE (aF (aH ?_))
  refine cP rfl ?_
  refine cQ ?_
  refine cX (cX ?_)
  refine eJ ?_
  refine aF (aH ?_)
  refine bY [(0, 0), (1, 0), (2, 0), (3, 1), (4, 0), (5, 0), (6, 0), (7, 1), (8, 0), (9, 2)] mixed rfl (by kernel_rfl) (fun w7 hb7 hh7 => ?_)
  have M7 := M6.drew hb7 hh7
  refine aP rfl rfl rfl (fun _ => aC (.pointer _) rfl) ?_
  refine aP rfl rfl rfl (fun _ => bO rfl) ?_
  refine aP rfl rfl rfl (fun _ => aG 1 vM rfl) ?_
  refine cB rfl rfl rfl (aQ 1 (.slice _ _ _) mC M7 rfl rfl rfl) ?_
  refine aP rfl rfl rfl (fun _ => aC (.pointer _) rfl) ?_
  refine aP rfl rfl rfl (fun _ => bO rfl) ?_
  refine aP rfl rfl rfl (fun _ => aG 3 pW rfl) ?_
  refine cB rfl rfl rfl (wS 1 _ nD M7 rfl rfl rfl rfl) ?_
  refine aP rfl rfl rfl (fun _ => aD (.slice _ _ _) rfl) ?_
  refine eN [true, true] rfl (by kernel_rfl) ?_
  refine bL 0 _ nD M7 rfl rfl rfl rfl rfl (bA rfl) rfl (fun w8 M8 => ?_)
  refine aE (aF ⟨eM, ?_⟩)
  refine cI ?_
  refine aF (aU ?_)
  refine aWe (.slice _ _ _) 0 nD M8 rfl rfl rfl rfl ?_
  exact ⟨m, tm, oA rfl (by rw [hrn]; show Value.agg _ = _; rw [show qQ xs = (((false || xs.any jS) || (fL (lX xs) (jG xs) 4).2) || aJz xs (jG xs) (jC xs)) by unfold qQ; rw [Bool.false_or]]; rfl), by omega, ht2, hm, M8.keep [false, false, false, false, false, true]⟩
end Go.Proofs.YtlmcphcgiclanaaGreatDoor

namespace Go.Proofs.YtlmcphcgiclanaaGreatDoor
open Go.Bil
open Go.RowKit (Below)
open Go.Proofs
set_option maxHeartbeats 16000000 in
theorem aIl (w : World) (F : Rd w 2 (some ⟨0, 0, none⟩) 1 [[.int .u32 73856093, .int .u32 19349663]]) (N_ : Rd w 4 (some ⟨3, 0, none⟩) 1 [dV kA]) (A : Option Addr) (n c : Nat) (xs : List Body) (R : Rd w 10 A n (xs.map aI)) (hb : ∀ b ∈ xs, Okb b) (hs : cG xs) (hn : n ≤ 4096) (z : Int) (N : Nat) (hz : max z 0 = (N : Int)) (hN : N ≤ 1048576) :
    Calls Tryz.prog 19 #[.slice A n c, .int .i64 z] w (fun ex w' => ∃ v, ex = .returned v ∧ (fun v w' => ∃ (r : Row) (t : Nat), v = .tuple #[.slice r.A r.n r.c, .agg [.int .i64 (t : Int), .int .i64 (rC xs N : Int), .bool (yM xs N)].toArray] ∧ rC xs N ≤ t ∧ t ≤ N * 16777216 ∧ bK 40 10 r.A r.n r.c ((jU xs N).map aI) r.e ∧ Mem w [] [r.e] w') v w') := by
  have hlen : xs.length = n := by simpa using R.len
  have hnn : xs.length * (xs.length - 1) ≤ 4096 * 4096 := Nat.mul_le_mul (by omega) (by omega)
  refine aL #[.tmp 4, .cell 5 27] 43 Tryz.func19 rfl Tryz.results19 Tryz.ntmps19 rfl ?_
  have M0 := Mem.refl w
  refine aH (aB ?_)
  refine aA (aD (.slice _ _ _) rfl) rfl rfl ?_
  refine aV oY M0 rfl rfl (fun b1 w1 M1 => ?_)
  refine aE (aF (aH (aB ?_)))
  refine aV oY M1 rfl rfl (fun b2 w2 M2 => ?_)
  refine aE (aF (aH (aB ?_)))
  refine aA (aC (.slice _ _ _) rfl) rfl rfl ?_
  refine aM bAz rfl rfl rfl ?_
  refine (yX _ _ _ _ _ (R.mem M2) (aJc xs) (by omega)).mono ?_
  rintro _ w3 ⟨v3, rfl, ⟨qA, qn, qc, qe, rfl, hq0, hM3, _⟩⟩
  refine ⟨_, rfl, ?_⟩
  have M3 : Mem _ _ [_, _, _] _ := M2.call0 hM3
  refine aA (aD (.slice _ _ _) rfl) rfl rfl ?_
  refine aE (aF (aH (aH (aB ?_))))
  refine aA (aC (.int _ _) rfl) rfl rfl ?_
  refine aA (lJ rfl rfl ) rfl rfl ?_
  refine aK 12 (.int .i64 (N : Int)) (iE (by omega)) ?_
  refine aA (aC (.int _ _) rfl) rfl rfl ?_
  refine aE (aF (aT ?_))
  refine dM (σ := Nat × Row × Nat) [4, 5, 6, 12] (fun (k, q, t) => [(0, .slice q.A q.n q.c), (13, .int .i64 (k : Int))]) (fun (k, q, t) w' => (k ≤ N ∧ rC xs k ≤ t ∧ t ≤ k * 16777216 ∧ bK 40 10 q.A q.n q.c ((jU xs k).map aI) q.e) ∧ Mem w [] [(some b1, bc [.int .i64 0, .int .i64 0, .bool false] 27), (some b2, bc [.int .i64 (t : Int), .int .i64 (rC xs k : Int), .bool (yM xs k)] 27), q.e] w') (fun (k, q, t) => N - k) (0, ⟨qA, qn, qc, qe⟩, 0) (bB rfl (bB rfl dO)) (⟨⟨by omega, (show 0 ≤ 0 by omega), by omega, hq0⟩, M3⟩) ?_
  rintro ⟨k, q, t⟩ ρ4 w4 ⟨⟨hk, htn, htk, hq⟩, hM4⟩
  have hkl := (rJ xs k).len
  have hqn : (jU xs k).length = q.n := by simpa using hq.1
  refine aH (aB ?_)
  refine aA (aN (.bool (decide _)) rfl rfl rfl) rfl rfl ?_
  refine aE (aF (aH ?_))
  refine aX rfl (fun h14 => ?_) (fun h14 => ?_)
  · refine aO (aF (aH (aT (aH (aB ?_)))))
    refine aA (aC (.slice _ _ _) rfl) rfl rfl ?_
    refine aM aJn rfl rfl rfl ?_
    refine (pP _ (F.mem hM4) (N_.mem hM4) q.A q.n q.c (jU xs k) (hq.rd hM4 (bH (i := 2) rfl)) (aEp hb k) (aBz hs k) (by omega)).mono ?_
    rintro _ w5 ⟨v5, rfl, ⟨r, t2, rfl, h1, h2, hr, hM5⟩⟩
    refine ⟨_, rfl, ?_⟩
    have M5 : Mem _ _ [_, _, _, _] _ := hM4.call0 hM5
    rw [show (jU xs k).length = xs.length from hkl] at h2
    have hsuc : rC xs (k + 1) = rC xs k + (jG (jU xs k)).length := rfl
    refine aA (aC (.tuple (List.toArray _)) rfl) rfl rfl ?_
    refine aA (bI (.slice _ _ _) rfl rfl) rfl rfl ?_
    refine aA (bI (.agg (List.toArray _)) rfl rfl) rfl rfl ?_
    refine aV oY M5 rfl rfl (fun b6 w6 M6 => ?_)
    refine aA (aD (.slice _ _ _) rfl) rfl rfl ?_
    refine bL 4 _ nD M6 rfl rfl rfl rfl rfl (bA rfl) rfl (fun w7 M7 => ?_)
    refine aE (aF (aH (aB ?_)))
    refine aA (aG 0 qC rfl) rfl rfl ?_
    refine aA (aQ 1 (.int _ _) lM M7 rfl rfl rfl) rfl rfl ?_
    refine aA (aG 0 qC rfl) rfl rfl ?_
    refine aA (aQ 4 (.int _ _) lM M7 rfl rfl rfl) rfl rfl ?_
    refine aA (aZ rfl rfl (by omega) (by omega)) rfl rfl ?_
    refine aA (aG 0 qC rfl) rfl rfl ?_
    refine cY 1 (.int _ _) lM M7 rfl rfl rfl rfl rfl rfl (fun w8 M8 => ?_)
    refine aE (aF (aH (aB ?_)))
    refine aA (aG 1 rV rfl) rfl rfl ?_
    refine aA (aQ 1 (.int _ _) lM M8 rfl rfl rfl) rfl rfl ?_
    refine aA (aG 1 rV rfl) rfl rfl ?_
    refine aA (aQ 4 (.int _ _) lM M8 rfl rfl rfl) rfl rfl ?_
    refine aA (aZ rfl rfl (by omega) (by omega)) rfl rfl ?_
    refine aA (aG 1 rV rfl) rfl rfl ?_
    refine cY 1 (.int _ _) lM M8 rfl rfl rfl rfl rfl rfl (fun w9 M9 => ?_)
    refine aE (aF (aH (aB ?_)))
    refine aA (aG 2 mL rfl) rfl rfl ?_
    refine aA (aQ 1 (.bool _) nE M9 rfl rfl rfl) rfl rfl ?_
    refine aA (aC (.bool _) rfl) rfl rfl ?_
    refine gK 34 _ rfl (fun g34 => ?_) (fun g34 => ?_)
    · refine aS rfl rfl ?_
      refine aS rfl rfl ?_
      refine aA (bQ true (.bool true) rfl rfl) rfl rfl ?_
      refine aA (aG 2 mL rfl) rfl rfl ?_
      refine cY 1 (.bool true) nE M9 rfl rfl rfl rfl rfl rfl (fun w10 M10 => ?_)
      refine aE (aF (aB ?_))
      refine aA (aC (.slice _ _ _) rfl) rfl rfl ?_
      refine aA (aD (.slice _ _ _) rfl) rfl rfl ?_
      refine aE ?_
      refine cS ?_
      refine aF (aB ?_)
      refine aA (aZ rfl rfl (by omega) (by omega)) rfl rfl ?_
      refine aA (aC (.int _ _) rfl) rfl rfl ?_
      refine aE ?_
      refine cA (k + 1, r, t + t2) (bB rfl (bB rfl dO)) (cD rfl (cD rfl (cD rfl (cD rfl fS)))) ?_ ?_
      · exact ⟨⟨by omega, by rw [hsuc]; omega, by omega, hr⟩, by rw [hsuc, Int.natCast_add, Int.natCast_add, show yM xs (k + 1) = _ from by show (_ || _) = true; rw [g34, Bool.true_or]]; exact M10.keep [true, true, false, true, false]⟩
      · (show N - (k + 1) < N - k; omega)
    · refine aA (aG 2 mL rfl) rfl rfl ?_
      refine aA (aQ 4 (.bool _) nE M9 rfl rfl rfl) rfl rfl ?_
      refine aA (bQ false (.bool _) rfl rfl) rfl rfl ?_
      refine aA (aG 2 mL rfl) rfl rfl ?_
      refine cY 1 (.bool _) nE M9 rfl rfl rfl rfl rfl rfl (fun w11 M11 => ?_)
      refine aE (aF (aB ?_))
      refine aA (aC (.slice _ _ _) rfl) rfl rfl ?_
      refine aA (aD (.slice _ _ _) rfl) rfl rfl ?_
      refine aE ?_
      refine cS ?_
      refine aF (aB ?_)
      refine aA (aZ rfl rfl (by omega) (by omega)) rfl rfl ?_
      refine aA (aC (.int _ _) rfl) rfl rfl ?_
      refine aE ?_
      refine cA (k + 1, r, t + t2) (bB rfl (bB rfl dO)) (cD rfl (cD rfl (cD rfl (cD rfl fS)))) ?_ ?_
      · exact ⟨⟨by omega, by rw [hsuc]; omega, by omega, hr⟩, by rw [hsuc, Int.natCast_add, Int.natCast_add, show yM xs (k + 1) = _ from by show (_ || _) = qQ (jU xs k); rw [g34, Bool.false_or]]; exact M11.keep [true, true, false, true, false]⟩
      · (show N - (k + 1) < N - k; omega)
  · have hkn : k = N := by omega
    rw [hkn] at hq htn hM4
    refine cQ ?_
    refine cX ?_
    refine dF ?_
    refine eJ ?_
    refine aF (aH ?_)
    refine bY [(0, 0), (1, 1), (2, 0), (3, 2)] mixed rfl (by kernel_rfl) (fun w12 hb12 hh12 => ?_)
    have M12 := hM4.drew hb12 hh12
    refine aP rfl rfl rfl (fun _ => aC (.slice _ _ _) rfl) ?_
    refine cB rfl rfl rfl (aR 1 nD M12 rfl rfl rfl) ?_
    refine aP rfl rfl rfl (fun _ => aD (.slice _ _ _) rfl) ?_
    refine eN [true] rfl (by kernel_rfl) ?_
    refine bL 0 _ nD M12 rfl rfl rfl rfl rfl (bA rfl) rfl (fun w13 M13 => ?_)
    refine aE (aF ⟨eM, ?_⟩)
    refine cI ?_
    refine aF (aU ?_)
    refine aWe (.slice _ _ _) 0 nD M13 rfl rfl rfl rfl ?_
    exact ⟨q, t, by rw [← hkn], htn, by rw [← hkn]; exact htk, hq, M13.keep [false, false, true]⟩
end Go.Proofs.YtlmcphcgiclanaaGreatDoor

namespace Go.Proofs.YtlmcphcgiclanaaGreatDoor
open Go.Bil
open Go.RowKit (Below)
open Go.Proofs
theorem aMs {a b : Int} {p : Nat} (ha : 0 ≤ a) (hp : a.natAbs * b.natAbs = p) : (if decide (b < 0) = true then (if 0 < p % 65536 then -((p / 65536 : Nat) : Int) - 1 else -((p / 65536 : Nat) : Int)) else ((p / 65536 : Nat) : Int)) = a * b / 65536 := by
  have e : a.natAbs * b.natAbs = (a * b).natAbs := (Int.natAbs_mul a b).symm
  rw [e] at hp
  by_cases h : b < 0
  · have hs : a * b ≤ 0 := Int.mul_nonpos_of_nonneg_of_nonpos ha (by omega)
    rw [if_pos (decide_eq_true h)]
    split <;> omega
  · have hs : 0 ≤ a * b := Int.mul_nonneg ha (by omega)
    rw [if_neg (by rw [decide_eq_true_eq]; exact h)]
    omega
set_option maxHeartbeats 4000000 in
theorem kN (w : World) (a l : Int) (hl : 0 ≤ l ∧ l ≤ 2147483648) :
    Calls Tryz.prog 76 #[.int .i64 a, .int .i64 l] w (fun ex w' => ∃ v, ex = .returned v ∧ (fun v w' => v = .int .i64 (gV a l) ∧ Below w.heap.size w w') v w') := by
  refine aL #[.tmp 4] 16 Tryz.func76 rfl Tryz.results76 Tryz.ntmps76 rfl ?_
  have M0 := Mem.refl w
  refine aH (aB ?_)
  refine aA (aD (.int _ _) rfl) rfl rfl ?_
  refine aE (aF (aH (aH (aB ?_))))
  refine aA (aC (.int _ _) rfl) rfl rfl ?_
  refine aA (aC (.int _ _) rfl) rfl rfl ?_
  refine aA (aN (.bool (decide _)) rfl rfl rfl) rfl rfl ?_
  refine aE (aF ?_)
  refine aX rfl (fun h7 => ?_) (fun h7 => ?_)
  · refine aH (aB ?_)
    refine aA (aC (.int _ _) rfl) rfl rfl ?_
    refine aA (aD (.int _ _) rfl) rfl rfl ?_
    refine aE (aF (aU (dC ?_)))
    refine cU (.int _ _) rfl ?_
    exact ⟨iE (by unfold gV; omega), M0.below⟩
  · refine aO (aF (aH (aH (aB ?_))))
    refine aA (aC (.int _ _) rfl) rfl rfl ?_
    refine aA (aC (.int _ _) rfl) rfl rfl ?_
    refine aA (mQ rfl (eT _ (by omega) (by omega))) rfl rfl ?_
    refine aA (aN (.bool (decide _)) rfl rfl rfl) rfl rfl ?_
    refine aE (aF ?_)
    refine aX rfl (fun h12 => ?_) (fun h12 => ?_)
    · refine aH (aB ?_)
      refine aA (aC (.int _ _) rfl) rfl rfl ?_
      refine aA (mQ rfl (eT _ (by omega) (by omega))) rfl rfl ?_
      refine aA (aD (.int _ _) rfl) rfl rfl ?_
      refine aE (aF (aU (dC ?_)))
      refine cU (.int _ _) rfl ?_
      exact ⟨iE (by unfold gV; omega), M0.below⟩
    · refine aO (aF (aH (aB ?_)))
      refine aA (aC (.int _ _) rfl) rfl rfl ?_
      refine aA (aD (.int _ _) rfl) rfl rfl ?_
      refine aE (aF (aU ?_))
      refine cU (.int _ _) rfl ?_
      exact ⟨iE (by unfold gV; omega), M0.below⟩
set_option maxHeartbeats 8000000 in
theorem oX (w : World) (a b : Int) (ha : 0 ≤ a) (ha2 : a ≤ 4611686018427387904) (hb0 : -4611686018427387904 ≤ b) (hb1 : b ≤ 4611686018427387904) (hp : -8796093022208 ≤ a * b ∧ a * b ≤ 8796093022208) :
    Calls Tryz.prog 184 #[.int .i64 a, .int .i64 b, .int .i64 16] w (fun ex w' => ∃ v, ex = .returned v ∧ (fun v w' => v = .tuple #[.int .i64 (a * b / 65536), .int .i64 0] ∧ Below w.heap.size w w') v w') := by
  obtain ⟨p, hpp⟩ : ∃ p, a.natAbs * b.natAbs = p := ⟨_, rfl⟩
  have hpl : p ≤ 8796093022208 := by have e := Int.natAbs_mul a b; omega
  refine aL #[.tmp 6, .tmp 7] 52 Tryz.func184 rfl Tryz.results184 Tryz.ntmps184 rfl ?_
  have M0 := Mem.refl w
  refine aH (aB ?_)
  refine aA (aD (.int _ _) rfl) rfl rfl ?_
  refine aA (aD (.int _ _) rfl) rfl rfl ?_
  refine aE (aF (aH (aH (aB ?_))))
  refine aA (aC (.int _ _) rfl) rfl rfl ?_
  refine aA (aN (.bool (decide _)) rfl rfl rfl) rfl rfl ?_
  refine aK 16 (.bool false) (bF (by first | decide | omega)).symm ?_
  refine aA (aC (.bool false) rfl) rfl rfl ?_
  refine aA (aC (.int _ _) rfl) rfl rfl ?_
  refine aA (aN (.bool (decide _)) rfl rfl rfl) rfl rfl ?_
  refine aK 19 (.bool false) (bF (by first | decide | omega)).symm ?_
  refine aA (bQ false (.bool false) rfl rfl) rfl rfl ?_
  refine aE (aF ?_)
  refine cP rfl ?_
  refine aO (aF (aH (aB ?_)))
  refine aA (aD (.int _ _) rfl) rfl rfl ?_
  refine aE (aF (aH (aH (aB ?_))))
  refine aA (aD (.int _ _) rfl) rfl rfl ?_
  refine aE (aF (aT ?_))
  refine dM (σ := Nat) [0, 1, 2, 6, 7] (fun k => [(8, .int .u64 ((2 ^ k : Nat) : Int)), (9, .int .i64 (k : Int))]) (fun k w' => k ≤ 16 ∧ Mem w [] [] w') (fun k => 16 - k) 0 (bB (iE rfl) (bB rfl dO)) (⟨by omega, M0⟩) ?_
  rintro k ρ1 w1 ⟨hk, hM1⟩
  refine aH (aH (aB ?_))
  refine aA (aC (.int _ _) rfl) rfl rfl ?_
  refine aA (aC (.int _ _) rfl) rfl rfl ?_
  refine aA (aN (.bool (decide _)) rfl rfl rfl) rfl rfl ?_
  refine aE (aF ?_)
  refine aX rfl (fun h23 => ?_) (fun h23 => ?_)
  · have hpw : 2 ^ k ≤ 2 ^ 15 := Nat.pow_le_pow_right (by omega) (by omega)
    refine aO (aF (aH (aT (aB ?_))))
    refine aA (aC (.int _ _) rfl) rfl rfl ?_
    refine aA (aN (.int _ _) rfl rfl rfl) rfl rfl ?_
    refine aK 27 (.int .u64 ((2 ^ (k + 1) : Nat) : Int)) (iE (by rw [eX, Nat.pow_succ]; omega)) ?_
    refine aA (aD (.int _ _) rfl) rfl rfl ?_
    refine aE ?_
    refine cS ?_
    refine aF (aB ?_)
    refine aA (aC (.int _ _) rfl) rfl rfl ?_
    refine aA (aZ rfl rfl (by omega) (by omega)) rfl rfl ?_
    refine aA (aD (.int _ _) rfl) rfl rfl ?_
    refine aE ?_
    refine cA (k + 1) (bB (iE rfl) (bB rfl dO)) (cD rfl (cD rfl (cD rfl (cD rfl (cD rfl fS))))) ?_ ?_
    · exact ⟨by omega, hM1⟩
    · omega
  · have hk16 : k = 16 := by omega
    subst hk16
    refine cQ ?_
    refine cX ?_
    refine dF ?_
    refine eJ ?_
    refine aF (aH (aB ?_))
    refine aA (aC (.int _ _) rfl) rfl rfl ?_
    refine aA (aC (.int _ _) rfl) rfl rfl ?_
    refine aM aQt rfl rfl rfl ?_
    refine (qV _ a b (by omega) (by omega) (by omega) (by omega)).mono ?_
    rintro _ w2 ⟨v2, rfl, ⟨D, rfl, hD8, hDd, hDv, hb2⟩⟩
    refine ⟨_, rfl, ?_⟩
    have M2 := hM1.callB hb2
    obtain ⟨d0, d1, d2, d3, d4, d5, d6, d7, rfl⟩ := aWp hD8
    rw [hpp] at hDv
    refine aA (aC (.int _ _) rfl) rfl rfl ?_
    refine aM aNw rfl rfl rfl ?_
    refine (sX _ d0 d1 d2 d3 d4 d5 d6 d7 hDd 65536 (by omega) (by omega) (by rw [hDv]; omega) (by rw [hDv]; omega)).mono ?_
    rintro _ w3 ⟨v3, rfl, ⟨rfl, hb3⟩⟩
    refine ⟨_, rfl, ?_⟩
    have M3 := M2.callB hb3
    refine aA (aC (.tuple (List.toArray _)) rfl) rfl rfl ?_
    refine aA (bI (.int _ _) rfl rfl) rfl rfl ?_
    refine aK 34 (.int .u64 ((p / 65536 : Nat) : Int)) (iE (by rw [hDv])) ?_
    refine aA (bI (.int _ _) rfl rfl) rfl rfl ?_
    refine aK 35 (.int .u64 ((p % 65536 : Nat) : Int)) (iE (by rw [hDv])) ?_
    refine aA (bI (.bool true) rfl rfl) rfl rfl ?_
    refine aA (aD (.int _ _) rfl) rfl rfl ?_
    refine aA (aD (.int _ _) rfl) rfl rfl ?_
    refine aA (aD (.bool true) rfl) rfl rfl ?_
    refine aE (aF (aH (aB ?_)))
    refine aA (aC (.int _ _) rfl) rfl rfl ?_
    refine aA (aC (.int _ _) rfl) rfl rfl ?_
    refine aA (aC (.bool true) rfl) rfl rfl ?_
    refine aA (aC (.int _ _) rfl) rfl rfl ?_
    refine aA (aN (.bool (decide _)) rfl rfl rfl) rfl rfl ?_
    refine aK 42 (.bool false) (bF (by omega)).symm ?_
    refine aA (aC (.int _ _) rfl) rfl rfl ?_
    refine aA (aN (.bool (decide _)) rfl rfl rfl) rfl rfl ?_
    refine aA (nK _ Tryz.underlying4 rfl rfl rfl) rfl rfl ?_
    refine aK 45 (.bool (decide (b < 0))) (bv rfl (by simp)) ?_
    refine aM aSo rfl rfl rfl ?_
    refine (uW _ (p / 65536) (p % 65536) (decide (b < 0)) (by omega)).mono ?_
    rintro _ w4 ⟨v4, rfl, ⟨rfl, hb4⟩⟩
    refine ⟨_, rfl, ?_⟩
    have M4 := M3.callB hb4
    refine aA (aC (.tuple (List.toArray _)) rfl) rfl rfl ?_
    refine aA (bI (.int _ _) rfl rfl) rfl rfl ?_
    refine aA (bI (.bool true) rfl rfl) rfl rfl ?_
    refine aA (aD (.int _ _) rfl) rfl rfl ?_
    refine aA (aD (.bool true) rfl) rfl rfl ?_
    refine aE (aF (aH (aH (aB ?_))))
    refine aA (aC (.bool true) rfl) rfl rfl ?_
    refine aA (kF false rfl rfl) rfl rfl ?_
    refine aE (aF ?_)
    refine cP rfl ?_
    refine aO (aF (aH (aB ?_)))
    refine aA (aC (.int _ _) rfl) rfl rfl ?_
    refine aA (aD (.int _ _) rfl) rfl rfl ?_
    refine aA (aD (.int _ _) rfl) rfl rfl ?_
    refine aE (aF (aU ?_))
    refine fR (.int _ _) (.int _ _) rfl rfl ?_
    exact ⟨oA (iE (aMs ha hpp)) rfl, M4.below⟩
set_option maxHeartbeats 4000000 in
theorem wP (w : World) (c : Con) (a b : Body) (hc : Okn c) (ha : Okb a) (hb : Okb b) :
    Calls Tryz.prog 183 #[.agg (bW c).toArray, (.agg (aI a).toArray), (.agg (aI b).toArray)] w (fun ex w' => ∃ v, ex = .returned v ∧ (fun v w' => v = .int .i64 (qY c a b) ∧ Below w.heap.size w w') v w') := by
  have hr := sF hc ha hb
  have hv1 := ha.v
  have hv2 := hb.v
  have hx := hc.x
  have hy := hc.y
  refine aL #[.tmp 6] 41 Tryz.func183 rfl Tryz.results183 Tryz.ntmps183 rfl ?_
  have M0 := Mem.refl w
  refine aH (aB ?_)
  refine bM (.agg (List.toArray _)) M0 rfl rfl rfl (fun b1 w1 M1 => ?_)
  refine bM (.agg (List.toArray _)) M1 rfl rfl rfl (fun b2 w2 M2 => ?_)
  refine bM (.agg (List.toArray _)) M2 rfl rfl rfl (fun b3 w3 M3 => ?_)
  refine aA (aD (.int _ _) rfl) rfl rfl ?_
  refine aE (aF (aH (aB ?_)))
  refine aA (aG 8 dN rfl) rfl rfl ?_
  refine aA (aG 0 cN rfl) rfl rfl ?_
  refine aA (aQ 2 (.int _ _) aW M3 rfl rfl rfl) rfl rfl ?_
  refine aA (bC dJ Tryz.underlying2 rfl (eT _ (by omega) (by omega))) rfl rfl ?_
  refine aA (aG 8 dN rfl) rfl rfl ?_
  refine aA (aG 0 cN rfl) rfl rfl ?_
  refine aA (aQ 1 (.int _ _) aW M3 rfl rfl rfl) rfl rfl ?_
  refine aA (bC dJ Tryz.underlying2 rfl (eT _ (by omega) (by omega))) rfl rfl ?_
  refine aA (fC rfl rfl (by omega) (by omega)) rfl rfl ?_
  refine aA (aG 2 fN rfl) rfl rfl ?_
  refine aA (aG 0 cN rfl) rfl rfl ?_
  refine aA (aQ 0 (.int _ _) aW M3 rfl rfl rfl) rfl rfl ?_
  refine aA (bC dJ Tryz.underlying2 rfl (eT _ (by omega) (by omega))) rfl rfl ?_
  refine aA (fP rfl rfl (by omega) (by omega)) rfl rfl ?_
  refine aA (aD (.int _ _) rfl) rfl rfl ?_
  refine aE (aF (aH (aB ?_)))
  refine aA (aG 8 dN rfl) rfl rfl ?_
  refine aA (aG 1 cJ rfl) rfl rfl ?_
  refine aA (aQ 2 (.int _ _) aW M3 rfl rfl rfl) rfl rfl ?_
  refine aA (bC dJ Tryz.underlying2 rfl (eT _ (by omega) (by omega))) rfl rfl ?_
  refine aA (aG 8 dN rfl) rfl rfl ?_
  refine aA (aG 1 cJ rfl) rfl rfl ?_
  refine aA (aQ 1 (.int _ _) aW M3 rfl rfl rfl) rfl rfl ?_
  refine aA (bC dJ Tryz.underlying2 rfl (eT _ (by omega) (by omega))) rfl rfl ?_
  refine aA (fC rfl rfl (by omega) (by omega)) rfl rfl ?_
  refine aA (aG 2 fN rfl) rfl rfl ?_
  refine aA (aG 1 cJ rfl) rfl rfl ?_
  refine aA (aQ 0 (.int _ _) aW M3 rfl rfl rfl) rfl rfl ?_
  refine aA (bC dJ Tryz.underlying2 rfl (eT _ (by omega) (by omega))) rfl rfl ?_
  refine aA (fP rfl rfl (by omega) (by omega)) rfl rfl ?_
  refine aA (aD (.int _ _) rfl) rfl rfl ?_
  refine aE (aF (aH (aB ?_)))
  refine aA (aC (.int _ _) rfl) rfl rfl ?_
  refine aA (aC (.int _ _) rfl) rfl rfl ?_
  refine aA (aZ rfl rfl (by omega) (by omega)) rfl rfl ?_
  refine aM mK rfl rfl rfl ?_
  refine (eI _ _ 65536 (by decide) (by omega) (by omega)).mono ?_
  rintro _ w4 ⟨v4, rfl, ⟨rfl, hb4⟩⟩
  refine ⟨_, rfl, ?_⟩
  have M4 := M3.callB hb4
  refine aA (aD (.int _ _) rfl) rfl rfl ?_
  refine aE (aF (aU ?_))
  refine cU (.int _ _) rfl ?_
  exact ⟨rfl, M4.below⟩
set_option maxHeartbeats 4000000 in
theorem oV (w : World) (c : Con) (a b : Body) (hc : Okn c) (ha : Okb a) (hb : Okb b) :
    Calls Tryz.prog 148 #[.agg (bW c).toArray, (.agg (aI a).toArray), (.agg (aI b).toArray)] w (fun ex w' => ∃ v, ex = .returned v ∧ (fun v w' => v = .int .i64 (iL c a b) ∧ Below w.heap.size w w') v w') := by
  have hr := sF hc ha hb
  have hm1 := ha.m
  have hm2 := hb.m
  have hc1 := ha.c
  have hc2 := hb.c
  refine aL #[.tmp 6] 38 Tryz.func148 rfl Tryz.results148 Tryz.ntmps148 rfl ?_
  have M0 := Mem.refl w
  refine aH (aB ?_)
  refine bM (.agg (List.toArray _)) M0 rfl rfl rfl (fun b1 w1 M1 => ?_)
  refine bM (.agg (List.toArray _)) M1 rfl rfl rfl (fun b2 w2 M2 => ?_)
  refine bM (.agg (List.toArray _)) M2 rfl rfl rfl (fun b3 w3 M3 => ?_)
  refine aA (aD (.int _ _) rfl) rfl rfl ?_
  refine aE (aF (aH (aB ?_)))
  refine aA (aR 0 dP M3 rfl rfl rfl) rfl rfl ?_
  refine aA (aR 1 bP M3 rfl rfl rfl) rfl rfl ?_
  refine aA (aR 2 bP M3 rfl rfl rfl) rfl rfl ?_
  refine aM aZg rfl rfl rfl ?_
  refine (wP _ c a b hc ha hb).mono ?_
  rintro _ w4 ⟨v4, rfl, ⟨rfl, hb4⟩⟩
  refine ⟨_, rfl, ?_⟩
  have M4 := M3.callB hb4
  refine aA (aD (.int _ _) rfl) rfl rfl ?_
  refine aE (aF (aH (aB ?_)))
  refine aA (aG 4 eB rfl) rfl rfl ?_
  refine aA (aQ 1 (.int _ _) aW M4 rfl rfl rfl) rfl rfl ?_
  refine aA (bC dJ Tryz.underlying2 rfl (eT _ (by omega) (by omega))) rfl rfl ?_
  refine aA (aG 4 eB rfl) rfl rfl ?_
  refine aA (aQ 2 (.int _ _) aW M4 rfl rfl rfl) rfl rfl ?_
  refine aA (bC dJ Tryz.underlying2 rfl (eT _ (by omega) (by omega))) rfl rfl ?_
  refine aA (aZ rfl rfl (by omega) (by omega)) rfl rfl ?_
  refine aA (aD (.int _ _) rfl) rfl rfl ?_
  refine aE (aF (aH (aH (aB ?_))))
  refine aA (aC (.int _ _) rfl) rfl rfl ?_
  refine aA (aN (.bool (decide _)) rfl rfl rfl) rfl rfl ?_
  refine aA (aC (.bool (decide _)) rfl) rfl rfl ?_
  refine dT 22 rfl (fun g22 => ?_) (fun g22 => ?_)
  · refine aS rfl rfl ?_
    refine aS rfl rfl ?_
    refine aA (bQ true (.bool true) rfl rfl) rfl rfl ?_
    refine aE (aF ?_)
    refine cM rfl ?_
    refine aH (aB ?_)
    refine aA (aD (.int _ _) rfl) rfl rfl ?_
    refine aE (aF (aU (dC ?_)))
    refine cU (.int _ _) rfl ?_
    exact ⟨iE (by unfold iL; rw [if_pos (.inl (by omega))]), M4.below⟩
  · refine aA (aC (.int _ _) rfl) rfl rfl ?_
    refine aA (aN (.bool (decide _)) rfl rfl rfl) rfl rfl ?_
    refine aA (bQ false (.bool (decide _)) rfl rfl) rfl rfl ?_
    refine aE (aF ?_)
    refine aX rfl (fun h25 => ?_) (fun h25 => ?_)
    · refine aH (aB ?_)
      refine aA (aD (.int _ _) rfl) rfl rfl ?_
      refine aE (aF (aU (dC ?_)))
      refine cU (.int _ _) rfl ?_
      exact ⟨iE (by unfold iL; rw [if_pos (.inr (by omega))]), M4.below⟩
    · have hsp := wL hc ha hb (by omega)
      refine aO (aF (aH (aB ?_)))
      refine aA (aC (.int _ _) rfl) rfl rfl ?_
      refine aA (mQ rfl (eT _ (by omega) (by omega))) rfl rfl ?_
      refine aA (aG 5 pZ rfl) rfl rfl ?_
      refine aA (aQ 1 (.int _ _) aW M4 rfl rfl rfl) rfl rfl ?_
      refine aA (aG 5 pZ rfl) rfl rfl ?_
      refine aA (aQ 2 (.int _ _) aW M4 rfl rfl rfl) rfl rfl ?_
      refine aA (lJ rfl rfl ) rfl rfl ?_
      refine aA (bC dJ Tryz.underlying2 rfl (eT _ (by omega) (by omega))) rfl rfl ?_
      refine aK 33 (.int .i64 (max a.bounce b.bounce)) (iE (by first | rfl | omega)) ?_
      refine aA (aZ rfl rfl (by omega) (by omega)) rfl rfl ?_
      refine aA (fP rfl rfl (by omega) (by omega)) rfl rfl ?_
      refine aA (aC (.int _ _) rfl) rfl rfl ?_
      refine aM mK rfl rfl rfl ?_
      refine (eI _ (-qY c a b * (65536 + max a.bounce b.bounce)) (a.mass + b.mass) (by omega) (by omega) (by omega)).mono ?_
      rintro _ w5 ⟨v5, rfl, ⟨rfl, hb5⟩⟩
      refine ⟨_, rfl, ?_⟩
      have M5 := M4.callB hb5
      refine aA (aD (.int _ _) rfl) rfl rfl ?_
      refine aE (aF (aU ?_))
      refine cU (.int _ _) rfl ?_
      exact ⟨iE (by unfold iL; rw [if_neg (fun g => by omega)]), M5.below⟩
set_option maxHeartbeats 4000000 in
theorem kI (w : World) (j m x : Int) (hj : 0 ≤ j ∧ j ≤ 8796093022208) (hm : 0 ≤ m ∧ m ≤ 1048576) (hp : 0 ≤ j * m ∧ j * m ≤ 8796093022208) (hx : -65536 ≤ x ∧ x ≤ 65536) :
    Calls Tryz.prog 149 #[.int .i64 j, .int .i32 m, .int .i32 x] w (fun ex w' => ∃ v, ex = .returned v ∧ (fun v w' => v = .int .i64 (kR j m x) ∧ Below w.heap.size w w') v w') := by
  have r1 := iK hp hx
  have hkk := r1.1
  refine aL #[.tmp 6] 26 Tryz.func149 rfl Tryz.results149 Tryz.ntmps149 rfl ?_
  have M0 := Mem.refl w
  refine aH (aB ?_)
  refine aA (aD (.int _ _) rfl) rfl rfl ?_
  refine aE (aF (aH (aB ?_)))
  refine aA (aC (.int _ _) rfl) rfl rfl ?_
  refine aA (aC (.int _ _) rfl) rfl rfl ?_
  refine aA (bC dJ Tryz.underlying2 rfl (eT _ (by omega) (by omega))) rfl rfl ?_
  refine aM aRl rfl rfl rfl ?_
  refine (oX _ j m (by omega) (by omega) (by omega) (by omega) (by omega)).mono ?_
  rintro _ w1 ⟨v1, rfl, ⟨rfl, hb1⟩⟩
  refine ⟨_, rfl, ?_⟩
  have M1 := M0.callB hb1
  refine aA (aC (.tuple (List.toArray _)) rfl) rfl rfl ?_
  refine aA (bI (.int _ _) rfl rfl) rfl rfl ?_
  refine aA (bI (.int _ _) rfl rfl) rfl rfl ?_
  refine aA (aD (.int _ _) rfl) rfl rfl ?_
  refine aA (aD (.int _ _) rfl) rfl rfl ?_
  refine aE (aF (aH (aB ?_)))
  refine aA (aC (.int _ _) rfl) rfl rfl ?_
  refine aA (aC (.int _ _) rfl) rfl rfl ?_
  refine aA (bC dJ Tryz.underlying2 rfl (eT _ (by omega) (by omega))) rfl rfl ?_
  refine aM aRl rfl rfl rfl ?_
  refine (oX _ (j * m / 65536) x (by omega) (by omega) (by omega) (by omega) r1.2.1).mono ?_
  rintro _ w2 ⟨v2, rfl, ⟨rfl, hb2⟩⟩
  refine ⟨_, rfl, ?_⟩
  have M2 := M1.callB hb2
  refine aA (aC (.tuple (List.toArray _)) rfl) rfl rfl ?_
  refine aA (bI (.int _ _) rfl rfl) rfl rfl ?_
  refine aA (bI (.int _ _) rfl rfl) rfl rfl ?_
  refine aA (aD (.int _ _) rfl) rfl rfl ?_
  refine aA (aD (.int _ _) rfl) rfl rfl ?_
  refine aE (aF (aH (aB ?_)))
  refine aA (aC (.int _ _) rfl) rfl rfl ?_
  refine aA (aD (.int _ _) rfl) rfl rfl ?_
  refine aE (aF (aU ?_))
  refine cU (.int _ _) rfl ?_
  exact ⟨rfl, M2.below⟩
end Go.Proofs.YtlmcphcgiclanaaGreatDoor

namespace Go.Proofs.YtlmcphcgiclanaaGreatDoor
open Go.Bil
open Go.RowKit (Below)
open Go.Proofs
def mS (s : Bool) (c : Con) : Int := cond s c.ny c.nx
theorem aKp {s : Bool} {c : Con} (h : Okn c) : -65536 ≤ mS s c ∧ mS s c ≤ 65536 := by cases s; exact h.x; exact h.y
theorem pY {xs : List Body} {b xa xb : Body} (hs : cG xs) (ha : xa ∈ xs) (hb : xb ∈ xs) (h : b ∈ xs) (hm : 0 ≤ xa.mass) (hm2 : 0 ≤ xb.mass) (e : b.key = xa.key ∨ b.key = xb.key) : b.mass ≤ xa.mass + xb.mass := by
  rcases e with e | e
  · rw [jF hs h ha e]; omega
  · rw [jF hs h hb e]; omega
set_option maxHeartbeats 8000000 in
theorem zU (w : World) (A : Option Addr) (n c : Nat) (xs : List Body) (R : Rd w 10 A n (xs.map aI)) (hs : cG xs) (hb : ∀ b ∈ xs, Okb b) (hn : n ≤ 1048576) (B : Option Addr) (mc c' : Nat) (cs : List Con) (R' : Rd w 5 B mc (cs.map bW)) (hcs : ∀ c ∈ cs, OkC xs c) (hmc : mc ≤ 8589934592) (i : Nat) (b : Body) (hxi : xs[i]? = some b) (sec : Bool) :
    Calls Tryz.prog 116 #[.slice A n c, .slice B mc c', .int .i64 (i : Int), .bool sec] w (fun ex w' => ∃ v, ex = .returned v ∧ (fun v w' => v = .int .i64 (fM xs cs (mS sec) b) ∧ Below w.heap.size w w') v w') := by
  have hlen : xs.length = n := by simpa using R.len
  have hbd := R.bound
  have hclen : cs.length = mc := by simpa using R'.len
  have hbd' := R'.bound
  have hbi := List.mem_of_getElem? hxi
  have hil := (List.getElem?_eq_some_iff.1 hxi).1
  refine aL #[.tmp 8] 98 Tryz.func116 rfl Tryz.results116 Tryz.ntmps116 rfl ?_
  have M0 := Mem.refl w
  refine aH (aB ?_)
  refine aA (aD (.int _ _) rfl) rfl rfl ?_
  refine aE (aF (aH (aB ?_)))
  refine aA (aD (.int _ _) rfl) rfl rfl ?_
  refine aE (aF (aH (aH (aB ?_))))
  refine aA (aD (.int _ _) rfl) rfl rfl ?_
  refine aE (aF (aT ?_))
  refine dM (σ := Nat) [0, 1, 2, 3, 8] (fun k => [(9, .int .i64 (fM xs (cs.take k) (mS sec) b)), (10, .int .i64 (k : Int))]) (fun k w' => k ≤ mc ∧ Mem w [] [] w') (fun k => mc - k) 0 (bB (iE (aAu _ _ _ _).symm) (bB rfl dO)) (⟨by omega, M0⟩) ?_
  rintro k ρ1 w1 ⟨hk, hM1⟩
  refine aH (aH (aB ?_))
  refine aA (aC (.int _ _) rfl) rfl rfl ?_
  refine aA (aC (.slice _ _ _) rfl) rfl rfl ?_
  refine aA (dE Tryz.underlying82 rfl) rfl rfl ?_
  refine aA (aN (.bool (decide _)) rfl rfl rfl) rfl rfl ?_
  refine aE (aF ?_)
  refine aX rfl (fun h20 => ?_) (fun h20 => ?_)
  · obtain ⟨cn, hcn⟩ := dA (xs := cs) (k := k) hclen (by omega)
    have hc := hcs cn (List.mem_of_getElem? hcn)
    have hne := hc.ne
    have hg := aKp (s := sec) hc.n
    have hsr := pA (cs := cs.take k) (g := mS sec) hs hb (fun c h => hcs c (List.mem_of_mem_take h)) (fun c h => aKp (hcs c (List.mem_of_mem_take h)).n) hbi
    have htl := List.length_take_le k cs
    obtain ⟨pa, xa, hxa, hka, hfa⟩ := pS hc.l
    obtain ⟨pb, xb, hxb, hkb, hfb⟩ := pS hc.h
    have hba := tR hxa hfa
    have hbb := tR hxb hfb
    have hma := List.mem_of_getElem? hxa
    have hmb := List.mem_of_getElem? hxb
    have hoa := hb xa hma
    have hob := hb xb hmb
    have qa := hoa.m
    have qb := hob.m
    refine aO (aF (aH (aT (aH (aB ?_)))))
    refine aA (aC (.slice _ _ _) rfl) rfl rfl ?_
    refine aA (aC (.int _ _) rfl) rfl rfl ?_
    refine aA (bN (k) vH rfl rfl rfl ((R'.mem hM1).below_len (aJ bW hcn)) ((R'.mem hM1).someK (aJ bW hcn))) rfl rfl ?_
    refine aA (dG _ dP (R'.mem hM1) (aJ bW hcn) rfl) rfl rfl ?_
    refine aV kB hM1 rfl rfl (fun b2 w2 M2 => ?_)
    refine bL 0 _ dP M2 rfl rfl rfl rfl rfl (bA rfl) rfl (fun w3 M3 => ?_)
    refine aE (aF (aH (aH ?_)))
    refine bY [(0, 0), (1, 0), (2, 1), (3, 0), (4, 0), (5, 1), (6, 1), (7, 1), (8, 0), (9, 0), (10, 0), (11, 0), (12, 1), (13, 0), (14, 0), (15, 1), (16, 1), (17, 1), (18, 0), (19, 0)] mixed rfl (by kernel_rfl) (fun w4 hb4 hh4 => ?_)
    have M4 := M3.drew hb4 hh4
    refine aP rfl rfl rfl (fun _ => aG 0 eF rfl) ?_
    refine aP rfl rfl rfl (fun _ => aG 0 eZ rfl) ?_
    refine cB rfl rfl rfl (aQ 0 (.int _ _) cO M4 rfl rfl rfl) ?_
    refine aP rfl rfl rfl (fun _ => aC (.slice _ _ _) rfl) ?_
    refine aP rfl rfl rfl (fun _ => aC (.int _ _) rfl) ?_
    refine cB rfl rfl rfl (bN (i) cW rfl rfl rfl ((R.mem M4).below_len (aJ aI hxi)) ((R.mem M4).someK (aJ aI hxi))) ?_
    refine cB rfl rfl rfl (bG 0 dL (R.mem M4) (Nat.lt_of_le_of_lt (Nat.zero_le _) ((R.mem M4).below_len (aJ aI hxi))) rfl) ?_
    refine cB rfl rfl rfl (dR (o := 0) (.int _ _) cO (R.mem M4) (aJ aI hxi) rfl rfl) ?_
    refine aP rfl rfl rfl (fun _ => aN (.bool (decide _)) rfl rfl rfl) ?_
    refine aP rfl rfl rfl (fun _ => aC (.bool (decide _)) rfl) ?_
    refine aDm 36 rfl (fun g36 => ?_) (fun g36 => ?_)
    · refine aP rfl rfl rfl (fun _ => aG 0 eF rfl) ?_
      refine aP rfl rfl rfl (fun _ => aG 1 gU rfl) ?_
      refine cB rfl rfl rfl (aQ 0 (.int _ _) cO M4 rfl rfl rfl) ?_
      refine aP rfl rfl rfl (fun _ => aC (.slice _ _ _) rfl) ?_
      refine aP rfl rfl rfl (fun _ => aC (.int _ _) rfl) ?_
      refine cB rfl rfl rfl (bN (i) cW rfl rfl rfl ((R.mem M4).below_len (aJ aI hxi)) ((R.mem M4).someK (aJ aI hxi))) ?_
      refine cB rfl rfl rfl (bG 0 dL (R.mem M4) (Nat.lt_of_le_of_lt (Nat.zero_le _) ((R.mem M4).below_len (aJ aI hxi))) rfl) ?_
      refine cB rfl rfl rfl (dR (o := 0) (.int _ _) cO (R.mem M4) (aJ aI hxi) rfl rfl) ?_
      refine aP rfl rfl rfl (fun _ => aN (.bool (decide _)) rfl rfl rfl) ?_
      refine aP rfl rfl rfl (fun _ => bQ true (.bool (decide _)) rfl rfl) ?_
      refine cI ?_
      refine aF ?_
      refine aX rfl (fun h46 => ?_) (fun h46 => ?_)
      · refine cQ ?_
        refine cX ?_
        refine eJ ?_
        refine aF (aB ?_)
        refine aA (aC (.int _ _) rfl) rfl rfl ?_
        refine aA (aZ rfl rfl (by omega) (by omega)) rfl rfl ?_
        refine aA (aD (.int _ _) rfl) rfl rfl ?_
        refine aE ?_
        refine cA (k + 1) (bB (iE (by rw [gZ hcn]; unfold ctr; rw [if_neg (by omega), if_neg (by omega)]; omega)) (bB rfl dO)) (cD rfl (cD rfl (cD rfl (cD rfl (cD rfl fS))))) ?_ ?_
        · exact ⟨by omega, M4.keep [false]⟩
        · (show mc - (k + 1) < mc - k; omega)
      · refine aO (aF (aH (aB ?_)))
        refine aA (aC (.slice _ _ _) rfl) rfl rfl ?_
        refine aA (aC (.slice _ _ _) rfl) rfl rfl ?_
        refine aA (aG 0 eF rfl) rfl rfl ?_
        refine aA (aG 0 eZ rfl) rfl rfl ?_
        refine aA (aQ 0 (.int _ _) cO M4 rfl rfl rfl) rfl rfl ?_
        refine aM rP rfl rfl rfl ?_
        refine (gR _ cn.low _ _ _ xs (R.mem M4)).mono ?_
        rintro _ w5 ⟨v5, rfl, ⟨rfl, hb5⟩⟩
        refine ⟨_, rfl, ?_⟩
        have M5 := M4.callB hb5
        refine aA (bN (pa) cW rfl rfl hfa ((R.mem M5).below_len (aJ aI hxa)) ((R.mem M5).someK (aJ aI hxa))) rfl rfl ?_
        refine aA (dG _ bP (R.mem M5) (aJ aI hxa) rfl) rfl rfl ?_
        refine aV gG M5 rfl rfl (fun b6 w6 M6 => ?_)
        refine bL 1 _ bP M6 rfl rfl rfl rfl rfl (bA rfl) rfl (fun w7 M7 => ?_)
        refine aE (aF (aH (aB ?_)))
        refine aA (aC (.slice _ _ _) rfl) rfl rfl ?_
        refine aA (aC (.slice _ _ _) rfl) rfl rfl ?_
        refine aA (aG 0 eF rfl) rfl rfl ?_
        refine aA (aG 1 gU rfl) rfl rfl ?_
        refine aA (aQ 0 (.int _ _) cO M7 rfl rfl rfl) rfl rfl ?_
        refine aM rP rfl rfl rfl ?_
        refine (gR _ cn.high _ _ _ xs (R.mem M7)).mono ?_
        rintro _ w8 ⟨v8, rfl, ⟨rfl, hb8⟩⟩
        refine ⟨_, rfl, ?_⟩
        have M8 := M7.callB hb8
        refine aA (bN (pb) cW rfl rfl hfb ((R.mem M8).below_len (aJ aI hxb)) ((R.mem M8).someK (aJ aI hxb))) rfl rfl ?_
        refine aA (dG _ bP (R.mem M8) (aJ aI hxb) rfl) rfl rfl ?_
        refine aV gG M8 rfl rfl (fun b9 w9 M9 => ?_)
        refine bL 2 _ bP M9 rfl rfl rfl rfl rfl (bA rfl) rfl (fun w10 M10 => ?_)
        refine aE (aF (aH (aB ?_)))
        refine aA (aR 0 dP M10 rfl rfl rfl) rfl rfl ?_
        refine aA (aR 1 bP M10 rfl rfl rfl) rfl rfl ?_
        refine aA (aR 2 bP M10 rfl rfl rfl) rfl rfl ?_
        refine aM aQx rfl rfl rfl ?_
        refine (oV _ cn xa xb hc.n hoa hob).mono ?_
        rintro _ w11 ⟨v11, rfl, ⟨rfl, hb11⟩⟩
        refine ⟨_, rfl, ?_⟩
        have M11 := M10.callB hb11
        refine aA (aD (.int _ _) rfl) rfl rfl ?_
        refine aE (aF (aH (aB ?_)))
        refine aA (aG 2 fN rfl) rfl rfl ?_
        refine aA (aG 0 cN rfl) rfl rfl ?_
        refine aA (aQ 0 (.int _ _) aW M11 rfl rfl rfl) rfl rfl ?_
        refine aA (aD (.int _ _) rfl) rfl rfl ?_
        refine aE (aF (aH (aH (aB ?_))))
        refine aA (aC (.bool _) rfl) rfl rfl ?_
        refine aE (aF ?_)
        refine iG _ rfl (fun h70 => ?_) (fun h70 => ?_)
        · refine aB ?_
          refine aA (aG 2 fN rfl) rfl rfl ?_
          refine aA (aG 1 cJ rfl) rfl rfl ?_
          refine aA (aQ 0 (.int _ _) aW M11 rfl rfl rfl) rfl rfl ?_
          refine aA (aD (.int _ _) rfl) rfl rfl ?_
          refine aE (aF (aH (aB ?_)))
          refine aA (aC (.int _ _) rfl) rfl rfl ?_
          refine aA (aC (.slice _ _ _) rfl) rfl rfl ?_
          refine aA (aC (.int _ _) rfl) rfl rfl ?_
          refine aA (bN (i) cW rfl rfl rfl ((R.mem M11).below_len (aJ aI hxi)) ((R.mem M11).someK (aJ aI hxi))) rfl rfl ?_
          refine aA (bG 4 eB (R.mem M11) (Nat.lt_of_le_of_lt (Nat.zero_le _) ((R.mem M11).below_len (aJ aI hxi))) rfl) rfl rfl ?_
          refine aA (dR (o := 4) (.int _ _) aW (R.mem M11) (aJ aI hxi) rfl rfl) rfl rfl ?_
          refine aA (aC (.int _ _) rfl) rfl rfl ?_
          refine aK 80 (.int .i32 (mS sec cn)) (iE (by rw [h70]; rfl)) ?_
          refine aM aBr rfl rfl rfl ?_
          have hbm : 0 ≤ b.mass ∧ b.mass ≤ xa.mass + xb.mass := ⟨(hb b hbi).m.1, pY hs hma hmb hbi qa.1 qb.1 (by omega)⟩
          have hst := lY hc.n hoa hob hbm
          have hmq := (hb b hbi).m
          have hcr := (iK hst.2.2 hg).2.2
          have hjv : kR (iL cn xa xb) b.mass (mS sec cn) = kR (jV xs cn) b.mass (mS sec cn) := by unfold jV; rw [hba, hbb]
          refine (kI _ (iL cn xa xb) b.mass (mS sec cn) ⟨hst.1, hst.2.1⟩ hmq hst.2.2 hg).mono ?_
          rintro _ w12 ⟨v12, rfl, ⟨rfl, hb12⟩⟩
          refine ⟨_, rfl, ?_⟩
          have M12 := M11.callB hb12
          refine aA (aD (.int _ _) rfl) rfl rfl ?_
          refine aE (aF (aH ?_))
          refine bY [(0, 0), (1, 0), (2, 1), (3, 0), (4, 0), (5, 1), (6, 1), (7, 1), (8, 0)] mixed rfl (by kernel_rfl) (fun w13 hb13 hh13 => ?_)
          have M13 := M12.drew hb13 hh13
          refine aP rfl rfl rfl (fun _ => aG 0 eF rfl) ?_
          refine aP rfl rfl rfl (fun _ => aG 0 eZ rfl) ?_
          refine cB rfl rfl rfl (aQ 0 (.int _ _) cO M13 rfl rfl rfl) ?_
          refine aP rfl rfl rfl (fun _ => aC (.slice _ _ _) rfl) ?_
          refine aP rfl rfl rfl (fun _ => aC (.int _ _) rfl) ?_
          refine cB rfl rfl rfl (bN (i) cW rfl rfl rfl ((R.mem M13).below_len (aJ aI hxi)) ((R.mem M13).someK (aJ aI hxi))) ?_
          refine cB rfl rfl rfl (bG 0 dL (R.mem M13) (Nat.lt_of_le_of_lt (Nat.zero_le _) ((R.mem M13).below_len (aJ aI hxi))) rfl) ?_
          refine cB rfl rfl rfl (dR (o := 0) (.int _ _) cO (R.mem M13) (aJ aI hxi) rfl rfl) ?_
          refine aP rfl rfl rfl (fun _ => aN (.bool (decide _)) rfl rfl rfl) ?_
          refine cI ?_
          refine aF ?_
          refine aX rfl (fun h90 => ?_) (fun h90 => ?_)
          · refine aB ?_
            refine aA (aC (.int _ _) rfl) rfl rfl ?_
            refine aA (aC (.int _ _) rfl) rfl rfl ?_
            refine aA (fC rfl rfl (by omega) (by omega)) rfl rfl ?_
            refine aA (aD (.int _ _) rfl) rfl rfl ?_
            refine aE ?_
            refine cS ?_
            refine aF (aB ?_)
            refine aA (aC (.int _ _) rfl) rfl rfl ?_
            refine aA (aZ rfl rfl (by omega) (by omega)) rfl rfl ?_
            refine aA (aD (.int _ _) rfl) rfl rfl ?_
            refine aE ?_
            refine cA (k + 1) (bB (iE (by rw [gZ hcn]; unfold ctr; rw [if_pos (by omega), ← hjv]; omega)) (bB rfl dO)) (cD rfl (cD rfl (cD rfl (cD rfl (cD rfl fS))))) ?_ ?_
            · exact ⟨by omega, M13.keep [false, false, false]⟩
            · (show mc - (k + 1) < mc - k; omega)
          · refine aB ?_
            refine aA (aC (.int _ _) rfl) rfl rfl ?_
            refine aA (aC (.int _ _) rfl) rfl rfl ?_
            refine aA (aZ rfl rfl (by omega) (by omega)) rfl rfl ?_
            refine aA (aD (.int _ _) rfl) rfl rfl ?_
            refine aE ?_
            refine cS ?_
            refine aF (aB ?_)
            refine aA (aC (.int _ _) rfl) rfl rfl ?_
            refine aA (aZ rfl rfl (by omega) (by omega)) rfl rfl ?_
            refine aA (aD (.int _ _) rfl) rfl rfl ?_
            refine aE ?_
            refine cA (k + 1) (bB (iE (by rw [gZ hcn]; unfold ctr; rw [if_neg (by omega), if_pos (by omega), ← hjv])) (bB rfl dO)) (cD rfl (cD rfl (cD rfl (cD rfl (cD rfl fS))))) ?_ ?_
            · exact ⟨by omega, M13.keep [false, false, false]⟩
            · (show mc - (k + 1) < mc - k; omega)
        · refine aO (aF (aH (aB ?_)))
          refine aA (aC (.int _ _) rfl) rfl rfl ?_
          refine aA (aC (.slice _ _ _) rfl) rfl rfl ?_
          refine aA (aC (.int _ _) rfl) rfl rfl ?_
          refine aA (bN (i) cW rfl rfl rfl ((R.mem M11).below_len (aJ aI hxi)) ((R.mem M11).someK (aJ aI hxi))) rfl rfl ?_
          refine aA (bG 4 eB (R.mem M11) (Nat.lt_of_le_of_lt (Nat.zero_le _) ((R.mem M11).below_len (aJ aI hxi))) rfl) rfl rfl ?_
          refine aA (dR (o := 4) (.int _ _) aW (R.mem M11) (aJ aI hxi) rfl rfl) rfl rfl ?_
          refine aA (aC (.int _ _) rfl) rfl rfl ?_
          refine aK 80 (.int .i32 (mS sec cn)) (iE (by rw [h70]; rfl)) ?_
          refine aM aBr rfl rfl rfl ?_
          have hbm : 0 ≤ b.mass ∧ b.mass ≤ xa.mass + xb.mass := ⟨(hb b hbi).m.1, pY hs hma hmb hbi qa.1 qb.1 (by omega)⟩
          have hst := lY hc.n hoa hob hbm
          have hmq := (hb b hbi).m
          have hcr := (iK hst.2.2 hg).2.2
          have hjv : kR (iL cn xa xb) b.mass (mS sec cn) = kR (jV xs cn) b.mass (mS sec cn) := by unfold jV; rw [hba, hbb]
          refine (kI _ (iL cn xa xb) b.mass (mS sec cn) ⟨hst.1, hst.2.1⟩ hmq hst.2.2 hg).mono ?_
          rintro _ w14 ⟨v14, rfl, ⟨rfl, hb14⟩⟩
          refine ⟨_, rfl, ?_⟩
          have M14 := M11.callB hb14
          refine aA (aD (.int _ _) rfl) rfl rfl ?_
          refine aE (aF (aH ?_))
          refine bY [(0, 0), (1, 0), (2, 1), (3, 0), (4, 0), (5, 1), (6, 1), (7, 1), (8, 0)] mixed rfl (by kernel_rfl) (fun w15 hb15 hh15 => ?_)
          have M15 := M14.drew hb15 hh15
          refine aP rfl rfl rfl (fun _ => aG 0 eF rfl) ?_
          refine aP rfl rfl rfl (fun _ => aG 0 eZ rfl) ?_
          refine cB rfl rfl rfl (aQ 0 (.int _ _) cO M15 rfl rfl rfl) ?_
          refine aP rfl rfl rfl (fun _ => aC (.slice _ _ _) rfl) ?_
          refine aP rfl rfl rfl (fun _ => aC (.int _ _) rfl) ?_
          refine cB rfl rfl rfl (bN (i) cW rfl rfl rfl ((R.mem M15).below_len (aJ aI hxi)) ((R.mem M15).someK (aJ aI hxi))) ?_
          refine cB rfl rfl rfl (bG 0 dL (R.mem M15) (Nat.lt_of_le_of_lt (Nat.zero_le _) ((R.mem M15).below_len (aJ aI hxi))) rfl) ?_
          refine cB rfl rfl rfl (dR (o := 0) (.int _ _) cO (R.mem M15) (aJ aI hxi) rfl rfl) ?_
          refine aP rfl rfl rfl (fun _ => aN (.bool (decide _)) rfl rfl rfl) ?_
          refine cI ?_
          refine aF ?_
          refine aX rfl (fun h90 => ?_) (fun h90 => ?_)
          · refine aB ?_
            refine aA (aC (.int _ _) rfl) rfl rfl ?_
            refine aA (aC (.int _ _) rfl) rfl rfl ?_
            refine aA (fC rfl rfl (by omega) (by omega)) rfl rfl ?_
            refine aA (aD (.int _ _) rfl) rfl rfl ?_
            refine aE ?_
            refine cS ?_
            refine aF (aB ?_)
            refine aA (aC (.int _ _) rfl) rfl rfl ?_
            refine aA (aZ rfl rfl (by omega) (by omega)) rfl rfl ?_
            refine aA (aD (.int _ _) rfl) rfl rfl ?_
            refine aE ?_
            refine cA (k + 1) (bB (iE (by rw [gZ hcn]; unfold ctr; rw [if_pos (by omega), ← hjv]; omega)) (bB rfl dO)) (cD rfl (cD rfl (cD rfl (cD rfl (cD rfl fS))))) ?_ ?_
            · exact ⟨by omega, M15.keep [false, false, false]⟩
            · (show mc - (k + 1) < mc - k; omega)
          · refine aB ?_
            refine aA (aC (.int _ _) rfl) rfl rfl ?_
            refine aA (aC (.int _ _) rfl) rfl rfl ?_
            refine aA (aZ rfl rfl (by omega) (by omega)) rfl rfl ?_
            refine aA (aD (.int _ _) rfl) rfl rfl ?_
            refine aE ?_
            refine cS ?_
            refine aF (aB ?_)
            refine aA (aC (.int _ _) rfl) rfl rfl ?_
            refine aA (aZ rfl rfl (by omega) (by omega)) rfl rfl ?_
            refine aA (aD (.int _ _) rfl) rfl rfl ?_
            refine aE ?_
            refine cA (k + 1) (bB (iE (by rw [gZ hcn]; unfold ctr; rw [if_neg (by omega), if_pos (by omega), ← hjv])) (bB rfl dO)) (cD rfl (cD rfl (cD rfl (cD rfl (cD rfl fS))))) ?_ ?_
            · exact ⟨by omega, M15.keep [false, false, false]⟩
            · (show mc - (k + 1) < mc - k; omega)
    · refine D_s rfl rfl rfl ?_
      refine D_s rfl rfl rfl ?_
      refine vC rfl rfl rfl ?_
      refine D_s rfl rfl rfl ?_
      refine D_s rfl rfl rfl ?_
      refine vC rfl rfl rfl ?_
      refine vC rfl rfl rfl ?_
      refine vC rfl rfl rfl ?_
      refine D_s rfl rfl rfl ?_
      refine aP rfl rfl rfl (fun _ => bQ false (.bool false) rfl rfl) ?_
      refine cI ?_
      refine aF ?_
      refine cP rfl ?_
      refine aO (aF (aH (aB ?_)))
      refine aA (aC (.slice _ _ _) rfl) rfl rfl ?_
      refine aA (aC (.slice _ _ _) rfl) rfl rfl ?_
      refine aA (aG 0 eF rfl) rfl rfl ?_
      refine aA (aG 0 eZ rfl) rfl rfl ?_
      refine aA (aQ 0 (.int _ _) cO M4 rfl rfl rfl) rfl rfl ?_
      refine aM rP rfl rfl rfl ?_
      refine (gR _ cn.low _ _ _ xs (R.mem M4)).mono ?_
      rintro _ w16 ⟨v16, rfl, ⟨rfl, hb16⟩⟩
      refine ⟨_, rfl, ?_⟩
      have M16 := M4.callB hb16
      refine aA (bN (pa) cW rfl rfl hfa ((R.mem M16).below_len (aJ aI hxa)) ((R.mem M16).someK (aJ aI hxa))) rfl rfl ?_
      refine aA (dG _ bP (R.mem M16) (aJ aI hxa) rfl) rfl rfl ?_
      refine aV gG M16 rfl rfl (fun b17 w17 M17 => ?_)
      refine bL 1 _ bP M17 rfl rfl rfl rfl rfl (bA rfl) rfl (fun w18 M18 => ?_)
      refine aE (aF (aH (aB ?_)))
      refine aA (aC (.slice _ _ _) rfl) rfl rfl ?_
      refine aA (aC (.slice _ _ _) rfl) rfl rfl ?_
      refine aA (aG 0 eF rfl) rfl rfl ?_
      refine aA (aG 1 gU rfl) rfl rfl ?_
      refine aA (aQ 0 (.int _ _) cO M18 rfl rfl rfl) rfl rfl ?_
      refine aM rP rfl rfl rfl ?_
      refine (gR _ cn.high _ _ _ xs (R.mem M18)).mono ?_
      rintro _ w19 ⟨v19, rfl, ⟨rfl, hb19⟩⟩
      refine ⟨_, rfl, ?_⟩
      have M19 := M18.callB hb19
      refine aA (bN (pb) cW rfl rfl hfb ((R.mem M19).below_len (aJ aI hxb)) ((R.mem M19).someK (aJ aI hxb))) rfl rfl ?_
      refine aA (dG _ bP (R.mem M19) (aJ aI hxb) rfl) rfl rfl ?_
      refine aV gG M19 rfl rfl (fun b20 w20 M20 => ?_)
      refine bL 2 _ bP M20 rfl rfl rfl rfl rfl (bA rfl) rfl (fun w21 M21 => ?_)
      refine aE (aF (aH (aB ?_)))
      refine aA (aR 0 dP M21 rfl rfl rfl) rfl rfl ?_
      refine aA (aR 1 bP M21 rfl rfl rfl) rfl rfl ?_
      refine aA (aR 2 bP M21 rfl rfl rfl) rfl rfl ?_
      refine aM aQx rfl rfl rfl ?_
      refine (oV _ cn xa xb hc.n hoa hob).mono ?_
      rintro _ w22 ⟨v22, rfl, ⟨rfl, hb22⟩⟩
      refine ⟨_, rfl, ?_⟩
      have M22 := M21.callB hb22
      refine aA (aD (.int _ _) rfl) rfl rfl ?_
      refine aE (aF (aH (aB ?_)))
      refine aA (aG 2 fN rfl) rfl rfl ?_
      refine aA (aG 0 cN rfl) rfl rfl ?_
      refine aA (aQ 0 (.int _ _) aW M22 rfl rfl rfl) rfl rfl ?_
      refine aA (aD (.int _ _) rfl) rfl rfl ?_
      refine aE (aF (aH (aH (aB ?_))))
      refine aA (aC (.bool _) rfl) rfl rfl ?_
      refine aE (aF ?_)
      refine iG _ rfl (fun h70 => ?_) (fun h70 => ?_)
      · refine aB ?_
        refine aA (aG 2 fN rfl) rfl rfl ?_
        refine aA (aG 1 cJ rfl) rfl rfl ?_
        refine aA (aQ 0 (.int _ _) aW M22 rfl rfl rfl) rfl rfl ?_
        refine aA (aD (.int _ _) rfl) rfl rfl ?_
        refine aE (aF (aH (aB ?_)))
        refine aA (aC (.int _ _) rfl) rfl rfl ?_
        refine aA (aC (.slice _ _ _) rfl) rfl rfl ?_
        refine aA (aC (.int _ _) rfl) rfl rfl ?_
        refine aA (bN (i) cW rfl rfl rfl ((R.mem M22).below_len (aJ aI hxi)) ((R.mem M22).someK (aJ aI hxi))) rfl rfl ?_
        refine aA (bG 4 eB (R.mem M22) (Nat.lt_of_le_of_lt (Nat.zero_le _) ((R.mem M22).below_len (aJ aI hxi))) rfl) rfl rfl ?_
        refine aA (dR (o := 4) (.int _ _) aW (R.mem M22) (aJ aI hxi) rfl rfl) rfl rfl ?_
        refine aA (aC (.int _ _) rfl) rfl rfl ?_
        refine aK 80 (.int .i32 (mS sec cn)) (iE (by rw [h70]; rfl)) ?_
        refine aM aBr rfl rfl rfl ?_
        have hbm : 0 ≤ b.mass ∧ b.mass ≤ xa.mass + xb.mass := ⟨(hb b hbi).m.1, pY hs hma hmb hbi qa.1 qb.1 (by omega)⟩
        have hst := lY hc.n hoa hob hbm
        have hmq := (hb b hbi).m
        have hcr := (iK hst.2.2 hg).2.2
        have hjv : kR (iL cn xa xb) b.mass (mS sec cn) = kR (jV xs cn) b.mass (mS sec cn) := by unfold jV; rw [hba, hbb]
        refine (kI _ (iL cn xa xb) b.mass (mS sec cn) ⟨hst.1, hst.2.1⟩ hmq hst.2.2 hg).mono ?_
        rintro _ w23 ⟨v23, rfl, ⟨rfl, hb23⟩⟩
        refine ⟨_, rfl, ?_⟩
        have M23 := M22.callB hb23
        refine aA (aD (.int _ _) rfl) rfl rfl ?_
        refine aE (aF (aH ?_))
        refine bY [(0, 0), (1, 0), (2, 1), (3, 0), (4, 0), (5, 1), (6, 1), (7, 1), (8, 0)] mixed rfl (by kernel_rfl) (fun w24 hb24 hh24 => ?_)
        have M24 := M23.drew hb24 hh24
        refine aP rfl rfl rfl (fun _ => aG 0 eF rfl) ?_
        refine aP rfl rfl rfl (fun _ => aG 0 eZ rfl) ?_
        refine cB rfl rfl rfl (aQ 0 (.int _ _) cO M24 rfl rfl rfl) ?_
        refine aP rfl rfl rfl (fun _ => aC (.slice _ _ _) rfl) ?_
        refine aP rfl rfl rfl (fun _ => aC (.int _ _) rfl) ?_
        refine cB rfl rfl rfl (bN (i) cW rfl rfl rfl ((R.mem M24).below_len (aJ aI hxi)) ((R.mem M24).someK (aJ aI hxi))) ?_
        refine cB rfl rfl rfl (bG 0 dL (R.mem M24) (Nat.lt_of_le_of_lt (Nat.zero_le _) ((R.mem M24).below_len (aJ aI hxi))) rfl) ?_
        refine cB rfl rfl rfl (dR (o := 0) (.int _ _) cO (R.mem M24) (aJ aI hxi) rfl rfl) ?_
        refine aP rfl rfl rfl (fun _ => aN (.bool (decide _)) rfl rfl rfl) ?_
        refine cI ?_
        refine aF ?_
        refine aX rfl (fun h90 => ?_) (fun h90 => ?_)
        · refine aB ?_
          refine aA (aC (.int _ _) rfl) rfl rfl ?_
          refine aA (aC (.int _ _) rfl) rfl rfl ?_
          refine aA (fC rfl rfl (by omega) (by omega)) rfl rfl ?_
          refine aA (aD (.int _ _) rfl) rfl rfl ?_
          refine aE ?_
          refine cS ?_
          refine aF (aB ?_)
          refine aA (aC (.int _ _) rfl) rfl rfl ?_
          refine aA (aZ rfl rfl (by omega) (by omega)) rfl rfl ?_
          refine aA (aD (.int _ _) rfl) rfl rfl ?_
          refine aE ?_
          refine cA (k + 1) (bB (iE (by rw [gZ hcn]; unfold ctr; rw [if_pos (by omega), ← hjv]; omega)) (bB rfl dO)) (cD rfl (cD rfl (cD rfl (cD rfl (cD rfl fS))))) ?_ ?_
          · exact ⟨by omega, M24.keep [false, false, false]⟩
          · (show mc - (k + 1) < mc - k; omega)
        · refine aB ?_
          refine aA (aC (.int _ _) rfl) rfl rfl ?_
          refine aA (aC (.int _ _) rfl) rfl rfl ?_
          refine aA (aZ rfl rfl (by omega) (by omega)) rfl rfl ?_
          refine aA (aD (.int _ _) rfl) rfl rfl ?_
          refine aE ?_
          refine cS ?_
          refine aF (aB ?_)
          refine aA (aC (.int _ _) rfl) rfl rfl ?_
          refine aA (aZ rfl rfl (by omega) (by omega)) rfl rfl ?_
          refine aA (aD (.int _ _) rfl) rfl rfl ?_
          refine aE ?_
          refine cA (k + 1) (bB (iE (by rw [gZ hcn]; unfold ctr; rw [if_neg (by omega), if_pos (by omega), ← hjv])) (bB rfl dO)) (cD rfl (cD rfl (cD rfl (cD rfl (cD rfl fS))))) ?_ ?_
          · exact ⟨by omega, M24.keep [false, false, false]⟩
          · (show mc - (k + 1) < mc - k; omega)
      · refine aO (aF (aH (aB ?_)))
        refine aA (aC (.int _ _) rfl) rfl rfl ?_
        refine aA (aC (.slice _ _ _) rfl) rfl rfl ?_
        refine aA (aC (.int _ _) rfl) rfl rfl ?_
        refine aA (bN (i) cW rfl rfl rfl ((R.mem M22).below_len (aJ aI hxi)) ((R.mem M22).someK (aJ aI hxi))) rfl rfl ?_
        refine aA (bG 4 eB (R.mem M22) (Nat.lt_of_le_of_lt (Nat.zero_le _) ((R.mem M22).below_len (aJ aI hxi))) rfl) rfl rfl ?_
        refine aA (dR (o := 4) (.int _ _) aW (R.mem M22) (aJ aI hxi) rfl rfl) rfl rfl ?_
        refine aA (aC (.int _ _) rfl) rfl rfl ?_
        refine aK 80 (.int .i32 (mS sec cn)) (iE (by rw [h70]; rfl)) ?_
        refine aM aBr rfl rfl rfl ?_
        have hbm : 0 ≤ b.mass ∧ b.mass ≤ xa.mass + xb.mass := ⟨(hb b hbi).m.1, pY hs hma hmb hbi qa.1 qb.1 (by omega)⟩
        have hst := lY hc.n hoa hob hbm
        have hmq := (hb b hbi).m
        have hcr := (iK hst.2.2 hg).2.2
        have hjv : kR (iL cn xa xb) b.mass (mS sec cn) = kR (jV xs cn) b.mass (mS sec cn) := by unfold jV; rw [hba, hbb]
        refine (kI _ (iL cn xa xb) b.mass (mS sec cn) ⟨hst.1, hst.2.1⟩ hmq hst.2.2 hg).mono ?_
        rintro _ w25 ⟨v25, rfl, ⟨rfl, hb25⟩⟩
        refine ⟨_, rfl, ?_⟩
        have M25 := M22.callB hb25
        refine aA (aD (.int _ _) rfl) rfl rfl ?_
        refine aE (aF (aH ?_))
        refine bY [(0, 0), (1, 0), (2, 1), (3, 0), (4, 0), (5, 1), (6, 1), (7, 1), (8, 0)] mixed rfl (by kernel_rfl) (fun w26 hb26 hh26 => ?_)
        have M26 := M25.drew hb26 hh26
        refine aP rfl rfl rfl (fun _ => aG 0 eF rfl) ?_
        refine aP rfl rfl rfl (fun _ => aG 0 eZ rfl) ?_
        refine cB rfl rfl rfl (aQ 0 (.int _ _) cO M26 rfl rfl rfl) ?_
        refine aP rfl rfl rfl (fun _ => aC (.slice _ _ _) rfl) ?_
        refine aP rfl rfl rfl (fun _ => aC (.int _ _) rfl) ?_
        refine cB rfl rfl rfl (bN (i) cW rfl rfl rfl ((R.mem M26).below_len (aJ aI hxi)) ((R.mem M26).someK (aJ aI hxi))) ?_
        refine cB rfl rfl rfl (bG 0 dL (R.mem M26) (Nat.lt_of_le_of_lt (Nat.zero_le _) ((R.mem M26).below_len (aJ aI hxi))) rfl) ?_
        refine cB rfl rfl rfl (dR (o := 0) (.int _ _) cO (R.mem M26) (aJ aI hxi) rfl rfl) ?_
        refine aP rfl rfl rfl (fun _ => aN (.bool (decide _)) rfl rfl rfl) ?_
        refine cI ?_
        refine aF ?_
        refine aX rfl (fun h90 => ?_) (fun h90 => ?_)
        · refine aB ?_
          refine aA (aC (.int _ _) rfl) rfl rfl ?_
          refine aA (aC (.int _ _) rfl) rfl rfl ?_
          refine aA (fC rfl rfl (by omega) (by omega)) rfl rfl ?_
          refine aA (aD (.int _ _) rfl) rfl rfl ?_
          refine aE ?_
          refine cS ?_
          refine aF (aB ?_)
          refine aA (aC (.int _ _) rfl) rfl rfl ?_
          refine aA (aZ rfl rfl (by omega) (by omega)) rfl rfl ?_
          refine aA (aD (.int _ _) rfl) rfl rfl ?_
          refine aE ?_
          refine cA (k + 1) (bB (iE (by rw [gZ hcn]; unfold ctr; rw [if_pos (by omega), ← hjv]; omega)) (bB rfl dO)) (cD rfl (cD rfl (cD rfl (cD rfl (cD rfl fS))))) ?_ ?_
          · exact ⟨by omega, M26.keep [false, false, false]⟩
          · (show mc - (k + 1) < mc - k; omega)
        · refine aB ?_
          refine aA (aC (.int _ _) rfl) rfl rfl ?_
          refine aA (aC (.int _ _) rfl) rfl rfl ?_
          refine aA (aZ rfl rfl (by omega) (by omega)) rfl rfl ?_
          refine aA (aD (.int _ _) rfl) rfl rfl ?_
          refine aE ?_
          refine cS ?_
          refine aF (aB ?_)
          refine aA (aC (.int _ _) rfl) rfl rfl ?_
          refine aA (aZ rfl rfl (by omega) (by omega)) rfl rfl ?_
          refine aA (aD (.int _ _) rfl) rfl rfl ?_
          refine aE ?_
          refine cA (k + 1) (bB (iE (by rw [gZ hcn]; unfold ctr; rw [if_neg (by omega), if_pos (by omega), ← hjv])) (bB rfl dO)) (cD rfl (cD rfl (cD rfl (cD rfl (cD rfl fS))))) ?_ ?_
          · exact ⟨by omega, M26.keep [false, false, false]⟩
          · (show mc - (k + 1) < mc - k; omega)
  · have hkn : k = mc := by omega
    refine cQ ?_
    refine cX ?_
    refine dF ?_
    refine eJ ?_
    refine aF (aH (aB ?_))
    refine aA (aC (.int _ _) rfl) rfl rfl ?_
    refine aA (aD (.int _ _) rfl) rfl rfl ?_
    refine aE (aF (aU ?_))
    refine cU (.int _ _) rfl ?_
    exact ⟨iE (by rw [List.take_of_length_le (by omega)]), hM1.below⟩
end Go.Proofs.YtlmcphcgiclanaaGreatDoor

namespace Go.Proofs.YtlmcphcgiclanaaGreatDoor
open Go.Bil
open Go.RowKit (Below)
open Go.Proofs
set_option maxHeartbeats 8000000 in
theorem aFp (w : World) (A : Option Addr) (n c : Nat) (xs : List Body) (R : Rd w 10 A n (xs.map aI)) (hs : cG xs) (hb : ∀ b ∈ xs, Okb b) (hn : n ≤ 1048576) (B : Option Addr) (mc c' : Nat) (cs : List Con) (R' : Rd w 5 B mc (cs.map bW)) (hcs : ∀ c ∈ cs, OkC xs c) (hmc : mc ≤ 8589934592) :
    Calls Tryz.prog 77 #[.slice A n c, .slice B mc c'] w (fun ex w' => ∃ v, ex = .returned v ∧ (fun v w' => ∃ r : Row, v = .tuple #[.slice r.A r.n r.c, .bool (aIo xs cs)] ∧ bK 40 10 r.A r.n r.c ((yF xs cs).map aI) r.e ∧ Mem w [] [r.e] w') v w') := by
  have hlen : xs.length = n := by simpa using R.len
  have hbd := R.bound
  have hclen : cs.length = mc := by simpa using R'.len
  have hbd' := R'.bound
  refine aL #[.tmp 4, .tmp 5] 77 Tryz.func77 rfl Tryz.results77 Tryz.ntmps77 rfl ?_
  have M0 := Mem.refl w
  refine aH (aB ?_)
  refine aA (aD (.slice _ _ _) rfl) rfl rfl ?_
  refine aA (aD (.bool false) rfl) rfl rfl ?_
  refine aE (aF (aH (aB ?_)))
  refine aA (aD (.slice _ _ _) rfl) rfl rfl ?_
  have M1 := M0.dummy default
  refine aE (aF (aH (aB ?_)))
  refine aA (aD (.bool false) rfl) rfl rfl ?_
  refine aE (aF (aH (aH (aB ?_))))
  refine aA (aD (.int _ _) rfl) rfl rfl ?_
  refine aE (aF (aT ?_))
  refine dM (σ := Nat × Row) [0, 1, 4, 5] (fun (k, q) => [(6, .slice q.A q.n q.c), (7, .bool ((xs.take k).any (aHs xs cs))), (8, .int .i64 (k : Int))]) (fun (k, q) w' => (k ≤ n ∧ bK 40 10 q.A q.n q.c (((xs.take k).map (rE xs cs)).map aI) q.e) ∧ Mem w [] [q.e] w') (fun (k, q) => n - k) (0, gH) (bB rfl (bB (bv rfl rfl) (bB rfl dO))) (⟨⟨by omega, bK.nil _ _ _⟩, M1⟩) ?_
  rintro ⟨k, q⟩ ρ2 w2 ⟨⟨hk, hq⟩, hM2⟩
  have htl := List.length_take_le k xs
  have hqn : (xs.take k).length = q.n := by simpa using hq.1
  refine aH (aH (aB ?_))
  refine aA (aC (.int _ _) rfl) rfl rfl ?_
  refine aA (aC (.slice _ _ _) rfl) rfl rfl ?_
  refine aA (dE Tryz.underlying22 rfl) rfl rfl ?_
  refine aA (aN (.bool (decide _)) rfl rfl rfl) rfl rfl ?_
  refine aE (aF ?_)
  refine aX rfl (fun h15 => ?_) (fun h15 => ?_)
  · obtain ⟨xb, hxb⟩ := dA (xs := xs) (k := k) hlen (by omega)
    have hxm := List.mem_of_getElem? hxb
    have hsb := aKi hs hb hcs hclen hmc hxm
    have hvb := (hb xb hxm).v
    have hlx := fA (xb.vx + fM xs cs (·.nx) xb) (l := 16777216) (by decide)
    have hly := fA (xb.vy + fM xs cs (·.ny) xb) (l := 16777216) (by decide)
    refine aO (aF (aH (aT (aH ?_))))
    refine bY [(0, 0), (1, 0), (2, 1), (3, 1), (4, 1), (5, 1), (6, 0), (7, 0), (8, 0), (9, 0), (10, 2), (11, 0), (12, 0)] mixed rfl (by kernel_rfl) (fun w3 hb3 hh3 => ?_)
    have M3 := hM2.drew hb3 hh3
    refine aP rfl rfl rfl (fun _ => aC (.slice _ _ _) rfl) ?_
    refine aP rfl rfl rfl (fun _ => aC (.int _ _) rfl) ?_
    refine cB rfl rfl rfl (bN (k) cW rfl rfl rfl ((R.mem M3).below_len (aJ aI hxb)) ((R.mem M3).someK (aJ aI hxb))) ?_
    refine cB rfl rfl rfl (bG 8 dN (R.mem M3) (Nat.lt_of_le_of_lt (Nat.zero_le _) ((R.mem M3).below_len (aJ aI hxb))) rfl) ?_
    refine cB rfl rfl rfl (bG 0 cN (R.mem M3) (Nat.lt_of_le_of_lt (Nat.zero_le _) ((R.mem M3).below_len (aJ aI hxb))) rfl) ?_
    refine cB rfl rfl rfl (dR (o := 8) (.int _ _) aW (R.mem M3) (aJ aI hxb) rfl rfl) ?_
    refine aP rfl rfl rfl (fun _ => bC dJ Tryz.underlying2 rfl (eT _ (by omega) (by omega))) ?_
    refine aP rfl rfl rfl (fun _ => aC (.slice _ _ _) rfl) ?_
    refine aP rfl rfl rfl (fun _ => aC (.slice _ _ _) rfl) ?_
    refine aP rfl rfl rfl (fun _ => aC (.int _ _) rfl) ?_
    refine eN [false, false, false, false] rfl (by kernel_rfl) ?_
    refine aM aRw rfl rfl rfl ?_
    refine (zU _ A n c xs (R.mem M3) hs hb hn B mc c' cs (R'.mem M3) hcs hmc k xb hxb false).mono ?_
    rintro _ w4 ⟨v4, rfl, ⟨rfl, hb4⟩⟩
    refine ⟨_, rfl, ?_⟩
    have M4 := M3.callB hb4
    refine aE (aF ⟨(fH (cF rfl (dR (o := 8) (.int _ _) aW (R.mem M4) (aJ aI hxb) rfl rfl)) (fH (cF rfl (bG 0 cN (R.mem M4) (Nat.lt_of_le_of_lt (Nat.zero_le _) ((R.mem M4).below_len (aJ aI hxb))) rfl)) (fH (cF rfl (bG 8 dN (R.mem M4) (Nat.lt_of_le_of_lt (Nat.zero_le _) ((R.mem M4).below_len (aJ aI hxb))) rfl)) (fH (cF rfl (bN (k) cW rfl rfl rfl ((R.mem M4).below_len (aJ aI hxb)) ((R.mem M4).someK (aJ aI hxb)))) eM)))), ?_⟩)
    refine eG 28 (.int .i64 (fM xs cs (·.nx) xb)) rfl ?_
    refine aP rfl rfl rfl (fun _ => aZ rfl rfl (by omega) (by omega)) ?_
    refine aP rfl rfl rfl (fun _ => aD (.int _ _) rfl) ?_
    refine cI ?_
    refine aF (aH ?_)
    refine bY [(0, 0), (1, 0), (2, 1), (3, 1), (4, 1), (5, 1), (6, 0), (7, 0), (8, 0), (9, 0), (10, 2), (11, 0), (12, 0)] mixed rfl (by kernel_rfl) (fun w5 hb5 hh5 => ?_)
    have M5 := M4.drew hb5 hh5
    refine aP rfl rfl rfl (fun _ => aC (.slice _ _ _) rfl) ?_
    refine aP rfl rfl rfl (fun _ => aC (.int _ _) rfl) ?_
    refine cB rfl rfl rfl (bN (k) cW rfl rfl rfl ((R.mem M5).below_len (aJ aI hxb)) ((R.mem M5).someK (aJ aI hxb))) ?_
    refine cB rfl rfl rfl (bG 8 dN (R.mem M5) (Nat.lt_of_le_of_lt (Nat.zero_le _) ((R.mem M5).below_len (aJ aI hxb))) rfl) ?_
    refine cB rfl rfl rfl (bG 1 cJ (R.mem M5) (Nat.lt_of_le_of_lt (Nat.zero_le _) ((R.mem M5).below_len (aJ aI hxb))) rfl) ?_
    refine cB rfl rfl rfl (dR (o := 9) (.int _ _) aW (R.mem M5) (aJ aI hxb) rfl rfl) ?_
    refine aP rfl rfl rfl (fun _ => bC dJ Tryz.underlying2 rfl (eT _ (by omega) (by omega))) ?_
    refine aP rfl rfl rfl (fun _ => aC (.slice _ _ _) rfl) ?_
    refine aP rfl rfl rfl (fun _ => aC (.slice _ _ _) rfl) ?_
    refine aP rfl rfl rfl (fun _ => aC (.int _ _) rfl) ?_
    refine eN [false, false, false, false] rfl (by kernel_rfl) ?_
    refine aM aRw rfl rfl rfl ?_
    refine (zU _ A n c xs (R.mem M5) hs hb hn B mc c' cs (R'.mem M5) hcs hmc k xb hxb true).mono ?_
    rintro _ w6 ⟨v6, rfl, ⟨rfl, hb6⟩⟩
    refine ⟨_, rfl, ?_⟩
    have M6 := M5.callB hb6
    refine aE (aF ⟨(fH (cF rfl (dR (o := 9) (.int _ _) aW (R.mem M6) (aJ aI hxb) rfl rfl)) (fH (cF rfl (bG 1 cJ (R.mem M6) (Nat.lt_of_le_of_lt (Nat.zero_le _) ((R.mem M6).below_len (aJ aI hxb))) rfl)) (fH (cF rfl (bG 8 dN (R.mem M6) (Nat.lt_of_le_of_lt (Nat.zero_le _) ((R.mem M6).below_len (aJ aI hxb))) rfl)) (fH (cF rfl (bN (k) cW rfl rfl rfl ((R.mem M6).below_len (aJ aI hxb)) ((R.mem M6).someK (aJ aI hxb)))) eM)))), ?_⟩)
    refine eG 40 (.int .i64 (fM xs cs (·.ny) xb)) rfl ?_
    refine aP rfl rfl rfl (fun _ => aZ rfl rfl (by omega) (by omega)) ?_
    refine aP rfl rfl rfl (fun _ => aD (.int _ _) rfl) ?_
    refine cI ?_
    refine aF (aH (aB ?_))
    refine aA (aC (.slice _ _ _) rfl) rfl rfl ?_
    refine aA (aC (.int _ _) rfl) rfl rfl ?_
    refine aA (bN (k) cW rfl rfl rfl ((R.mem M6).below_len (aJ aI hxb)) ((R.mem M6).someK (aJ aI hxb))) rfl rfl ?_
    refine aA (dG _ bP (R.mem M6) (aJ aI hxb) rfl) rfl rfl ?_
    refine aV gG M6 rfl rfl (fun b7 w7 M7 => ?_)
    refine bL 1 _ bP M7 rfl rfl rfl rfl rfl (bA rfl) rfl (fun w8 M8 => ?_)
    refine aE (aF (aH (aB ?_)))
    refine aA (aC (.int _ _) rfl) rfl rfl ?_
    refine aM aFo rfl rfl rfl ?_
    refine (kN _ (xb.vx + fM xs cs (·.nx) xb) 16777216 ⟨by decide, by decide⟩).mono ?_
    rintro _ w9 ⟨v9, rfl, ⟨rfl, hb9⟩⟩
    refine ⟨_, rfl, ?_⟩
    have M9 := M8.callB hb9
    refine aA (bC lD Tryz.underlying21 rfl (iF _ (by omega) (by omega))) rfl rfl ?_
    refine aA (aC (.int _ _) rfl) rfl rfl ?_
    refine aM aFo rfl rfl rfl ?_
    refine (kN _ (xb.vy + fM xs cs (·.ny) xb) 16777216 ⟨by decide, by decide⟩).mono ?_
    rintro _ w10 ⟨v10, rfl, ⟨rfl, hb10⟩⟩
    refine ⟨_, rfl, ?_⟩
    have M10 := M9.callB hb10
    refine aA (bC lD Tryz.underlying21 rfl (iF _ (by omega) (by omega))) rfl rfl ?_
    refine aA (cL [(0, .int _ _), (1, .int _ _)] _ dW rfl rfl) rfl rfl ?_
    refine aA (aG 8 dN rfl) rfl rfl ?_
    refine tY 1 _ bE M10 rfl rfl rfl rfl rfl (bA rfl) (Nat.le_of_ble_eq_true rfl) (fun w11 M11 => ?_)
    refine aE (aF (aH (aB ?_)))
    refine aA (aC (.bool _) rfl) rfl rfl ?_
    refine aA (aC (.bool _) rfl) rfl rfl ?_
    refine gK 55 _ rfl (fun g55 => ?_) (fun g55 => ?_)
    · refine aS rfl rfl ?_
      refine aS rfl rfl ?_
      refine aS rfl rfl ?_
      refine aS rfl rfl ?_
      refine aS rfl rfl ?_
      refine aS rfl rfl ?_
      refine aA (bQ true (.bool true) rfl rfl) rfl rfl ?_
      refine aA (aC (.bool true) rfl) rfl rfl ?_
      refine aS rfl rfl ?_
      refine aS rfl rfl ?_
      refine aS rfl rfl ?_
      refine aS rfl rfl ?_
      refine aS rfl rfl ?_
      refine aS rfl rfl ?_
      refine aA (bQ true (.bool true) rfl rfl) rfl rfl ?_
      refine aA (aD (.bool true) rfl) rfl rfl ?_
      refine aE (aF (aB ?_))
      refine aA (aC (.slice _ _ _) rfl) rfl rfl ?_
      refine aA (aR 1 bP M11 rfl rfl rfl) rfl rfl ?_
      refine cR [.agg (List.toArray _)] [aI (rE xs cs xb)] rfl cW M11 rfl rfl rfl rfl (cZ rfl) (by decide) (fun b12 w12 M12 => ?_)
      refine dB 0 [aI (rE xs cs xb)] cW M12 rfl rfl rfl rfl rfl hq rfl (by simp [aI, Go.Bil.one]) (dD.ofMem 2 M12 rfl) (by omega) (fun A13 c13 e13 w13 M13 hR13 => ?_)
      refine aA (aD (.slice _ _ _) rfl) rfl rfl ?_
      refine aE ?_
      refine cS ?_
      refine aF (aB ?_)
      refine aA (aC (.int _ _) rfl) rfl rfl ?_
      refine aA (aZ rfl rfl (by omega) (by omega)) rfl rfl ?_
      refine aA (aD (.int _ _) rfl) rfl rfl ?_
      refine aE ?_
      refine cA (k + 1, ⟨A13, q.n + 1, c13, e13⟩) (bB rfl (bB (bv rfl (by rw [cE hxb, List.any_append, List.any_cons, List.any_nil, Bool.or_false]; rw [g55, Bool.true_or])) (bB rfl dO))) (cD rfl (cD rfl (cD rfl (cD rfl fS)))) ?_ ?_
      · exact ⟨⟨by omega, by rw [cE hxb, List.map_append, List.map_append]; exact hR13⟩, M13.keep [true, false, false]⟩
      · (show n - (k + 1) < n - k; omega)
    · refine aA (aG 8 dN rfl) rfl rfl ?_
      refine aA (aG 0 cN rfl) rfl rfl ?_
      refine aA (aQ 1 (.int _ _) aW M11 rfl rfl rfl) rfl rfl ?_
      refine aA (bC dJ Tryz.underlying2 rfl (eT _ (by omega) (by omega))) rfl rfl ?_
      refine aA (aC (.int _ _) rfl) rfl rfl ?_
      refine aA (aN (.bool (decide _)) rfl rfl rfl) rfl rfl ?_
      refine aA (bQ false (.bool (decide _)) rfl rfl) rfl rfl ?_
      refine aA (aC (.bool (decide _)) rfl) rfl rfl ?_
      refine dT 63 rfl (fun g63 => ?_) (fun g63 => ?_)
      · refine aS rfl rfl ?_
        refine aS rfl rfl ?_
        refine aS rfl rfl ?_
        refine aS rfl rfl ?_
        refine aS rfl rfl ?_
        refine aS rfl rfl ?_
        refine aA (bQ true (.bool true) rfl rfl) rfl rfl ?_
        refine aA (aD (.bool true) rfl) rfl rfl ?_
        refine aE (aF (aB ?_))
        refine aA (aC (.slice _ _ _) rfl) rfl rfl ?_
        refine aA (aR 1 bP M11 rfl rfl rfl) rfl rfl ?_
        refine cR [.agg (List.toArray _)] [aI (rE xs cs xb)] rfl cW M11 rfl rfl rfl rfl (cZ rfl) (by decide) (fun b14 w14 M14 => ?_)
        refine dB 0 [aI (rE xs cs xb)] cW M14 rfl rfl rfl rfl rfl hq rfl (by simp [aI, Go.Bil.one]) (dD.ofMem 2 M14 rfl) (by omega) (fun A15 c15 e15 w15 M15 hR15 => ?_)
        refine aA (aD (.slice _ _ _) rfl) rfl rfl ?_
        refine aE ?_
        refine cS ?_
        refine aF (aB ?_)
        refine aA (aC (.int _ _) rfl) rfl rfl ?_
        refine aA (aZ rfl rfl (by omega) (by omega)) rfl rfl ?_
        refine aA (aD (.int _ _) rfl) rfl rfl ?_
        refine aE ?_
        refine cA (k + 1, ⟨A15, q.n + 1, c15, e15⟩) (bB rfl (bB (bv rfl (by rw [cE hxb, List.any_append, List.any_cons, List.any_nil, Bool.or_false]; rw [g55]; simp [aHs, g63])) (bB rfl dO))) (cD rfl (cD rfl (cD rfl (cD rfl fS)))) ?_ ?_
        · exact ⟨⟨by omega, by rw [cE hxb, List.map_append, List.map_append]; exact hR15⟩, M15.keep [true, false, false]⟩
        · (show n - (k + 1) < n - k; omega)
      · refine aA (aG 8 dN rfl) rfl rfl ?_
        refine aA (aG 1 cJ rfl) rfl rfl ?_
        refine aA (aQ 1 (.int _ _) aW M11 rfl rfl rfl) rfl rfl ?_
        refine aA (bC dJ Tryz.underlying2 rfl (eT _ (by omega) (by omega))) rfl rfl ?_
        refine aA (aC (.int _ _) rfl) rfl rfl ?_
        refine aA (aN (.bool (decide _)) rfl rfl rfl) rfl rfl ?_
        refine aA (bQ false (.bool (decide _)) rfl rfl) rfl rfl ?_
        refine aA (aD (.bool (decide _)) rfl) rfl rfl ?_
        refine aE (aF (aB ?_))
        refine aA (aC (.slice _ _ _) rfl) rfl rfl ?_
        refine aA (aR 1 bP M11 rfl rfl rfl) rfl rfl ?_
        refine cR [.agg (List.toArray _)] [aI (rE xs cs xb)] rfl cW M11 rfl rfl rfl rfl (cZ rfl) (by decide) (fun b16 w16 M16 => ?_)
        refine dB 0 [aI (rE xs cs xb)] cW M16 rfl rfl rfl rfl rfl hq rfl (by simp [aI, Go.Bil.one]) (dD.ofMem 2 M16 rfl) (by omega) (fun A17 c17 e17 w17 M17 hR17 => ?_)
        refine aA (aD (.slice _ _ _) rfl) rfl rfl ?_
        refine aE ?_
        refine cS ?_
        refine aF (aB ?_)
        refine aA (aC (.int _ _) rfl) rfl rfl ?_
        refine aA (aZ rfl rfl (by omega) (by omega)) rfl rfl ?_
        refine aA (aD (.int _ _) rfl) rfl rfl ?_
        refine aE ?_
        refine cA (k + 1, ⟨A17, q.n + 1, c17, e17⟩) (bB rfl (bB (bv rfl (by rw [cE hxb, List.any_append, List.any_cons, List.any_nil, Bool.or_false]; rw [g55]; simp [aHs, g63])) (bB rfl dO))) (cD rfl (cD rfl (cD rfl (cD rfl fS)))) ?_ ?_
        · exact ⟨⟨by omega, by rw [cE hxb, List.map_append, List.map_append]; exact hR17⟩, M17.keep [true, false, false]⟩
        · (show n - (k + 1) < n - k; omega)
  · have hkn : k = n := by omega
    rw [List.take_of_length_le (by omega)] at hq
    refine cQ ?_
    refine cX ?_
    refine dF ?_
    refine eJ ?_
    refine aF (aH (aB ?_))
    refine aA (aC (.slice _ _ _) rfl) rfl rfl ?_
    refine aA (aC (.bool _) rfl) rfl rfl ?_
    refine aA (aD (.slice _ _ _) rfl) rfl rfl ?_
    refine aA (aD (.bool _) rfl) rfl rfl ?_
    refine aE (aF (aU ?_))
    refine fR (.slice _ _ _) (.bool _) rfl rfl ?_
    exact ⟨q, oA rfl (congrArg Value.bool (by rw [List.take_of_length_le (by omega)]; rfl)), hq, hM2⟩
set_option maxHeartbeats 4000000 in
theorem aEq (w : World) (A : Option Addr) (n c : Nat) (xs : List Body) (R : Rd w 10 A n (xs.map aI)) (hs : cG xs) (hb : ∀ b ∈ xs, Okb b) (hn : n ≤ 1048576) (B : Option Addr) (mc c' : Nat) (cs : List Con) (R' : Rd w 5 B mc (cs.map bW)) (hcs : ∀ c ∈ cs, OkC xs c) (hmc : mc ≤ 8589934592) :
    Calls Tryz.prog 46 #[.slice A n c, .slice B mc c'] w (fun ex w' => ∃ v, ex = .returned v ∧ (fun v w' => ∃ r : Row, v = .tuple #[.slice r.A r.n r.c, .bool (fL xs cs 4).2] ∧ bK 40 10 r.A r.n r.c (((fL xs cs 4).1).map aI) r.e ∧ Mem w [] [r.e] w') v w') := by
  have hlen : xs.length = n := by simpa using R.len
  have hbd := R.bound
  have hclen : cs.length = mc := by simpa using R'.len
  have hbd' := R'.bound
  refine aL #[.tmp 4, .tmp 5] 27 Tryz.func46 rfl Tryz.results46 Tryz.ntmps46 rfl ?_
  have M0 := Mem.refl w
  refine aH (aB ?_)
  refine aA (aD (.slice _ _ _) rfl) rfl rfl ?_
  refine aA (aD (.bool false) rfl) rfl rfl ?_
  refine aE (aF (aH (aB ?_)))
  refine aA (aD (.bool false) rfl) rfl rfl ?_
  have M1 := M0.dummy default
  refine aE (aF (aH (aH (aB ?_))))
  refine aA (aD (.int _ _) rfl) rfl rfl ?_
  refine aE (aF (aT ?_))
  refine dM (σ := Nat × Row) [1, 4, 5] (fun (k, q) => [(0, .slice q.A q.n q.c), (6, .bool (fL xs cs k).2), (7, .int .i64 (k : Int))]) (fun (k, q) w' => (k ≤ 4 ∧ Rd w' 10 q.A q.n ((fL xs cs k).1.map aI) ∧ (0 < k → bK 40 10 q.A q.n q.c (((fL xs cs k).1).map aI) q.e)) ∧ Mem w [] [q.e] w') (fun (k, q) => 4 - k) (0, ⟨A, n, c, (none, default)⟩) (bB rfl (bB (bv rfl rfl) (bB rfl dO))) (⟨⟨by omega, R.mem M1, (fun h => absurd h (by omega))⟩, M1⟩) ?_
  rintro ⟨k, q⟩ ρ2 w2 ⟨⟨hk, hRq, hq⟩, hM2⟩
  have hql : (fL xs cs k).1.length = q.n := by simpa using hRq.len
  have hsl := (gB xs cs k).len
  refine aH (aH (aB ?_))
  refine aA (aC (.int _ _) rfl) rfl rfl ?_
  refine aA (aN (.bool (decide _)) rfl rfl rfl) rfl rfl ?_
  refine aE (aF ?_)
  refine aX rfl (fun h11 => ?_) (fun h11 => ?_)
  · refine aO (aF (aH (aT (aH (aB ?_)))))
    refine aA (aC (.slice _ _ _) rfl) rfl rfl ?_
    refine aA (aC (.slice _ _ _) rfl) rfl rfl ?_
    refine aM bBu rfl rfl rfl ?_
    refine (aFp _ q.A q.n q.c (fL xs cs k).1 hRq ((gB xs cs k).sorted hs) (mX hb k) (by omega) B mc c' cs (R'.mem hM2) (fun c h => (gB xs cs k).okc (hcs c h)) hmc).mono ?_
    rintro _ w3 ⟨v3, rfl, ⟨r, rfl, hr, hM3⟩⟩
    refine ⟨_, rfl, ?_⟩
    have M3 : Mem _ _ [_, _] _ := hM2.call0 hM3
    refine aA (aC (.tuple (List.toArray _)) rfl) rfl rfl ?_
    refine aA (bI (.slice _ _ _) rfl rfl) rfl rfl ?_
    refine aA (bI (.bool _) rfl rfl) rfl rfl ?_
    refine aA (aD (.slice _ _ _) rfl) rfl rfl ?_
    refine aA (aD (.bool _) rfl) rfl rfl ?_
    refine aE (aF (aH (aB ?_)))
    refine aA (aC (.slice _ _ _) rfl) rfl rfl ?_
    refine aA (aD (.slice _ _ _) rfl) rfl rfl ?_
    refine aE (aF (aB ?_))
    refine aA (aC (.bool _) rfl) rfl rfl ?_
    refine aA (aC (.bool _) rfl) rfl rfl ?_
    refine gK 22 _ rfl (fun g22 => ?_) (fun g22 => ?_)
    · refine aS rfl rfl ?_
      refine aA (bQ true (.bool true) rfl rfl) rfl rfl ?_
      refine aA (aD (.bool true) rfl) rfl rfl ?_
      refine aE ?_
      refine cS ?_
      refine aF (aB ?_)
      refine aA (aC (.int _ _) rfl) rfl rfl ?_
      refine aA (aZ rfl rfl (by omega) (by omega)) rfl rfl ?_
      refine aA (aD (.int _ _) rfl) rfl rfl ?_
      refine aE ?_
      refine cA (k + 1, r) (bB rfl (bB (bv rfl (by show true = (_ || _); rw [g22, Bool.true_or])) (bB rfl dO))) (cD rfl (cD rfl (cD rfl fS))) ?_ ?_
      · exact ⟨⟨by omega, hr.rd M3 (bH (i := 1) rfl), (fun _ => hr)⟩, M3.keep [false, true]⟩
      · (show 4 - (k + 1) < 4 - k; omega)
    · refine aA (aC (.bool _) rfl) rfl rfl ?_
      refine aA (bQ false (.bool _) rfl rfl) rfl rfl ?_
      refine aA (aD (.bool _) rfl) rfl rfl ?_
      refine aE ?_
      refine cS ?_
      refine aF (aB ?_)
      refine aA (aC (.int _ _) rfl) rfl rfl ?_
      refine aA (aZ rfl rfl (by omega) (by omega)) rfl rfl ?_
      refine aA (aD (.int _ _) rfl) rfl rfl ?_
      refine aE ?_
      refine cA (k + 1, r) (bB rfl (bB (bv rfl (by show _ = (_ || _); rw [g22, Bool.false_or])) (bB rfl dO))) (cD rfl (cD rfl (cD rfl fS))) ?_ ?_
      · exact ⟨⟨by omega, hr.rd M3 (bH (i := 1) rfl), (fun _ => hr)⟩, M3.keep [false, true]⟩
      · (show 4 - (k + 1) < 4 - k; omega)
  · have hk4 : k = 4 := by omega
    rw [hk4] at hq
    refine cQ ?_
    refine cX ?_
    refine dF ?_
    refine eJ ?_
    refine aF (aH (aB ?_))
    refine aA (aC (.slice _ _ _) rfl) rfl rfl ?_
    refine aA (aC (.bool _) rfl) rfl rfl ?_
    refine aA (aD (.slice _ _ _) rfl) rfl rfl ?_
    refine aA (aD (.bool _) rfl) rfl rfl ?_
    refine aE (aF (aU ?_))
    refine fR (.slice _ _ _) (.bool _) rfl rfl ?_
    exact ⟨q, oA rfl (congrArg Value.bool (by rw [hk4])), hq (by omega), hM2⟩
end Go.Proofs.YtlmcphcgiclanaaGreatDoor

namespace Go.Proofs.YtlmcphcgiclanaaGreatDoor
open Go.Bil
open Go.RowKit (Below)
open Go.Proofs
set_option maxHeartbeats 4000000 in
theorem aBw (w : World) (c : Con) (a b : Body) (hc : Okn c) (ha : Okb a) (hb : Okb b) :
    Calls Tryz.prog 117 #[.agg (bW c).toArray, (.agg (aI a).toArray), (.agg (aI b).toArray)] w (fun ex w' => ∃ v, ex = .returned v ∧ (fun v w' => v = .int .i64 (lO c a b) ∧ Below w.heap.size w w') v w') := by
  have hdp := hc.d
  have hm1 := ha.m
  have hm2 := hb.m
  refine aL #[.tmp 6] 24 Tryz.func117 rfl Tryz.results117 Tryz.ntmps117 rfl ?_
  have M0 := Mem.refl w
  refine aH (aB ?_)
  refine bM (.agg (List.toArray _)) M0 rfl rfl rfl (fun b1 w1 M1 => ?_)
  refine bM (.agg (List.toArray _)) M1 rfl rfl rfl (fun b2 w2 M2 => ?_)
  refine bM (.agg (List.toArray _)) M2 rfl rfl rfl (fun b3 w3 M3 => ?_)
  refine aA (aD (.int _ _) rfl) rfl rfl ?_
  refine aE (aF (aH (aH (aB ?_))))
  refine aA (aG 4 yJ rfl) rfl rfl ?_
  refine aA (aQ 0 (.int _ _) aW M3 rfl rfl rfl) rfl rfl ?_
  refine aA (aN (.bool (decide _)) rfl rfl rfl) rfl rfl ?_
  refine aA (aC (.bool (decide _)) rfl) rfl rfl ?_
  refine dT 10 rfl (fun g10 => ?_) (fun g10 => ?_)
  · refine aS rfl rfl ?_
    refine aS rfl rfl ?_
    refine aS rfl rfl ?_
    refine aS rfl rfl ?_
    refine aS rfl rfl ?_
    refine aS rfl rfl ?_
    refine aA (bQ true (.bool true) rfl rfl) rfl rfl ?_
    refine aE (aF ?_)
    refine cM rfl ?_
    refine aH (aB ?_)
    refine aA (aD (.int _ _) rfl) rfl rfl ?_
    refine aE (aF (aU (dC ?_)))
    refine cU (.int _ _) rfl ?_
    exact ⟨iE (by unfold lO; rw [if_pos (by omega)]), M3.below⟩
  · refine aA (aG 4 eB rfl) rfl rfl ?_
    refine aA (aQ 1 (.int _ _) aW M3 rfl rfl rfl) rfl rfl ?_
    refine aA (aG 4 eB rfl) rfl rfl ?_
    refine aA (aQ 2 (.int _ _) aW M3 rfl rfl rfl) rfl rfl ?_
    refine aA (fZ rfl rfl (iF _ (by omega) (by omega))) rfl rfl ?_
    refine aA (aN (.bool (decide _)) rfl rfl rfl) rfl rfl ?_
    refine aA (bQ false (.bool (decide _)) rfl rfl) rfl rfl ?_
    refine aE (aF ?_)
    refine aX rfl (fun h17 => ?_) (fun h17 => ?_)
    · refine aH (aB ?_)
      refine aA (aD (.int _ _) rfl) rfl rfl ?_
      refine aE (aF (aU (dC ?_)))
      refine cU (.int _ _) rfl ?_
      exact ⟨iE (by unfold lO; rw [if_pos (by omega)]), M3.below⟩
    · refine aO (aF (aH (aB ?_)))
      refine aA (aG 4 yJ rfl) rfl rfl ?_
      refine aA (aQ 0 (.int _ _) aW M3 rfl rfl rfl) rfl rfl ?_
      refine aA (bC dJ Tryz.underlying2 rfl (eT _ (by omega) (by omega))) rfl rfl ?_
      refine aA (fC rfl rfl (by omega) (by omega)) rfl rfl ?_
      refine aA (fP rfl rfl (by omega) (by omega)) rfl rfl ?_
      refine aM mK rfl rfl rfl ?_
      refine (eI _ ((c.depth - 1024) * 26214) 65536 (by decide) (by omega) (by omega)).mono ?_
      rintro _ w4 ⟨v4, rfl, ⟨rfl, hb4⟩⟩
      refine ⟨_, rfl, ?_⟩
      have M4 := M3.callB hb4
      refine aA (aD (.int _ _) rfl) rfl rfl ?_
      refine aE (aF (aU ?_))
      refine cU (.int _ _) rfl ?_
      exact ⟨iE (by unfold lO; rw [if_neg (by omega)]), M4.below⟩
set_option maxHeartbeats 4000000 in
theorem uN (w : World) (c : Con) (a b : Body) (hc : Okn c) (ha : Okb a) (hb : Okb b) (m : Int) (hm : 0 ≤ m ∧ m ≤ 1048576) :
    Calls Tryz.prog 79 #[.agg (bW c).toArray, (.agg (aI a).toArray), (.agg (aI b).toArray), .int .i32 m] w (fun ex w' => ∃ v, ex = .returned v ∧ (fun v w' => v = .int .i64 (mV c a b m) ∧ Below w.heap.size w w') v w') := by
  have hdp := hc.d
  have hm1 := ha.m
  have hm2 := hb.m
  have hsr := aJf (a := a) (b := b) hc hm
  have har := vK (a := a) (b := b) hc
  refine aL #[.tmp 8] 28 Tryz.func79 rfl Tryz.results79 Tryz.ntmps79 rfl ?_
  have M0 := Mem.refl w
  refine aH (aB ?_)
  refine bM (.agg (List.toArray _)) M0 rfl rfl rfl (fun b1 w1 M1 => ?_)
  refine bM (.agg (List.toArray _)) M1 rfl rfl rfl (fun b2 w2 M2 => ?_)
  refine bM (.agg (List.toArray _)) M2 rfl rfl rfl (fun b3 w3 M3 => ?_)
  refine aA (aD (.int _ _) rfl) rfl rfl ?_
  refine aE (aF (aH (aB ?_)))
  refine aA (aR 0 dP M3 rfl rfl rfl) rfl rfl ?_
  refine aA (aR 1 bP M3 rfl rfl rfl) rfl rfl ?_
  refine aA (aR 2 bP M3 rfl rfl rfl) rfl rfl ?_
  refine aM aZx rfl rfl rfl ?_
  refine (aBw _ c a b hc ha hb).mono ?_
  rintro _ w4 ⟨v4, rfl, ⟨rfl, hb4⟩⟩
  refine ⟨_, rfl, ?_⟩
  have M4 := M3.callB hb4
  refine aA (aD (.int _ _) rfl) rfl rfl ?_
  refine aE (aF (aH (aH (aB ?_))))
  refine aA (aC (.int _ _) rfl) rfl rfl ?_
  refine aA (aN (.bool (decide _)) rfl rfl rfl) rfl rfl ?_
  refine aE (aF ?_)
  refine aX rfl (fun h15 => ?_) (fun h15 => ?_)
  · refine aH (aB ?_)
    refine aA (aD (.int _ _) rfl) rfl rfl ?_
    refine aE (aF (aU (dC ?_)))
    refine cU (.int _ _) rfl ?_
    exact ⟨iE (by unfold mV; rw [h15]; simp), M4.below⟩
  · have hsp : 0 < a.mass + b.mass := by unfold lO at h15; split at h15 <;> omega
    have hmx : max 1 (a.mass + b.mass) = a.mass + b.mass := by omega
    refine aO (aF (aH (aB ?_)))
    refine aA (aC (.int _ _) rfl) rfl rfl ?_
    refine aA (aC (.int _ _) rfl) rfl rfl ?_
    refine aA (bC dJ Tryz.underlying2 rfl (eT _ (by omega) (by omega))) rfl rfl ?_
    refine aA (fP rfl rfl (by omega) (by omega)) rfl rfl ?_
    refine aA (aG 4 eB rfl) rfl rfl ?_
    refine aA (aQ 1 (.int _ _) aW M4 rfl rfl rfl) rfl rfl ?_
    refine aA (bC dJ Tryz.underlying2 rfl (eT _ (by omega) (by omega))) rfl rfl ?_
    refine aA (aG 4 eB rfl) rfl rfl ?_
    refine aA (aQ 2 (.int _ _) aW M4 rfl rfl rfl) rfl rfl ?_
    refine aA (bC dJ Tryz.underlying2 rfl (eT _ (by omega) (by omega))) rfl rfl ?_
    refine aA (aZ rfl rfl (by omega) (by omega)) rfl rfl ?_
    refine aM mK rfl rfl rfl ?_
    refine (eI _ (lO c a b * m) (a.mass + b.mass) hsp (by omega) (by omega)).mono ?_
    rintro _ w5 ⟨v5, rfl, ⟨rfl, hb5⟩⟩
    refine ⟨_, rfl, ?_⟩
    have M5 := M4.callB hb5
    refine aA (aD (.int _ _) rfl) rfl rfl ?_
    refine aE (aF (aU ?_))
    refine cU (.int _ _) rfl ?_
    exact ⟨iE (by unfold mV; rw [hmx]), M5.below⟩
set_option maxHeartbeats 16000000 in
theorem aCe (w : World) (A : Option Addr) (n c : Nat) (xs : List Body) (R : Rd w 10 A n (xs.map aI)) (hs : cG xs) (hb : ∀ b ∈ xs, Okb b) (hn : n ≤ 1048576) (B : Option Addr) (mc c' : Nat) (cs : List Con) (R' : Rd w 5 B mc (cs.map bW)) (hcs : ∀ c ∈ cs, OkC xs c) (hmc : mc ≤ 1073741824) :
    Calls Tryz.prog 48 #[.slice A n c, .slice B mc c'] w (fun ex w' => ∃ v, ex = .returned v ∧ (fun v w' => ∃ r : Row, v = .slice r.A r.n r.c ∧ bK 126 2 r.A r.n r.c ((xs.map (gY xs cs)).map bU) r.e ∧ Mem w [] [r.e] w') v w') := by
  have hlen : xs.length = n := by simpa using R.len
  have hbd := R.bound
  have hclen : cs.length = mc := by simpa using R'.len
  have hbd' := R'.bound
  refine aL #[.tmp 4] 118 Tryz.func48 rfl Tryz.results48 Tryz.ntmps48 rfl ?_
  have M0 := Mem.refl w
  refine aH (aB ?_)
  refine aA (aD (.slice _ _ _) rfl) rfl rfl ?_
  refine aE (aF (aH (aB ?_)))
  refine aA (aD (.slice _ _ _) rfl) rfl rfl ?_
  have M1 := M0.dummy default
  refine aE (aF (aH (aH (aB ?_))))
  refine aA (aD (.int _ _) rfl) rfl rfl ?_
  refine aE (aF (aT ?_))
  refine dM (σ := Nat × Row) [0, 1, 4] (fun (i, q) => [(5, .slice q.A q.n q.c), (6, .int .i64 (i : Int))]) (fun (i, q) w' => (i ≤ n ∧ bK 126 2 q.A q.n q.c (((xs.take i).map (gY xs cs)).map bU) q.e) ∧ Mem w [] [q.e] w') (fun (i, q) => n - i) (0, gH) (bB rfl (bB rfl dO)) (⟨⟨by omega, bK.nil _ _ _⟩, M1⟩) ?_
  rintro ⟨i, q⟩ ρ2 w2 ⟨⟨hi, hq⟩, hM2⟩
  have htl := List.length_take_le i xs
  have hqn : (xs.take i).length = q.n := by simpa using hq.1
  refine aH (aH (aB ?_))
  refine aA (aC (.int _ _) rfl) rfl rfl ?_
  refine aA (aC (.slice _ _ _) rfl) rfl rfl ?_
  refine aA (dE Tryz.underlying22 rfl) rfl rfl ?_
  refine aA (aN (.bool (decide _)) rfl rfl rfl) rfl rfl ?_
  refine aE (aF ?_)
  refine aX rfl (fun h18 => ?_) (fun h18 => ?_)
  · obtain ⟨xb, hxb⟩ := dA (xs := xs) (k := i) hlen (by omega)
    have hbi := List.mem_of_getElem? hxb
    refine aO (aF (aH (aT (aH (aB ?_)))))
    refine aV aUy hM2 rfl rfl (fun b3 w3 M3 => ?_)
    refine aE (aF (aH (aH (aB ?_))))
    refine aA (aD (.int _ _) rfl) rfl rfl ?_
    refine aE (aF (aT ?_))
    refine dM (σ := Nat) [0, 1, 4, 5, 6, 7] (fun k2 => [(8, .int .i64 (k2 : Int))]) (fun k2 w' => k2 ≤ mc ∧ Mem w [] [q.e, (some b3, bc [.int .i64 (qK xs (cs.take k2) (·.nx) xb), .int .i64 (qK xs (cs.take k2) (·.ny) xb)] 126)] w') (fun k2 => mc - k2) 0 (bB rfl dO) (⟨by omega, by rw [qF, qF]; exact M3⟩) ?_
    rintro k2 ρ4 w4 ⟨hk2, hM4⟩
    have hsb := vR hs hb hcs hclen hmc k2 hbi
    unfold gY at hsb
    simp only at hsb
    refine aH (aH (aB ?_))
    refine aA (aC (.int _ _) rfl) rfl rfl ?_
    refine aA (aC (.slice _ _ _) rfl) rfl rfl ?_
    refine aA (dE Tryz.underlying82 rfl) rfl rfl ?_
    refine aA (aN (.bool (decide _)) rfl rfl rfl) rfl rfl ?_
    refine aE (aF ?_)
    refine aX rfl (fun h24 => ?_) (fun h24 => ?_)
    · obtain ⟨cn, hcn⟩ := dA (xs := cs) (k := k2) hclen (by omega)
      have hc := hcs cn (List.mem_of_getElem? hcn)
      have hne := hc.ne
      have hnx := hc.n.x
      have hny := hc.n.y
      obtain ⟨pa, xa, hxa, hka, hfa⟩ := pS hc.l
      obtain ⟨pb, xb2, hxb2, hkb, hfb⟩ := pS hc.h
      have hba := tR hxa hfa
      have hbb := tR hxb2 hfb
      have hma := List.mem_of_getElem? hxa
      have hmb := List.mem_of_getElem? hxb2
      have hoa := hb xa hma
      have hob := hb xb2 hmb
      have qa := hoa.m
      have qb := hob.m
      refine aO (aF (aH (aT (aH (aB ?_)))))
      refine aA (aC (.slice _ _ _) rfl) rfl rfl ?_
      refine aA (aC (.int _ _) rfl) rfl rfl ?_
      refine aA (bN (k2) vH rfl rfl rfl ((R'.mem hM4).below_len (aJ bW hcn)) ((R'.mem hM4).someK (aJ bW hcn))) rfl rfl ?_
      refine aA (dG _ dP (R'.mem hM4) (aJ bW hcn) rfl) rfl rfl ?_
      refine aV kB hM4 rfl rfl (fun b5 w5 M5 => ?_)
      refine bL 2 _ dP M5 rfl rfl rfl rfl rfl (bA rfl) rfl (fun w6 M6 => ?_)
      refine aE (aF (aH (aH ?_)))
      refine bY [(0, 0), (1, 0), (2, 1), (3, 0), (4, 0), (5, 1), (6, 1), (7, 1), (8, 0), (9, 0), (10, 0), (11, 0), (12, 1), (13, 0), (14, 0), (15, 1), (16, 1), (17, 1), (18, 0), (19, 0)] mixed rfl (by kernel_rfl) (fun w7 hb7 hh7 => ?_)
      have M7 := M6.drew hb7 hh7
      refine aP rfl rfl rfl (fun _ => aG 0 eF rfl) ?_
      refine aP rfl rfl rfl (fun _ => aG 0 eZ rfl) ?_
      refine cB rfl rfl rfl (aQ 2 (.int _ _) cO M7 rfl rfl rfl) ?_
      refine aP rfl rfl rfl (fun _ => aC (.slice _ _ _) rfl) ?_
      refine aP rfl rfl rfl (fun _ => aC (.int _ _) rfl) ?_
      refine cB rfl rfl rfl (bN (i) cW rfl rfl rfl ((R.mem M7).below_len (aJ aI hxb)) ((R.mem M7).someK (aJ aI hxb))) ?_
      refine cB rfl rfl rfl (bG 0 dL (R.mem M7) (Nat.lt_of_le_of_lt (Nat.zero_le _) ((R.mem M7).below_len (aJ aI hxb))) rfl) ?_
      refine cB rfl rfl rfl (dR (o := 0) (.int _ _) cO (R.mem M7) (aJ aI hxb) rfl rfl) ?_
      refine aP rfl rfl rfl (fun _ => aN (.bool (decide _)) rfl rfl rfl) ?_
      refine aP rfl rfl rfl (fun _ => aC (.bool (decide _)) rfl) ?_
      refine aDm 40 rfl (fun g40 => ?_) (fun g40 => ?_)
      · refine aP rfl rfl rfl (fun _ => aG 0 eF rfl) ?_
        refine aP rfl rfl rfl (fun _ => aG 1 gU rfl) ?_
        refine cB rfl rfl rfl (aQ 2 (.int _ _) cO M7 rfl rfl rfl) ?_
        refine aP rfl rfl rfl (fun _ => aC (.slice _ _ _) rfl) ?_
        refine aP rfl rfl rfl (fun _ => aC (.int _ _) rfl) ?_
        refine cB rfl rfl rfl (bN (i) cW rfl rfl rfl ((R.mem M7).below_len (aJ aI hxb)) ((R.mem M7).someK (aJ aI hxb))) ?_
        refine cB rfl rfl rfl (bG 0 dL (R.mem M7) (Nat.lt_of_le_of_lt (Nat.zero_le _) ((R.mem M7).below_len (aJ aI hxb))) rfl) ?_
        refine cB rfl rfl rfl (dR (o := 0) (.int _ _) cO (R.mem M7) (aJ aI hxb) rfl rfl) ?_
        refine aP rfl rfl rfl (fun _ => aN (.bool (decide _)) rfl rfl rfl) ?_
        refine aP rfl rfl rfl (fun _ => bQ true (.bool (decide _)) rfl rfl) ?_
        refine cI ?_
        refine aF ?_
        refine aX rfl (fun h50 => ?_) (fun h50 => ?_)
        · refine cQ ?_
          refine cX ?_
          refine eJ ?_
          refine aF (aB ?_)
          refine aA (aC (.int _ _) rfl) rfl rfl ?_
          refine aA (aZ rfl rfl (by omega) (by omega)) rfl rfl ?_
          refine aA (aD (.int _ _) rfl) rfl rfl ?_
          refine aE ?_
          refine cA (k2 + 1) (bB rfl dO) (cD rfl (cD rfl (cD rfl (cD rfl (cD rfl (cD rfl fS)))))) ?_ ?_
          · exact ⟨by omega, by rw [fT hcn, fT hcn]; unfold qL; (have n1 : ¬ cn.low = xb.key := by omega); (have n2 : ¬ cn.high = xb.key := by omega); rw [if_neg n1, if_neg n2, if_neg n1, if_neg n2, Int.add_zero, Int.add_zero]; exact M7.keep [true, true, false]⟩
          · (show mc - (k2 + 1) < mc - k2; omega)
        · refine aO (aF (aH (aB ?_)))
          refine aA (aC (.slice _ _ _) rfl) rfl rfl ?_
          refine aA (aC (.slice _ _ _) rfl) rfl rfl ?_
          refine aA (aG 0 eF rfl) rfl rfl ?_
          refine aA (aG 0 eZ rfl) rfl rfl ?_
          refine aA (aQ 2 (.int _ _) cO M7 rfl rfl rfl) rfl rfl ?_
          refine aM rP rfl rfl rfl ?_
          refine (gR _ cn.low _ _ _ xs (R.mem M7)).mono ?_
          rintro _ w8 ⟨v8, rfl, ⟨rfl, hb8⟩⟩
          refine ⟨_, rfl, ?_⟩
          have M8 := M7.callB hb8
          refine aA (bN (pa) cW rfl rfl hfa ((R.mem M8).below_len (aJ aI hxa)) ((R.mem M8).someK (aJ aI hxa))) rfl rfl ?_
          refine aA (dG _ bP (R.mem M8) (aJ aI hxa) rfl) rfl rfl ?_
          refine aV gG M8 rfl rfl (fun b9 w9 M9 => ?_)
          refine bL 3 _ bP M9 rfl rfl rfl rfl rfl (bA rfl) rfl (fun w10 M10 => ?_)
          refine aE (aF (aH (aB ?_)))
          refine aA (aC (.slice _ _ _) rfl) rfl rfl ?_
          refine aA (aC (.slice _ _ _) rfl) rfl rfl ?_
          refine aA (aG 0 eF rfl) rfl rfl ?_
          refine aA (aG 1 gU rfl) rfl rfl ?_
          refine aA (aQ 2 (.int _ _) cO M10 rfl rfl rfl) rfl rfl ?_
          refine aM rP rfl rfl rfl ?_
          refine (gR _ cn.high _ _ _ xs (R.mem M10)).mono ?_
          rintro _ w11 ⟨v11, rfl, ⟨rfl, hb11⟩⟩
          refine ⟨_, rfl, ?_⟩
          have M11 := M10.callB hb11
          refine aA (bN (pb) cW rfl rfl hfb ((R.mem M11).below_len (aJ aI hxb2)) ((R.mem M11).someK (aJ aI hxb2))) rfl rfl ?_
          refine aA (dG _ bP (R.mem M11) (aJ aI hxb2) rfl) rfl rfl ?_
          refine aV gG M11 rfl rfl (fun b12 w12 M12 => ?_)
          refine bL 4 _ bP M12 rfl rfl rfl rfl rfl (bA rfl) rfl (fun w13 M13 => ?_)
          refine aE (aF (aH ?_))
          refine bY [(0, 1), (1, 1), (2, 1), (3, 0), (4, 0), (5, 1), (6, 1), (7, 1), (8, 2), (9, 0)] mixed rfl (by kernel_rfl) (fun w14 hb14 hh14 => ?_)
          have M14 := M13.drew hb14 hh14
          refine cB rfl rfl rfl (aR 2 dP M14 rfl rfl rfl) ?_
          refine cB rfl rfl rfl (aR 3 bP M14 rfl rfl rfl) ?_
          refine cB rfl rfl rfl (aR 4 bP M14 rfl rfl rfl) ?_
          refine aP rfl rfl rfl (fun _ => aC (.slice _ _ _) rfl) ?_
          refine aP rfl rfl rfl (fun _ => aC (.int _ _) rfl) ?_
          refine cB rfl rfl rfl (bN (i) cW rfl rfl rfl ((R.mem M14).below_len (aJ aI hxb)) ((R.mem M14).someK (aJ aI hxb))) ?_
          refine cB rfl rfl rfl (bG 4 eB (R.mem M14) (Nat.lt_of_le_of_lt (Nat.zero_le _) ((R.mem M14).below_len (aJ aI hxb))) rfl) ?_
          refine cB rfl rfl rfl (dR (o := 4) (.int _ _) aW (R.mem M14) (aJ aI hxb) rfl rfl) ?_
          refine eN [true, true, true, true, true, true] rfl (by kernel_rfl) ?_
          refine aM aWf rfl rfl rfl ?_
          have hbm : 0 ≤ xb.mass ∧ xb.mass ≤ xa.mass + xb2.mass := ⟨(hb xb hbi).m.1, pY hs hma hmb hbi qa.1 qb.1 (by omega)⟩
          have hmq := (hb xb hbi).m
          have hsl := uA hc.n hbm
          have r1 := jO hsl hnx
          have r2 := jO hsl hny
          refine (uN _ cn xa xb2 hc.n hoa hob xb.mass hmq).mono ?_
          rintro _ w15 ⟨v15, rfl, ⟨rfl, hb15⟩⟩
          refine ⟨_, rfl, ?_⟩
          have M15 := M14.callB hb15
          refine aE (aF ⟨eM, ?_⟩)
          refine aP rfl rfl rfl (fun _ => aD (.int _ _) rfl) ?_
          refine cI ?_
          refine aF (aH (aB ?_))
          refine aA (aC (.int _ _) rfl) rfl rfl ?_
          refine aA (aG 2 fN rfl) rfl rfl ?_
          refine aA (aG 0 cN rfl) rfl rfl ?_
          refine aA (aQ 2 (.int _ _) aW M15 rfl rfl rfl) rfl rfl ?_
          refine aA (bC dJ Tryz.underlying2 rfl (eT _ (by omega) (by omega))) rfl rfl ?_
          refine aA (fP rfl rfl (by omega) (by omega)) rfl rfl ?_
          refine aM mK rfl rfl rfl ?_
          refine (eI _ _ 65536 (by decide) (by omega) (by omega)).mono ?_
          rintro _ w16 ⟨v16, rfl, ⟨rfl, hb16⟩⟩
          refine ⟨_, rfl, ?_⟩
          have M16 := M15.callB hb16
          refine aA (aD (.int _ _) rfl) rfl rfl ?_
          refine aE (aF (aH (aB ?_)))
          refine aA (aC (.int _ _) rfl) rfl rfl ?_
          refine aA (aG 2 fN rfl) rfl rfl ?_
          refine aA (aG 1 cJ rfl) rfl rfl ?_
          refine aA (aQ 2 (.int _ _) aW M16 rfl rfl rfl) rfl rfl ?_
          refine aA (bC dJ Tryz.underlying2 rfl (eT _ (by omega) (by omega))) rfl rfl ?_
          refine aA (fP rfl rfl (by omega) (by omega)) rfl rfl ?_
          refine aM mK rfl rfl rfl ?_
          refine (eI _ _ 65536 (by decide) (by omega) (by omega)).mono ?_
          rintro _ w17 ⟨v17, rfl, ⟨rfl, hb17⟩⟩
          refine ⟨_, rfl, ?_⟩
          have M17 := M16.callB hb17
          refine aA (aD (.int _ _) rfl) rfl rfl ?_
          refine aE (aF (aH (aH ?_)))
          refine bY [(0, 0), (1, 0), (2, 1), (3, 0), (4, 0), (5, 1), (6, 1), (7, 1), (8, 0)] mixed rfl (by kernel_rfl) (fun w18 hb18 hh18 => ?_)
          have M18 := M17.drew hb18 hh18
          refine aP rfl rfl rfl (fun _ => aG 0 eF rfl) ?_
          refine aP rfl rfl rfl (fun _ => aG 0 eZ rfl) ?_
          refine cB rfl rfl rfl (aQ 2 (.int _ _) cO M18 rfl rfl rfl) ?_
          refine aP rfl rfl rfl (fun _ => aC (.slice _ _ _) rfl) ?_
          refine aP rfl rfl rfl (fun _ => aC (.int _ _) rfl) ?_
          refine cB rfl rfl rfl (bN (i) cW rfl rfl rfl ((R.mem M18).below_len (aJ aI hxb)) ((R.mem M18).someK (aJ aI hxb))) ?_
          refine cB rfl rfl rfl (bG 0 dL (R.mem M18) (Nat.lt_of_le_of_lt (Nat.zero_le _) ((R.mem M18).below_len (aJ aI hxb))) rfl) ?_
          refine cB rfl rfl rfl (dR (o := 0) (.int _ _) cO (R.mem M18) (aJ aI hxb) rfl rfl) ?_
          refine aP rfl rfl rfl (fun _ => aN (.bool (decide _)) rfl rfl rfl) ?_
          refine cI ?_
          refine aF ?_
          refine aX rfl (fun h98 => ?_) (fun h98 => ?_)
          · refine aH (aB ?_)
            refine aA (aC (.int _ _) rfl) rfl rfl ?_
            refine aA (mQ rfl (eT _ (by omega) (by omega))) rfl rfl ?_
            refine aA (aD (.int _ _) rfl) rfl rfl ?_
            refine aE (aF (aB ?_))
            refine aA (aC (.int _ _) rfl) rfl rfl ?_
            refine aA (mQ rfl (eT _ (by omega) (by omega))) rfl rfl ?_
            refine aA (aD (.int _ _) rfl) rfl rfl ?_
            refine aE (aF (aH (aB ?_)))
            refine aA (aG 0 iV rfl) rfl rfl ?_
            refine aA (aQ 1 (.int _ _) gA M18 rfl rfl rfl) rfl rfl ?_
            refine aA (aC (.int _ _) rfl) rfl rfl ?_
            refine aA (aZ rfl rfl (by omega) (by omega)) rfl rfl ?_
            refine aA (aG 0 iV rfl) rfl rfl ?_
            refine cY 1 (.int _ _) gA M18 rfl rfl rfl rfl rfl rfl (fun w19 M19 => ?_)
            refine aE (aF (aB ?_))
            refine aA (aG 1 iX rfl) rfl rfl ?_
            refine aA (aQ 1 (.int _ _) gA M19 rfl rfl rfl) rfl rfl ?_
            refine aA (aC (.int _ _) rfl) rfl rfl ?_
            refine aA (aZ rfl rfl (by omega) (by omega)) rfl rfl ?_
            refine aA (aG 1 iX rfl) rfl rfl ?_
            refine cY 1 (.int _ _) gA M19 rfl rfl rfl rfl rfl rfl (fun w20 M20 => ?_)
            refine aE ?_
            refine cS ?_
            refine aF (aB ?_)
            refine aA (aC (.int _ _) rfl) rfl rfl ?_
            refine aA (aZ rfl rfl (by omega) (by omega)) rfl rfl ?_
            refine aA (aD (.int _ _) rfl) rfl rfl ?_
            refine aE ?_
            refine cA (k2 + 1) (bB rfl dO) (cD rfl (cD rfl (cD rfl (cD rfl (cD rfl (cD rfl fS)))))) ?_ ?_
            · exact ⟨by omega, by rw [fT hcn, fT hcn]; unfold qL; (have n1 : cn.low = xb.key := by omega); rw [if_pos n1, if_pos n1, hba, hbb]; exact M20.keep [true, true, false, false, false]⟩
            · (show mc - (k2 + 1) < mc - k2; omega)
          · refine aO (aF (aH (aB ?_)))
            refine aA (aG 0 iV rfl) rfl rfl ?_
            refine aA (aQ 1 (.int _ _) gA M18 rfl rfl rfl) rfl rfl ?_
            refine aA (aC (.int _ _) rfl) rfl rfl ?_
            refine aA (aZ rfl rfl (by omega) (by omega)) rfl rfl ?_
            refine aA (aG 0 iV rfl) rfl rfl ?_
            refine cY 1 (.int _ _) gA M18 rfl rfl rfl rfl rfl rfl (fun w21 M21 => ?_)
            refine aE (aF (aB ?_))
            refine aA (aG 1 iX rfl) rfl rfl ?_
            refine aA (aQ 1 (.int _ _) gA M21 rfl rfl rfl) rfl rfl ?_
            refine aA (aC (.int _ _) rfl) rfl rfl ?_
            refine aA (aZ rfl rfl (by omega) (by omega)) rfl rfl ?_
            refine aA (aG 1 iX rfl) rfl rfl ?_
            refine cY 1 (.int _ _) gA M21 rfl rfl rfl rfl rfl rfl (fun w22 M22 => ?_)
            refine aE ?_
            refine cS ?_
            refine aF (aB ?_)
            refine aA (aC (.int _ _) rfl) rfl rfl ?_
            refine aA (aZ rfl rfl (by omega) (by omega)) rfl rfl ?_
            refine aA (aD (.int _ _) rfl) rfl rfl ?_
            refine aE ?_
            refine cA (k2 + 1) (bB rfl dO) (cD rfl (cD rfl (cD rfl (cD rfl (cD rfl (cD rfl fS)))))) ?_ ?_
            · exact ⟨by omega, by rw [fT hcn, fT hcn]; unfold qL; (have n1 : ¬ cn.low = xb.key := by omega); (have n2 : cn.high = xb.key := by omega); rw [if_neg n1, if_pos n2, if_neg n1, if_pos n2, hba, hbb]; exact M22.keep [true, true, false, false, false]⟩
            · (show mc - (k2 + 1) < mc - k2; omega)
      · refine D_s rfl rfl rfl ?_
        refine D_s rfl rfl rfl ?_
        refine vC rfl rfl rfl ?_
        refine D_s rfl rfl rfl ?_
        refine D_s rfl rfl rfl ?_
        refine vC rfl rfl rfl ?_
        refine vC rfl rfl rfl ?_
        refine vC rfl rfl rfl ?_
        refine D_s rfl rfl rfl ?_
        refine aP rfl rfl rfl (fun _ => bQ false (.bool false) rfl rfl) ?_
        refine cI ?_
        refine aF ?_
        refine cP rfl ?_
        refine aO (aF (aH (aB ?_)))
        refine aA (aC (.slice _ _ _) rfl) rfl rfl ?_
        refine aA (aC (.slice _ _ _) rfl) rfl rfl ?_
        refine aA (aG 0 eF rfl) rfl rfl ?_
        refine aA (aG 0 eZ rfl) rfl rfl ?_
        refine aA (aQ 2 (.int _ _) cO M7 rfl rfl rfl) rfl rfl ?_
        refine aM rP rfl rfl rfl ?_
        refine (gR _ cn.low _ _ _ xs (R.mem M7)).mono ?_
        rintro _ w23 ⟨v23, rfl, ⟨rfl, hb23⟩⟩
        refine ⟨_, rfl, ?_⟩
        have M23 := M7.callB hb23
        refine aA (bN (pa) cW rfl rfl hfa ((R.mem M23).below_len (aJ aI hxa)) ((R.mem M23).someK (aJ aI hxa))) rfl rfl ?_
        refine aA (dG _ bP (R.mem M23) (aJ aI hxa) rfl) rfl rfl ?_
        refine aV gG M23 rfl rfl (fun b24 w24 M24 => ?_)
        refine bL 3 _ bP M24 rfl rfl rfl rfl rfl (bA rfl) rfl (fun w25 M25 => ?_)
        refine aE (aF (aH (aB ?_)))
        refine aA (aC (.slice _ _ _) rfl) rfl rfl ?_
        refine aA (aC (.slice _ _ _) rfl) rfl rfl ?_
        refine aA (aG 0 eF rfl) rfl rfl ?_
        refine aA (aG 1 gU rfl) rfl rfl ?_
        refine aA (aQ 2 (.int _ _) cO M25 rfl rfl rfl) rfl rfl ?_
        refine aM rP rfl rfl rfl ?_
        refine (gR _ cn.high _ _ _ xs (R.mem M25)).mono ?_
        rintro _ w26 ⟨v26, rfl, ⟨rfl, hb26⟩⟩
        refine ⟨_, rfl, ?_⟩
        have M26 := M25.callB hb26
        refine aA (bN (pb) cW rfl rfl hfb ((R.mem M26).below_len (aJ aI hxb2)) ((R.mem M26).someK (aJ aI hxb2))) rfl rfl ?_
        refine aA (dG _ bP (R.mem M26) (aJ aI hxb2) rfl) rfl rfl ?_
        refine aV gG M26 rfl rfl (fun b27 w27 M27 => ?_)
        refine bL 4 _ bP M27 rfl rfl rfl rfl rfl (bA rfl) rfl (fun w28 M28 => ?_)
        refine aE (aF (aH ?_))
        refine bY [(0, 1), (1, 1), (2, 1), (3, 0), (4, 0), (5, 1), (6, 1), (7, 1), (8, 2), (9, 0)] mixed rfl (by kernel_rfl) (fun w29 hb29 hh29 => ?_)
        have M29 := M28.drew hb29 hh29
        refine cB rfl rfl rfl (aR 2 dP M29 rfl rfl rfl) ?_
        refine cB rfl rfl rfl (aR 3 bP M29 rfl rfl rfl) ?_
        refine cB rfl rfl rfl (aR 4 bP M29 rfl rfl rfl) ?_
        refine aP rfl rfl rfl (fun _ => aC (.slice _ _ _) rfl) ?_
        refine aP rfl rfl rfl (fun _ => aC (.int _ _) rfl) ?_
        refine cB rfl rfl rfl (bN (i) cW rfl rfl rfl ((R.mem M29).below_len (aJ aI hxb)) ((R.mem M29).someK (aJ aI hxb))) ?_
        refine cB rfl rfl rfl (bG 4 eB (R.mem M29) (Nat.lt_of_le_of_lt (Nat.zero_le _) ((R.mem M29).below_len (aJ aI hxb))) rfl) ?_
        refine cB rfl rfl rfl (dR (o := 4) (.int _ _) aW (R.mem M29) (aJ aI hxb) rfl rfl) ?_
        refine eN [true, true, true, true, true, true] rfl (by kernel_rfl) ?_
        refine aM aWf rfl rfl rfl ?_
        have hbm : 0 ≤ xb.mass ∧ xb.mass ≤ xa.mass + xb2.mass := ⟨(hb xb hbi).m.1, pY hs hma hmb hbi qa.1 qb.1 (by omega)⟩
        have hmq := (hb xb hbi).m
        have hsl := uA hc.n hbm
        have r1 := jO hsl hnx
        have r2 := jO hsl hny
        refine (uN _ cn xa xb2 hc.n hoa hob xb.mass hmq).mono ?_
        rintro _ w30 ⟨v30, rfl, ⟨rfl, hb30⟩⟩
        refine ⟨_, rfl, ?_⟩
        have M30 := M29.callB hb30
        refine aE (aF ⟨eM, ?_⟩)
        refine aP rfl rfl rfl (fun _ => aD (.int _ _) rfl) ?_
        refine cI ?_
        refine aF (aH (aB ?_))
        refine aA (aC (.int _ _) rfl) rfl rfl ?_
        refine aA (aG 2 fN rfl) rfl rfl ?_
        refine aA (aG 0 cN rfl) rfl rfl ?_
        refine aA (aQ 2 (.int _ _) aW M30 rfl rfl rfl) rfl rfl ?_
        refine aA (bC dJ Tryz.underlying2 rfl (eT _ (by omega) (by omega))) rfl rfl ?_
        refine aA (fP rfl rfl (by omega) (by omega)) rfl rfl ?_
        refine aM mK rfl rfl rfl ?_
        refine (eI _ _ 65536 (by decide) (by omega) (by omega)).mono ?_
        rintro _ w31 ⟨v31, rfl, ⟨rfl, hb31⟩⟩
        refine ⟨_, rfl, ?_⟩
        have M31 := M30.callB hb31
        refine aA (aD (.int _ _) rfl) rfl rfl ?_
        refine aE (aF (aH (aB ?_)))
        refine aA (aC (.int _ _) rfl) rfl rfl ?_
        refine aA (aG 2 fN rfl) rfl rfl ?_
        refine aA (aG 1 cJ rfl) rfl rfl ?_
        refine aA (aQ 2 (.int _ _) aW M31 rfl rfl rfl) rfl rfl ?_
        refine aA (bC dJ Tryz.underlying2 rfl (eT _ (by omega) (by omega))) rfl rfl ?_
        refine aA (fP rfl rfl (by omega) (by omega)) rfl rfl ?_
        refine aM mK rfl rfl rfl ?_
        refine (eI _ _ 65536 (by decide) (by omega) (by omega)).mono ?_
        rintro _ w32 ⟨v32, rfl, ⟨rfl, hb32⟩⟩
        refine ⟨_, rfl, ?_⟩
        have M32 := M31.callB hb32
        refine aA (aD (.int _ _) rfl) rfl rfl ?_
        refine aE (aF (aH (aH ?_)))
        refine bY [(0, 0), (1, 0), (2, 1), (3, 0), (4, 0), (5, 1), (6, 1), (7, 1), (8, 0)] mixed rfl (by kernel_rfl) (fun w33 hb33 hh33 => ?_)
        have M33 := M32.drew hb33 hh33
        refine aP rfl rfl rfl (fun _ => aG 0 eF rfl) ?_
        refine aP rfl rfl rfl (fun _ => aG 0 eZ rfl) ?_
        refine cB rfl rfl rfl (aQ 2 (.int _ _) cO M33 rfl rfl rfl) ?_
        refine aP rfl rfl rfl (fun _ => aC (.slice _ _ _) rfl) ?_
        refine aP rfl rfl rfl (fun _ => aC (.int _ _) rfl) ?_
        refine cB rfl rfl rfl (bN (i) cW rfl rfl rfl ((R.mem M33).below_len (aJ aI hxb)) ((R.mem M33).someK (aJ aI hxb))) ?_
        refine cB rfl rfl rfl (bG 0 dL (R.mem M33) (Nat.lt_of_le_of_lt (Nat.zero_le _) ((R.mem M33).below_len (aJ aI hxb))) rfl) ?_
        refine cB rfl rfl rfl (dR (o := 0) (.int _ _) cO (R.mem M33) (aJ aI hxb) rfl rfl) ?_
        refine aP rfl rfl rfl (fun _ => aN (.bool (decide _)) rfl rfl rfl) ?_
        refine cI ?_
        refine aF ?_
        refine aX rfl (fun h98 => ?_) (fun h98 => ?_)
        · refine aH (aB ?_)
          refine aA (aC (.int _ _) rfl) rfl rfl ?_
          refine aA (mQ rfl (eT _ (by omega) (by omega))) rfl rfl ?_
          refine aA (aD (.int _ _) rfl) rfl rfl ?_
          refine aE (aF (aB ?_))
          refine aA (aC (.int _ _) rfl) rfl rfl ?_
          refine aA (mQ rfl (eT _ (by omega) (by omega))) rfl rfl ?_
          refine aA (aD (.int _ _) rfl) rfl rfl ?_
          refine aE (aF (aH (aB ?_)))
          refine aA (aG 0 iV rfl) rfl rfl ?_
          refine aA (aQ 1 (.int _ _) gA M33 rfl rfl rfl) rfl rfl ?_
          refine aA (aC (.int _ _) rfl) rfl rfl ?_
          refine aA (aZ rfl rfl (by omega) (by omega)) rfl rfl ?_
          refine aA (aG 0 iV rfl) rfl rfl ?_
          refine cY 1 (.int _ _) gA M33 rfl rfl rfl rfl rfl rfl (fun w34 M34 => ?_)
          refine aE (aF (aB ?_))
          refine aA (aG 1 iX rfl) rfl rfl ?_
          refine aA (aQ 1 (.int _ _) gA M34 rfl rfl rfl) rfl rfl ?_
          refine aA (aC (.int _ _) rfl) rfl rfl ?_
          refine aA (aZ rfl rfl (by omega) (by omega)) rfl rfl ?_
          refine aA (aG 1 iX rfl) rfl rfl ?_
          refine cY 1 (.int _ _) gA M34 rfl rfl rfl rfl rfl rfl (fun w35 M35 => ?_)
          refine aE ?_
          refine cS ?_
          refine aF (aB ?_)
          refine aA (aC (.int _ _) rfl) rfl rfl ?_
          refine aA (aZ rfl rfl (by omega) (by omega)) rfl rfl ?_
          refine aA (aD (.int _ _) rfl) rfl rfl ?_
          refine aE ?_
          refine cA (k2 + 1) (bB rfl dO) (cD rfl (cD rfl (cD rfl (cD rfl (cD rfl (cD rfl fS)))))) ?_ ?_
          · exact ⟨by omega, by rw [fT hcn, fT hcn]; unfold qL; (have n1 : cn.low = xb.key := by omega); rw [if_pos n1, if_pos n1, hba, hbb]; exact M35.keep [true, true, false, false, false]⟩
          · (show mc - (k2 + 1) < mc - k2; omega)
        · refine aO (aF (aH (aB ?_)))
          refine aA (aG 0 iV rfl) rfl rfl ?_
          refine aA (aQ 1 (.int _ _) gA M33 rfl rfl rfl) rfl rfl ?_
          refine aA (aC (.int _ _) rfl) rfl rfl ?_
          refine aA (aZ rfl rfl (by omega) (by omega)) rfl rfl ?_
          refine aA (aG 0 iV rfl) rfl rfl ?_
          refine cY 1 (.int _ _) gA M33 rfl rfl rfl rfl rfl rfl (fun w36 M36 => ?_)
          refine aE (aF (aB ?_))
          refine aA (aG 1 iX rfl) rfl rfl ?_
          refine aA (aQ 1 (.int _ _) gA M36 rfl rfl rfl) rfl rfl ?_
          refine aA (aC (.int _ _) rfl) rfl rfl ?_
          refine aA (aZ rfl rfl (by omega) (by omega)) rfl rfl ?_
          refine aA (aG 1 iX rfl) rfl rfl ?_
          refine cY 1 (.int _ _) gA M36 rfl rfl rfl rfl rfl rfl (fun w37 M37 => ?_)
          refine aE ?_
          refine cS ?_
          refine aF (aB ?_)
          refine aA (aC (.int _ _) rfl) rfl rfl ?_
          refine aA (aZ rfl rfl (by omega) (by omega)) rfl rfl ?_
          refine aA (aD (.int _ _) rfl) rfl rfl ?_
          refine aE ?_
          refine cA (k2 + 1) (bB rfl dO) (cD rfl (cD rfl (cD rfl (cD rfl (cD rfl (cD rfl fS)))))) ?_ ?_
          · exact ⟨by omega, by rw [fT hcn, fT hcn]; unfold qL; (have n1 : ¬ cn.low = xb.key := by omega); (have n2 : cn.high = xb.key := by omega); rw [if_neg n1, if_pos n2, if_neg n1, if_pos n2, hba, hbb]; exact M37.keep [true, true, false, false, false]⟩
          · (show mc - (k2 + 1) < mc - k2; omega)
    · have hkn : k2 = mc := by omega
      rw [hkn, List.take_of_length_le (by omega)] at hM4
      refine cQ ?_
      refine cX ?_
      refine dF ?_
      refine eJ ?_
      refine aF (aB ?_)
      refine aA (aC (.slice _ _ _) rfl) rfl rfl ?_
      refine aA (aR 1 aYz hM4 rfl rfl rfl) rfl rfl ?_
      refine cR [.agg (List.toArray _)] [bU (gY xs cs xb)] rfl aLa hM4 rfl rfl rfl rfl (cZ rfl) (by decide) (fun b38 w38 M38 => ?_)
      refine dB 0 [bU (gY xs cs xb)] aLa M38 rfl rfl rfl rfl rfl hq rfl (by simp [bU, Go.Bil.one]) (dD.ofMem 2 M38 rfl) (by omega) (fun A39 c39 e39 w39 M39 hR39 => ?_)
      refine aA (aD (.slice _ _ _) rfl) rfl rfl ?_
      refine aE ?_
      refine cS ?_
      refine aF (aB ?_)
      refine aA (aC (.int _ _) rfl) rfl rfl ?_
      refine aA (aZ rfl rfl (by omega) (by omega)) rfl rfl ?_
      refine aA (aD (.int _ _) rfl) rfl rfl ?_
      refine aE ?_
      refine cA (i + 1, ⟨A39, q.n + 1, c39, e39⟩) (bB rfl (bB rfl dO)) (cD rfl (cD rfl (cD rfl fS))) ?_ ?_
      · exact ⟨⟨by omega, by rw [cE hxb, List.map_append, List.map_append]; exact hR39⟩, M39.keep [true, false, false]⟩
      · (show n - (i + 1) < n - i; omega)
  · have hin : i = n := by omega
    rw [List.take_of_length_le (by omega)] at hq
    refine cQ ?_
    refine cX ?_
    refine dF ?_
    refine eJ ?_
    refine aF (aH (aB ?_))
    refine aA (aC (.slice _ _ _) rfl) rfl rfl ?_
    refine aA (aD (.slice _ _ _) rfl) rfl rfl ?_
    refine aE (aF (aU ?_))
    refine cU (.slice _ _ _) rfl ?_
    exact ⟨q, rfl, hq, hM2⟩
end Go.Proofs.YtlmcphcgiclanaaGreatDoor

namespace Go.Proofs.YtlmcphcgiclanaaGreatDoor
open Go.Bil
open Go.RowKit (Below)
open Go.Proofs
set_option maxHeartbeats 4000000 in
theorem zL (w : World) (A : Option Addr) (n c : Nat) (xs : List Body) (R : Rd w 10 A n (xs.map aI)) (hb : ∀ b ∈ xs, Okb b) (hn : n ≤ 1048576) :
    Calls Tryz.prog 45 #[.slice A n c] w (fun ex w' => ∃ v, ex = .returned v ∧ (fun v w' => ∃ r : Row, v = .tuple #[.slice r.A r.n r.c, .bool (xs.any jS)] ∧ bK 40 10 r.A r.n r.c ((lX xs).map aI) r.e ∧ Mem w [] [r.e] w') v w') := by
  have hlen : xs.length = n := by simpa using R.len
  have hbd := R.bound
  refine aL #[.tmp 2, .tmp 3] 47 Tryz.func45 rfl Tryz.results45 Tryz.ntmps45 rfl ?_
  have M0 := Mem.refl w
  refine aH (aB ?_)
  refine aA (aD (.slice _ _ _) rfl) rfl rfl ?_
  refine aA (aD (.bool false) rfl) rfl rfl ?_
  refine aE (aF (aH (aB ?_)))
  refine aA (aD (.slice _ _ _) rfl) rfl rfl ?_
  have M1 := M0.dummy default
  refine aE (aF (aH (aB ?_)))
  refine aA (aD (.bool false) rfl) rfl rfl ?_
  refine aE (aF (aH (aH (aB ?_))))
  refine aA (aD (.int _ _) rfl) rfl rfl ?_
  refine aE (aF (aT ?_))
  refine dM (σ := Nat × Row) [0, 2, 3] (fun (k, q) => [(4, .slice q.A q.n q.c), (5, .bool ((xs.take k).any jS)), (6, .int .i64 (k : Int))]) (fun (k, q) w' => (k ≤ n ∧ bK 40 10 q.A q.n q.c (((xs.take k).map iQ).map aI) q.e) ∧ Mem w [] [q.e] w') (fun (k, q) => n - k) (0, gH) (bB rfl (bB (bv rfl rfl) (bB rfl dO))) (⟨⟨by omega, bK.nil _ _ _⟩, M1⟩) ?_
  rintro ⟨k, q⟩ ρ2 w2 ⟨⟨hk, hq⟩, hM2⟩
  have htl := List.length_take_le k xs
  have hqn : (xs.take k).length = q.n := by simpa using hq.1
  refine aH (aH (aB ?_))
  refine aA (aC (.int _ _) rfl) rfl rfl ?_
  refine aA (aC (.slice _ _ _) rfl) rfl rfl ?_
  refine aA (dE Tryz.underlying22 rfl) rfl rfl ?_
  refine aA (aN (.bool (decide _)) rfl rfl rfl) rfl rfl ?_
  refine aE (aF ?_)
  refine aX rfl (fun h12 => ?_) (fun h12 => ?_)
  · obtain ⟨xb, hxb⟩ := dA (xs := xs) (k := k) hlen (by omega)
    have hob := hb xb (List.mem_of_getElem? hxb)
    have hm := hob.m
    have hv := hob.v
    have hly := fA (xb.vy - 1024) (l := 16777216) (by decide)
    refine aO (aF (aH (aT (aH (aB ?_)))))
    refine aA (aC (.slice _ _ _) rfl) rfl rfl ?_
    refine aA (aC (.int _ _) rfl) rfl rfl ?_
    refine aA (bN (k) cW rfl rfl rfl ((R.mem hM2).below_len (aJ aI hxb)) ((R.mem hM2).someK (aJ aI hxb))) rfl rfl ?_
    refine aA (dG _ bP (R.mem hM2) (aJ aI hxb) rfl) rfl rfl ?_
    refine aV gG hM2 rfl rfl (fun b3 w3 M3 => ?_)
    refine bL 1 _ bP M3 rfl rfl rfl rfl rfl (bA rfl) rfl (fun w4 M4 => ?_)
    refine aE (aF (aH (aH (aB ?_))))
    refine aA (aG 4 eB rfl) rfl rfl ?_
    refine aA (aQ 1 (.int _ _) aW M4 rfl rfl rfl) rfl rfl ?_
    refine aA (aN (.bool (decide _)) rfl rfl rfl) rfl rfl ?_
    refine aE (aF ?_)
    refine aX rfl (fun h21 => ?_) (fun h21 => ?_)
    · have hms : xb.mass ≠ 0 := by omega
      have hgb : iQ xb = { xb with vy := gV (xb.vy - 1024) 16777216 } := by unfold iQ; rw [if_neg hms]
      refine aH (aB ?_)
      refine aA (aG 8 dN rfl) rfl rfl ?_
      refine aA (aG 1 cJ rfl) rfl rfl ?_
      refine aA (aQ 1 (.int _ _) aW M4 rfl rfl rfl) rfl rfl ?_
      refine aA (bC dJ Tryz.underlying2 rfl (eT _ (by omega) (by omega))) rfl rfl ?_
      refine aA (fC rfl rfl (by omega) (by omega)) rfl rfl ?_
      refine aA (aD (.int _ _) rfl) rfl rfl ?_
      refine aE (aF (aH (aB ?_)))
      refine aA (aC (.int _ _) rfl) rfl rfl ?_
      refine aM aFo rfl rfl rfl ?_
      refine (kN _ (xb.vy - 1024) 16777216 ⟨by decide, by decide⟩).mono ?_
      rintro _ w5 ⟨v5, rfl, ⟨rfl, hb5⟩⟩
      refine ⟨_, rfl, ?_⟩
      have M5 := M4.callB hb5
      refine aA (bC lD Tryz.underlying21 rfl (iF _ (by omega) (by omega))) rfl rfl ?_
      refine aA (aG 8 dN rfl) rfl rfl ?_
      refine aA (aG 1 cJ rfl) rfl rfl ?_
      refine cY 1 (.int _ _) aW M5 rfl rfl rfl rfl rfl rfl (fun w6 M6 => ?_)
      refine aE (aF (aB ?_))
      refine aA (aC (.bool _) rfl) rfl rfl ?_
      refine aA (aC (.bool _) rfl) rfl rfl ?_
      refine gK 33 _ rfl (fun g33 => ?_) (fun g33 => ?_)
      · refine aS rfl rfl ?_
        refine aS rfl rfl ?_
        refine aS rfl rfl ?_
        refine aS rfl rfl ?_
        refine aS rfl rfl ?_
        refine aS rfl rfl ?_
        refine aA (bQ true (.bool true) rfl rfl) rfl rfl ?_
        refine aA (aD (.bool true) rfl) rfl rfl ?_
        refine aE (aF (aB ?_))
        refine aA (aC (.slice _ _ _) rfl) rfl rfl ?_
        refine aA (aR 1 bP M6 rfl rfl rfl) rfl rfl ?_
        refine cR [.agg (List.toArray _)] [aI { xb with vy := gV (xb.vy - 1024) 16777216 }] rfl cW M6 rfl rfl rfl rfl (cZ rfl) (by decide) (fun b7 w7 M7 => ?_)
        refine dB 0 [aI { xb with vy := gV (xb.vy - 1024) 16777216 }] cW M7 rfl rfl rfl rfl rfl hq rfl (by simp [aI, Go.Bil.one]) (dD.ofMem 2 M7 rfl) (by omega) (fun A8 c8 e8 w8 M8 hR8 => ?_)
        rw [← hgb] at hR8
        refine aA (aD (.slice _ _ _) rfl) rfl rfl ?_
        refine aE ?_
        refine cS ?_
        refine aF (aB ?_)
        refine aA (aC (.int _ _) rfl) rfl rfl ?_
        refine aA (aZ rfl rfl (by omega) (by omega)) rfl rfl ?_
        refine aA (aD (.int _ _) rfl) rfl rfl ?_
        refine aE ?_
        refine cA (k + 1, ⟨A8, q.n + 1, c8, e8⟩) (bB rfl (bB (bv rfl (by rw [cE hxb, List.any_append, List.any_cons, List.any_nil, Bool.or_false]; rw [show jS xb = decide (gV (xb.vy - 1024) 16777216 ≠ xb.vy - 1024) by unfold jS; rw [decide_eq_true hms, Bool.true_and]]; rw [g33]; first | exact (Bool.true_or _).symm | exact (Bool.false_or _).symm)) (bB rfl dO))) (cD rfl (cD rfl (cD rfl fS))) ?_ ?_
        · exact ⟨⟨by omega, by rw [cE hxb, List.map_append, List.map_append]; exact hR8⟩, M8.keep [true, false, false]⟩
        · (show n - (k + 1) < n - k; omega)
      · refine aA (aG 8 dN rfl) rfl rfl ?_
        refine aA (aG 1 cJ rfl) rfl rfl ?_
        refine aA (aQ 1 (.int _ _) aW M6 rfl rfl rfl) rfl rfl ?_
        refine aA (bC dJ Tryz.underlying2 rfl (eT _ (by omega) (by omega))) rfl rfl ?_
        refine aA (aC (.int _ _) rfl) rfl rfl ?_
        refine aA (aN (.bool (decide _)) rfl rfl rfl) rfl rfl ?_
        refine aA (bQ false (.bool (decide _)) rfl rfl) rfl rfl ?_
        refine aA (aD (.bool (decide _)) rfl) rfl rfl ?_
        refine aE (aF (aB ?_))
        refine aA (aC (.slice _ _ _) rfl) rfl rfl ?_
        refine aA (aR 1 bP M6 rfl rfl rfl) rfl rfl ?_
        refine cR [.agg (List.toArray _)] [aI { xb with vy := gV (xb.vy - 1024) 16777216 }] rfl cW M6 rfl rfl rfl rfl (cZ rfl) (by decide) (fun b9 w9 M9 => ?_)
        refine dB 0 [aI { xb with vy := gV (xb.vy - 1024) 16777216 }] cW M9 rfl rfl rfl rfl rfl hq rfl (by simp [aI, Go.Bil.one]) (dD.ofMem 2 M9 rfl) (by omega) (fun A10 c10 e10 w10 M10 hR10 => ?_)
        rw [← hgb] at hR10
        refine aA (aD (.slice _ _ _) rfl) rfl rfl ?_
        refine aE ?_
        refine cS ?_
        refine aF (aB ?_)
        refine aA (aC (.int _ _) rfl) rfl rfl ?_
        refine aA (aZ rfl rfl (by omega) (by omega)) rfl rfl ?_
        refine aA (aD (.int _ _) rfl) rfl rfl ?_
        refine aE ?_
        refine cA (k + 1, ⟨A10, q.n + 1, c10, e10⟩) (bB rfl (bB (bv rfl (by rw [cE hxb, List.any_append, List.any_cons, List.any_nil, Bool.or_false]; rw [show jS xb = decide (gV (xb.vy - 1024) 16777216 ≠ xb.vy - 1024) by unfold jS; rw [decide_eq_true hms, Bool.true_and]]; rw [g33]; first | exact (Bool.true_or _).symm | exact (Bool.false_or _).symm)) (bB rfl dO))) (cD rfl (cD rfl (cD rfl fS))) ?_ ?_
        · exact ⟨⟨by omega, by rw [cE hxb, List.map_append, List.map_append]; exact hR10⟩, M10.keep [true, false, false]⟩
        · (show n - (k + 1) < n - k; omega)
    · have hms : ¬ xb.mass ≠ 0 := by omega
      have hgb : iQ xb = xb := by unfold iQ; rw [if_pos (by omega)]
      refine aO (aF (aB ?_))
      refine aA (aC (.slice _ _ _) rfl) rfl rfl ?_
      refine aA (aR 1 bP M4 rfl rfl rfl) rfl rfl ?_
      refine cR [.agg (List.toArray _)] [aI xb] rfl cW M4 rfl rfl rfl rfl (cZ rfl) (by decide) (fun b11 w11 M11 => ?_)
      refine dB 0 [aI xb] cW M11 rfl rfl rfl rfl rfl hq rfl (by simp [aI, Go.Bil.one]) (dD.ofMem 2 M11 rfl) (by omega) (fun A12 c12 e12 w12 M12 hR12 => ?_)
      rw [← hgb] at hR12
      refine aA (aD (.slice _ _ _) rfl) rfl rfl ?_
      refine aE ?_
      refine cS ?_
      refine aF (aB ?_)
      refine aA (aC (.int _ _) rfl) rfl rfl ?_
      refine aA (aZ rfl rfl (by omega) (by omega)) rfl rfl ?_
      refine aA (aD (.int _ _) rfl) rfl rfl ?_
      refine aE ?_
      refine cA (k + 1, ⟨A12, q.n + 1, c12, e12⟩) (bB rfl (bB (bv rfl (by rw [cE hxb, List.any_append, List.any_cons, List.any_nil, Bool.or_false]; rw [show jS xb = false by unfold jS; rw [decide_eq_false hms, Bool.false_and], Bool.or_false])) (bB rfl dO))) (cD rfl (cD rfl (cD rfl fS))) ?_ ?_
      · exact ⟨⟨by omega, by rw [cE hxb, List.map_append, List.map_append]; exact hR12⟩, M12.keep [true, false, false]⟩
      · (show n - (k + 1) < n - k; omega)
  · have hkn : k = n := by omega
    rw [List.take_of_length_le (by omega)] at hq
    refine cQ ?_
    refine cX ?_
    refine dF ?_
    refine eJ ?_
    refine aF (aH (aB ?_))
    refine aA (aC (.slice _ _ _) rfl) rfl rfl ?_
    refine aA (aC (.bool _) rfl) rfl rfl ?_
    refine aA (aD (.slice _ _ _) rfl) rfl rfl ?_
    refine aA (aD (.bool _) rfl) rfl rfl ?_
    refine aE (aF (aU ?_))
    refine fR (.slice _ _ _) (.bool _) rfl rfl ?_
    exact ⟨q, oA rfl (congrArg Value.bool (by rw [List.take_of_length_le (by omega)])), hq, hM2⟩
end Go.Proofs.YtlmcphcgiclanaaGreatDoor

namespace Go.Proofs.YtlmcphcgiclanaaGreatDoor
open Go.Bil
open Go.RowKit (Below)
open Go.Proofs
theorem bAj {a b c a' b' c' : Value} (h1 : a = a') (h2 : b = b') (h3 : c = c') : Value.tuple #[a, b, c] = Value.tuple #[a', b', c'] := by rw [h1, h2, h3]
theorem xP (xs : List Body) : qQ xs = ((xs.any jS || (fL (lX xs) (jG xs) 4).2) || aJz xs (jG xs) (jC xs)) := rfl
set_option maxHeartbeats 8000000 in
theorem aHw (w : World) (A : Option Addr) (n c : Nat) (xs : List Body) (R : Rd w 10 A n (xs.map aI)) (hb : ∀ b ∈ xs, Okb b) (hn : n ≤ 1048576) (G : Body → Int × Int) (hG : ∀ b ∈ xs, (-1152921504606846976 ≤ (G b).1 ∧ (G b).1 ≤ 1152921504606846976) ∧ -1152921504606846976 ≤ (G b).2 ∧ (G b).2 ≤ 1152921504606846976) (C : Option Addr) (cm : Nat) (RS : Rd w 2 C n ((xs.map G).map bU)) :
    Calls Tryz.prog 47 #[.slice A n c, .slice C n cm] w (fun ex w' => ∃ v, ex = .returned v ∧ (fun v w' => ∃ r : Row, v = .tuple #[.slice r.A r.n r.c, .bool (xs.any (fun b => yT b (G b).1 (G b).2))] ∧ bK 40 10 r.A r.n r.c ((xs.map (fun b => mM b (G b).1 (G b).2)).map aI) r.e ∧ Mem w [] [r.e] w') v w') := by
  have hlen : xs.length = n := by simpa using R.len
  have hbd := R.bound
  refine aL #[.tmp 4, .tmp 5] 85 Tryz.func47 rfl Tryz.results47 Tryz.ntmps47 rfl ?_
  have M0 := Mem.refl w
  refine aH (aB ?_)
  refine aA (aD (.slice _ _ _) rfl) rfl rfl ?_
  refine aA (aD (.bool false) rfl) rfl rfl ?_
  refine aE (aF (aH (aB ?_)))
  refine aA (aD (.slice _ _ _) rfl) rfl rfl ?_
  have M1 := M0.dummy default
  refine aE (aF (aH (aB ?_)))
  refine aA (aD (.bool false) rfl) rfl rfl ?_
  refine aE (aF (aH (aH (aB ?_))))
  refine aA (aD (.int _ _) rfl) rfl rfl ?_
  refine aE (aF (aT ?_))
  refine dM (σ := Nat × Row) [0, 1, 4, 5] (fun (k, q) => [(6, .slice q.A q.n q.c), (7, .bool ((xs.take k).any (fun b => yT b (G b).1 (G b).2))), (8, .int .i64 (k : Int))]) (fun (k, q) w' => (k ≤ n ∧ bK 40 10 q.A q.n q.c (((xs.take k).map (fun b => mM b (G b).1 (G b).2)).map aI) q.e) ∧ Mem w [] [q.e] w') (fun (k, q) => n - k) (0, gH) (bB rfl (bB (bv rfl rfl) (bB rfl dO))) (⟨⟨by omega, bK.nil _ _ _⟩, M1⟩) ?_
  rintro ⟨k, q⟩ ρ2 w2 ⟨⟨hk, hq⟩, hM2⟩
  have htl := List.length_take_le k xs
  have hqn : (xs.take k).length = q.n := by simpa using hq.1
  refine aH (aH (aB ?_))
  refine aA (aC (.int _ _) rfl) rfl rfl ?_
  refine aA (aC (.slice _ _ _) rfl) rfl rfl ?_
  refine aA (dE Tryz.underlying22 rfl) rfl rfl ?_
  refine aA (aN (.bool (decide _)) rfl rfl rfl) rfl rfl ?_
  refine aE (aF ?_)
  refine aX rfl (fun h15 => ?_) (fun h15 => ?_)
  · obtain ⟨xb, hxb⟩ := dA (xs := xs) (k := k) hlen (by omega)
    have hxm := List.mem_of_getElem? hxb
    have hob := hb xb hxm
    have hv := hob.v
    have hpx := hob.p
    have hgb := hG xb hxm
    have hlx := fA (zA xb (G xb).1) (l := 1073741824) (by decide)
    have hly := fA (yW xb (G xb).2) (l := 1073741824) (by decide)
    refine aO (aF (aH (aT (aH (aB ?_)))))
    refine aA (aC (.slice _ _ _) rfl) rfl rfl ?_
    refine aA (aC (.int _ _) rfl) rfl rfl ?_
    refine aA (bN (k) cW rfl rfl rfl ((R.mem hM2).below_len (aJ aI hxb)) ((R.mem hM2).someK (aJ aI hxb))) rfl rfl ?_
    refine aA (dG _ bP (R.mem hM2) (aJ aI hxb) rfl) rfl rfl ?_
    refine aV gG hM2 rfl rfl (fun b3 w3 M3 => ?_)
    refine bL 1 _ bP M3 rfl rfl rfl rfl rfl (bA rfl) rfl (fun w4 M4 => ?_)
    refine aE (aF (aH ?_))
    refine bY [(0, 0), (1, 0), (2, 1), (3, 0), (4, 0), (5, 0), (6, 1), (7, 1), (8, 1), (9, 0), (10, 0), (11, 0), (12, 1), (13, 0), (14, 2), (15, 0), (16, 0)] mixed rfl (by kernel_rfl) (fun w5 hb5 hh5 => ?_)
    have M5 := M4.drew hb5 hh5
    refine aP rfl rfl rfl (fun _ => aG 6 eO rfl) ?_
    refine aP rfl rfl rfl (fun _ => aG 0 cN rfl) ?_
    refine cB rfl rfl rfl (aQ 1 (.int _ _) aW M5 rfl rfl rfl) ?_
    refine aP rfl rfl rfl (fun _ => bC dJ Tryz.underlying2 rfl (eT _ (by omega) (by omega))) ?_
    refine aP rfl rfl rfl (fun _ => aC (.slice _ _ _) rfl) ?_
    refine aP rfl rfl rfl (fun _ => aC (.int _ _) rfl) ?_
    refine cB rfl rfl rfl (bN (k) aLa rfl rfl rfl ((RS.mem M5).below_len (aJ bU (aJ G hxb))) ((RS.mem M5).someK (aJ bU (aJ G hxb)))) ?_
    refine cB rfl rfl rfl (bG 0 iV (RS.mem M5) (Nat.lt_of_le_of_lt (Nat.zero_le _) ((RS.mem M5).below_len (aJ bU (aJ G hxb)))) rfl) ?_
    refine cB rfl rfl rfl (dR (o := 0) (.int _ _) gA (RS.mem M5) (aJ bU (aJ G hxb)) rfl rfl) ?_
    refine aP rfl rfl rfl (fun _ => aZ rfl rfl (by omega) (by omega)) ?_
    refine aP rfl rfl rfl (fun _ => aG 8 dN rfl) ?_
    refine aP rfl rfl rfl (fun _ => aG 0 cN rfl) ?_
    refine cB rfl rfl rfl (aQ 1 (.int _ _) aW M5 rfl rfl rfl) ?_
    refine aP rfl rfl rfl (fun _ => bC dJ Tryz.underlying2 rfl (eT _ (by omega) (by omega))) ?_
    refine eN [true, false, false, false, false] rfl (by kernel_rfl) ?_
    refine aM mK rfl rfl rfl ?_
    refine (eI _ xb.vx 64 (by decide) (by omega) (by omega)).mono ?_
    rintro _ w6 ⟨v6, rfl, ⟨rfl, hb6⟩⟩
    refine ⟨_, rfl, ?_⟩
    have M6 := M5.callB hb6
    refine aE (aF ⟨(fH (cF rfl (dR (o := 0) (.int _ _) gA (RS.mem M6) (aJ bU (aJ G hxb)) rfl rfl)) (fH (cF rfl (bG 0 iV (RS.mem M6) (Nat.lt_of_le_of_lt (Nat.zero_le _) ((RS.mem M6).below_len (aJ bU (aJ G hxb)))) rfl)) (fH (cF rfl (bN (k) aLa rfl rfl rfl ((RS.mem M6).below_len (aJ bU (aJ G hxb))) ((RS.mem M6).someK (aJ bU (aJ G hxb))))) (fH (cF rfl (aQ 1 (.int _ _) aW M6 rfl rfl rfl)) eM)))), ?_⟩)
    refine aP rfl rfl rfl (fun _ => aZ rfl rfl (by omega) (by omega)) ?_
    refine eG 37 (.int .i64 (zA xb (G xb).1)) rfl ?_
    refine aP rfl rfl rfl (fun _ => aD (.int _ _) rfl) ?_
    refine cI ?_
    refine aF (aH ?_)
    refine bY [(0, 0), (1, 0), (2, 1), (3, 0), (4, 0), (5, 0), (6, 1), (7, 1), (8, 1), (9, 0), (10, 0), (11, 0), (12, 1), (13, 0), (14, 2), (15, 0), (16, 0)] mixed rfl (by kernel_rfl) (fun w7 hb7 hh7 => ?_)
    have M7 := M6.drew hb7 hh7
    refine aP rfl rfl rfl (fun _ => aG 6 eO rfl) ?_
    refine aP rfl rfl rfl (fun _ => aG 1 cJ rfl) ?_
    refine cB rfl rfl rfl (aQ 1 (.int _ _) aW M7 rfl rfl rfl) ?_
    refine aP rfl rfl rfl (fun _ => bC dJ Tryz.underlying2 rfl (eT _ (by omega) (by omega))) ?_
    refine aP rfl rfl rfl (fun _ => aC (.slice _ _ _) rfl) ?_
    refine aP rfl rfl rfl (fun _ => aC (.int _ _) rfl) ?_
    refine cB rfl rfl rfl (bN (k) aLa rfl rfl rfl ((RS.mem M7).below_len (aJ bU (aJ G hxb))) ((RS.mem M7).someK (aJ bU (aJ G hxb)))) ?_
    refine cB rfl rfl rfl (bG 1 iX (RS.mem M7) (Nat.lt_of_le_of_lt (Nat.zero_le _) ((RS.mem M7).below_len (aJ bU (aJ G hxb)))) rfl) ?_
    refine cB rfl rfl rfl (dR (o := 1) (.int _ _) gA (RS.mem M7) (aJ bU (aJ G hxb)) rfl rfl) ?_
    refine aP rfl rfl rfl (fun _ => aZ rfl rfl (by omega) (by omega)) ?_
    refine aP rfl rfl rfl (fun _ => aG 8 dN rfl) ?_
    refine aP rfl rfl rfl (fun _ => aG 1 cJ rfl) ?_
    refine cB rfl rfl rfl (aQ 1 (.int _ _) aW M7 rfl rfl rfl) ?_
    refine aP rfl rfl rfl (fun _ => bC dJ Tryz.underlying2 rfl (eT _ (by omega) (by omega))) ?_
    refine eN [true, false, false, false, false] rfl (by kernel_rfl) ?_
    refine aM mK rfl rfl rfl ?_
    refine (eI _ xb.vy 64 (by decide) (by omega) (by omega)).mono ?_
    rintro _ w8 ⟨v8, rfl, ⟨rfl, hb8⟩⟩
    refine ⟨_, rfl, ?_⟩
    have M8 := M7.callB hb8
    refine aE (aF ⟨(fH (cF rfl (dR (o := 1) (.int _ _) gA (RS.mem M8) (aJ bU (aJ G hxb)) rfl rfl)) (fH (cF rfl (bG 1 iX (RS.mem M8) (Nat.lt_of_le_of_lt (Nat.zero_le _) ((RS.mem M8).below_len (aJ bU (aJ G hxb)))) rfl)) (fH (cF rfl (bN (k) aLa rfl rfl rfl ((RS.mem M8).below_len (aJ bU (aJ G hxb))) ((RS.mem M8).someK (aJ bU (aJ G hxb))))) (fH (cF rfl (aQ 1 (.int _ _) aW M8 rfl rfl rfl)) eM)))), ?_⟩)
    refine aP rfl rfl rfl (fun _ => aZ rfl rfl (by omega) (by omega)) ?_
    refine eG 53 (.int .i64 (yW xb (G xb).2)) rfl ?_
    refine aP rfl rfl rfl (fun _ => aD (.int _ _) rfl) ?_
    refine cI ?_
    refine aF (aH (aB ?_))
    refine aA (aC (.int _ _) rfl) rfl rfl ?_
    refine aM aFo rfl rfl rfl ?_
    refine (kN _ (zA xb (G xb).1) 1073741824 ⟨by decide, by decide⟩).mono ?_
    rintro _ w9 ⟨v9, rfl, ⟨rfl, hb9⟩⟩
    refine ⟨_, rfl, ?_⟩
    have M9 := M8.callB hb9
    refine aA (bC lD Tryz.underlying21 rfl (iF _ (by omega) (by omega))) rfl rfl ?_
    refine aA (aC (.int _ _) rfl) rfl rfl ?_
    refine aM aFo rfl rfl rfl ?_
    refine (kN _ (yW xb (G xb).2) 1073741824 ⟨by decide, by decide⟩).mono ?_
    rintro _ w10 ⟨v10, rfl, ⟨rfl, hb10⟩⟩
    refine ⟨_, rfl, ?_⟩
    have M10 := M9.callB hb10
    refine aA (bC lD Tryz.underlying21 rfl (iF _ (by omega) (by omega))) rfl rfl ?_
    refine aA (cL [(0, .int _ _), (1, .int _ _)] _ dW rfl rfl) rfl rfl ?_
    refine aA (aG 6 eO rfl) rfl rfl ?_
    refine tY 1 _ bE M10 rfl rfl rfl rfl rfl (bA rfl) (Nat.le_of_ble_eq_true rfl) (fun w11 M11 => ?_)
    refine aE (aF (aH (aB ?_)))
    refine aA (aC (.bool _) rfl) rfl rfl ?_
    refine aA (aC (.bool _) rfl) rfl rfl ?_
    refine gK 63 _ rfl (fun g63 => ?_) (fun g63 => ?_)
    · refine aS rfl rfl ?_
      refine aS rfl rfl ?_
      refine aS rfl rfl ?_
      refine aS rfl rfl ?_
      refine aS rfl rfl ?_
      refine aS rfl rfl ?_
      refine aA (bQ true (.bool true) rfl rfl) rfl rfl ?_
      refine aA (aC (.bool true) rfl) rfl rfl ?_
      refine aS rfl rfl ?_
      refine aS rfl rfl ?_
      refine aS rfl rfl ?_
      refine aS rfl rfl ?_
      refine aS rfl rfl ?_
      refine aS rfl rfl ?_
      refine aA (bQ true (.bool true) rfl rfl) rfl rfl ?_
      refine aA (aD (.bool true) rfl) rfl rfl ?_
      refine aE (aF (aB ?_))
      refine aA (aC (.slice _ _ _) rfl) rfl rfl ?_
      refine aA (aR 1 bP M11 rfl rfl rfl) rfl rfl ?_
      refine cR [.agg (List.toArray _)] [aI (mM xb (G xb).1 (G xb).2)] rfl cW M11 rfl rfl rfl rfl (cZ rfl) (by decide) (fun b12 w12 M12 => ?_)
      refine dB 0 [aI (mM xb (G xb).1 (G xb).2)] cW M12 rfl rfl rfl rfl rfl hq rfl (by simp [aI, Go.Bil.one]) (dD.ofMem 2 M12 rfl) (by omega) (fun A13 c13 e13 w13 M13 hR13 => ?_)
      refine aA (aD (.slice _ _ _) rfl) rfl rfl ?_
      refine aE ?_
      refine cS ?_
      refine aF (aB ?_)
      refine aA (aC (.int _ _) rfl) rfl rfl ?_
      refine aA (aZ rfl rfl (by omega) (by omega)) rfl rfl ?_
      refine aA (aD (.int _ _) rfl) rfl rfl ?_
      refine aE ?_
      refine cA (k + 1, ⟨A13, q.n + 1, c13, e13⟩) (bB rfl (bB (bv rfl (by rw [cE hxb, List.any_append, List.any_cons, List.any_nil, Bool.or_false]; rw [g63, Bool.true_or])) (bB rfl dO))) (cD rfl (cD rfl (cD rfl (cD rfl fS)))) ?_ ?_
      · exact ⟨⟨by omega, by rw [cE hxb, List.map_append, List.map_append]; exact hR13⟩, M13.keep [true, false, false]⟩
      · (show n - (k + 1) < n - k; omega)
    · refine aA (aG 6 eO rfl) rfl rfl ?_
      refine aA (aG 0 cN rfl) rfl rfl ?_
      refine aA (aQ 1 (.int _ _) aW M11 rfl rfl rfl) rfl rfl ?_
      refine aA (bC dJ Tryz.underlying2 rfl (eT _ (by omega) (by omega))) rfl rfl ?_
      refine aA (aC (.int _ _) rfl) rfl rfl ?_
      refine aA (aN (.bool (decide _)) rfl rfl rfl) rfl rfl ?_
      refine aA (bQ false (.bool (decide _)) rfl rfl) rfl rfl ?_
      refine aA (aC (.bool (decide _)) rfl) rfl rfl ?_
      refine dT 71 rfl (fun g71 => ?_) (fun g71 => ?_)
      · refine aS rfl rfl ?_
        refine aS rfl rfl ?_
        refine aS rfl rfl ?_
        refine aS rfl rfl ?_
        refine aS rfl rfl ?_
        refine aS rfl rfl ?_
        refine aA (bQ true (.bool true) rfl rfl) rfl rfl ?_
        refine aA (aD (.bool true) rfl) rfl rfl ?_
        refine aE (aF (aB ?_))
        refine aA (aC (.slice _ _ _) rfl) rfl rfl ?_
        refine aA (aR 1 bP M11 rfl rfl rfl) rfl rfl ?_
        refine cR [.agg (List.toArray _)] [aI (mM xb (G xb).1 (G xb).2)] rfl cW M11 rfl rfl rfl rfl (cZ rfl) (by decide) (fun b14 w14 M14 => ?_)
        refine dB 0 [aI (mM xb (G xb).1 (G xb).2)] cW M14 rfl rfl rfl rfl rfl hq rfl (by simp [aI, Go.Bil.one]) (dD.ofMem 2 M14 rfl) (by omega) (fun A15 c15 e15 w15 M15 hR15 => ?_)
        refine aA (aD (.slice _ _ _) rfl) rfl rfl ?_
        refine aE ?_
        refine cS ?_
        refine aF (aB ?_)
        refine aA (aC (.int _ _) rfl) rfl rfl ?_
        refine aA (aZ rfl rfl (by omega) (by omega)) rfl rfl ?_
        refine aA (aD (.int _ _) rfl) rfl rfl ?_
        refine aE ?_
        refine cA (k + 1, ⟨A15, q.n + 1, c15, e15⟩) (bB rfl (bB (bv rfl (by rw [cE hxb, List.any_append, List.any_cons, List.any_nil, Bool.or_false]; rw [g63]; simp [yT, g71])) (bB rfl dO))) (cD rfl (cD rfl (cD rfl (cD rfl fS)))) ?_ ?_
        · exact ⟨⟨by omega, by rw [cE hxb, List.map_append, List.map_append]; exact hR15⟩, M15.keep [true, false, false]⟩
        · (show n - (k + 1) < n - k; omega)
      · refine aA (aG 6 eO rfl) rfl rfl ?_
        refine aA (aG 1 cJ rfl) rfl rfl ?_
        refine aA (aQ 1 (.int _ _) aW M11 rfl rfl rfl) rfl rfl ?_
        refine aA (bC dJ Tryz.underlying2 rfl (eT _ (by omega) (by omega))) rfl rfl ?_
        refine aA (aC (.int _ _) rfl) rfl rfl ?_
        refine aA (aN (.bool (decide _)) rfl rfl rfl) rfl rfl ?_
        refine aA (bQ false (.bool (decide _)) rfl rfl) rfl rfl ?_
        refine aA (aD (.bool (decide _)) rfl) rfl rfl ?_
        refine aE (aF (aB ?_))
        refine aA (aC (.slice _ _ _) rfl) rfl rfl ?_
        refine aA (aR 1 bP M11 rfl rfl rfl) rfl rfl ?_
        refine cR [.agg (List.toArray _)] [aI (mM xb (G xb).1 (G xb).2)] rfl cW M11 rfl rfl rfl rfl (cZ rfl) (by decide) (fun b16 w16 M16 => ?_)
        refine dB 0 [aI (mM xb (G xb).1 (G xb).2)] cW M16 rfl rfl rfl rfl rfl hq rfl (by simp [aI, Go.Bil.one]) (dD.ofMem 2 M16 rfl) (by omega) (fun A17 c17 e17 w17 M17 hR17 => ?_)
        refine aA (aD (.slice _ _ _) rfl) rfl rfl ?_
        refine aE ?_
        refine cS ?_
        refine aF (aB ?_)
        refine aA (aC (.int _ _) rfl) rfl rfl ?_
        refine aA (aZ rfl rfl (by omega) (by omega)) rfl rfl ?_
        refine aA (aD (.int _ _) rfl) rfl rfl ?_
        refine aE ?_
        refine cA (k + 1, ⟨A17, q.n + 1, c17, e17⟩) (bB rfl (bB (bv rfl (by rw [cE hxb, List.any_append, List.any_cons, List.any_nil, Bool.or_false]; rw [g63]; simp [yT, g71])) (bB rfl dO))) (cD rfl (cD rfl (cD rfl (cD rfl fS)))) ?_ ?_
        · exact ⟨⟨by omega, by rw [cE hxb, List.map_append, List.map_append]; exact hR17⟩, M17.keep [true, false, false]⟩
        · (show n - (k + 1) < n - k; omega)
  · have hkn : k = n := by omega
    rw [List.take_of_length_le (by omega)] at hq
    refine cQ ?_
    refine cX ?_
    refine dF ?_
    refine eJ ?_
    refine aF (aH (aB ?_))
    refine aA (aC (.slice _ _ _) rfl) rfl rfl ?_
    refine aA (aC (.bool _) rfl) rfl rfl ?_
    refine aA (aD (.slice _ _ _) rfl) rfl rfl ?_
    refine aA (aD (.bool _) rfl) rfl rfl ?_
    refine aE (aF (aU ?_))
    refine fR (.slice _ _ _) (.bool _) rfl rfl ?_
    exact ⟨q, oA rfl (congrArg Value.bool (by rw [List.take_of_length_le (by omega)])), hq, hM2⟩
set_option maxHeartbeats 8000000 in
theorem aIg (w : World) (A : Option Addr) (n c : Nat) (xs : List Body) (R : Rd w 10 A n (xs.map aI)) (hb : ∀ b ∈ xs, Okb b) (hs : cG xs) (hn : n ≤ 4096) :
    Calls Tryz.prog 17 #[.slice A n c] w (fun ex w' => ∃ v, ex = .returned v ∧ (fun v w' => ∃ r : Row, v = .tuple #[.slice r.A r.n r.c, .int .i64 ((jG xs).length : Int), .bool (qQ xs)] ∧ bK 40 10 r.A r.n r.c ((oT xs).map aI) r.e ∧ Mem w [] [r.e] w') v w') := by
  have hlen : xs.length = n := by simpa using R.len
  have hnn : xs.length * xs.length ≤ 4096 * 4096 := Nat.mul_le_mul (by omega) (by omega)
  have hcl := yG xs
  have hsq := aJm (xs := xs)
  refine aL #[.tmp 2, .tmp 3, .tmp 4] 43 Tryz.func17 rfl Tryz.results17 Tryz.ntmps17 rfl ?_
  have M0 := Mem.refl w
  refine aH (aB ?_)
  refine aA (aD (.slice _ _ _) rfl) rfl rfl ?_
  refine aA (aD (.int _ _) rfl) rfl rfl ?_
  refine aA (aD (.bool false) rfl) rfl rfl ?_
  refine aE (aF (aH (aB ?_)))
  refine aA (aC (.slice _ _ _) rfl) rfl rfl ?_
  refine aM bCm rfl rfl rfl ?_
  refine (aLw _ _ _ _ xs (R.mem M0) hb hs (by first | decide | omega)).mono ?_
  rintro _ w1 ⟨v1, rfl, ⟨r, rfl, hr, hM1⟩⟩
  refine ⟨_, rfl, ?_⟩
  have M1 : Mem _ _ [_] _ := M0.call0 hM1
  have hrn : (jG xs).length = r.n := by simpa using hr.1
  refine aA (aD (.slice _ _ _) rfl) rfl rfl ?_
  refine aE (aF (aH (aB ?_)))
  refine aA (aC (.slice _ _ _) rfl) rfl rfl ?_
  refine aM bBl rfl rfl rfl ?_
  refine (zL _ A n c xs (R.mem M1) hb (by omega)).mono ?_
  rintro _ w2 ⟨v2, rfl, ⟨g, rfl, hg, hM2⟩⟩
  refine ⟨_, rfl, ?_⟩
  have M2 : Mem _ _ [_, _] _ := M1.call0 hM2
  have hgn : (lX xs).length = g.n := by simpa using hg.1
  have hgl := (iP xs).len
  refine aA (aC (.tuple (List.toArray _)) rfl) rfl rfl ?_
  refine aA (bI (.slice _ _ _) rfl rfl) rfl rfl ?_
  refine aA (bI (.bool _) rfl rfl) rfl rfl ?_
  refine aA (aD (.slice _ _ _) rfl) rfl rfl ?_
  refine aA (aD (.bool _) rfl) rfl rfl ?_
  refine aE (aF (aH (aB ?_)))
  refine aA (aC (.slice _ _ _) rfl) rfl rfl ?_
  refine aA (aC (.slice _ _ _) rfl) rfl rfl ?_
  refine aM bCq rfl rfl rfl ?_
  refine (aEq _ g.A g.n g.c (lX xs) (hg.rd M2 (bH (i := 1) rfl)) ((iP xs).sorted hs) (sR hb) (by omega) r.A r.n r.c (jG xs) (hr.rd M2 (bH (i := 0) rfl)) (fun c h => (iP xs).okc (nB hs hb c h)) (by omega)).mono ?_
  rintro _ w3 ⟨v3, rfl, ⟨⟨sA, sn, sc, se⟩, rfl, hsv, hM3⟩⟩
  refine ⟨_, rfl, ?_⟩
  have hsn : (jC xs).length = sn := by have h := hsv.1; rwa [List.length_map] at h
  have hlk : Like xs (jC xs) := (iP xs).trans (gB _ _ 4)
  have hsl := hlk.len
  obtain rfl : n = sn := by omega
  have M3 : Mem _ _ [_, _, _] _ := M2.call0 hM3
  refine aA (aC (.tuple (List.toArray _)) rfl) rfl rfl ?_
  refine aA (bI (.slice _ _ _) rfl rfl) rfl rfl ?_
  refine aA (bI (.bool _) rfl rfl) rfl rfl ?_
  refine aA (aD (.slice _ _ _) rfl) rfl rfl ?_
  refine aA (aD (.bool _) rfl) rfl rfl ?_
  refine aE (aF (aH (aB ?_)))
  refine aA (aC (.slice _ _ _) rfl) rfl rfl ?_
  refine aA (aC (.slice _ _ _) rfl) rfl rfl ?_
  refine aA (aC (.slice _ _ _) rfl) rfl rfl ?_
  refine aM bBh rfl rfl rfl ?_
  refine (aCe _ A n c xs (R.mem M3) hs hb (by omega) r.A r.n r.c (jG xs) (hr.rd M3 (bH (i := 0) rfl)) (nB hs hb) (by omega)).mono ?_
  rintro _ w4 ⟨v4, rfl, ⟨⟨qA, qn, qc, qe⟩, rfl, hq, hM4⟩⟩
  refine ⟨_, rfl, ?_⟩
  have hqn : xs.length = qn := by simpa using hq.1
  obtain rfl : n = qn := by omega
  rw [xJ hlk] at hq
  have M4 : Mem _ _ [_, _, _, _] _ := M3.call0 hM4
  refine aM bBb rfl rfl rfl ?_
  refine (aHw _ sA n sc (jC xs) (hsv.rd M4 (bH (i := 2) rfl)) (mX (sR hb) 4) (by omega) (gY xs (jG xs)) (aJu hs hb (nB hs hb) (by omega) hlk) qA qc (hq.rd M4 (bH (i := 3) rfl))).mono ?_
  rintro _ w5 ⟨v5, rfl, ⟨m, rfl, hm, hM5⟩⟩
  refine ⟨_, rfl, ?_⟩
  have M5 : Mem _ _ [_, _, _, _, _] _ := M4.call0 hM5
  refine aA (aC (.tuple (List.toArray _)) rfl) rfl rfl ?_
  refine aA (bI (.slice _ _ _) rfl rfl) rfl rfl ?_
  refine aA (bI (.bool _) rfl rfl) rfl rfl ?_
  refine aA (aD (.slice _ _ _) rfl) rfl rfl ?_
  refine aA (aD (.bool _) rfl) rfl rfl ?_
  refine aE (aF (aH (aB ?_)))
  refine aA (aC (.slice _ _ _) rfl) rfl rfl ?_
  refine aA (aC (.slice _ _ _) rfl) rfl rfl ?_
  refine aA (dE Tryz.underlying82 rfl) rfl rfl ?_
  refine aA (aC (.bool _) rfl) rfl rfl ?_
  refine aA (aC (.bool _) rfl) rfl rfl ?_
  refine gK 37 _ rfl (fun g37 => ?_) (fun g37 => ?_)
  · refine aS rfl rfl ?_
    refine aA (bQ true (.bool true) rfl rfl) rfl rfl ?_
    refine aA (aC (.bool true) rfl) rfl rfl ?_
    refine aS rfl rfl ?_
    refine aA (bQ true (.bool true) rfl rfl) rfl rfl ?_
    refine aA (aD (.slice _ _ _) rfl) rfl rfl ?_
    refine aA (aD (.int _ _) rfl) rfl rfl ?_
    refine aA (aD (.bool true) rfl) rfl rfl ?_
    refine aE (aF (aU ?_))
    refine aSu (.slice _ _ _) (.int _ _) (.bool true) rfl rfl rfl ?_
    exact ⟨m, bAj rfl (iE (by rw [hrn])) (congrArg Value.bool (by rw [xP]; first | (simp only [g37, Bool.true_or]; done) | (simp only [g37, g40, Bool.false_or, Bool.true_or]; done) | (rw [g37, g40]; rfl))), hm, M5.keep [false, false, false, false, true]⟩
  · refine aA (aC (.bool _) rfl) rfl rfl ?_
    refine aA (bQ false (.bool _) rfl rfl) rfl rfl ?_
    refine aA (aC (.bool _) rfl) rfl rfl ?_
    refine gK 40 _ rfl (fun g40 => ?_) (fun g40 => ?_)
    · refine aS rfl rfl ?_
      refine aA (bQ true (.bool true) rfl rfl) rfl rfl ?_
      refine aA (aD (.slice _ _ _) rfl) rfl rfl ?_
      refine aA (aD (.int _ _) rfl) rfl rfl ?_
      refine aA (aD (.bool true) rfl) rfl rfl ?_
      refine aE (aF (aU ?_))
      refine aSu (.slice _ _ _) (.int _ _) (.bool true) rfl rfl rfl ?_
      exact ⟨m, bAj rfl (iE (by rw [hrn])) (congrArg Value.bool (by rw [xP]; first | (simp only [g37, Bool.true_or]; done) | (simp only [g37, g40, Bool.false_or, Bool.true_or]; done) | (rw [g37, g40]; rfl))), hm, M5.keep [false, false, false, false, true]⟩
    · refine aA (aC (.bool _) rfl) rfl rfl ?_
      refine aA (bQ false (.bool _) rfl rfl) rfl rfl ?_
      refine aA (aD (.slice _ _ _) rfl) rfl rfl ?_
      refine aA (aD (.int _ _) rfl) rfl rfl ?_
      refine aA (aD (.bool _) rfl) rfl rfl ?_
      refine aE (aF (aU ?_))
      refine aSu (.slice _ _ _) (.int _ _) (.bool _) rfl rfl rfl ?_
      exact ⟨m, bAj rfl (iE (by rw [hrn])) (congrArg Value.bool (by rw [xP]; first | (simp only [g37, Bool.true_or]; done) | (simp only [g37, g40, Bool.false_or, Bool.true_or]; done) | (rw [g37, g40]; rfl))), hm, M5.keep [false, false, false, false, true]⟩
end Go.Proofs.YtlmcphcgiclanaaGreatDoor

namespace Go.Proofs.YtlmcphcgiclanaaGreatDoor
open Go.Bil
open Go.RowKit (Below)
open Go.Proofs
theorem aSg {T dd : Nat} {a b : Bool} {w : World} (hu : Tryz.prog.underlying T = some .bool) : (Op.equalIn (dd + 1) T (.bool a) (.bool b)).run Tryz.prog w = .ok (decide (a = b)) w := by
  simp [Op.equalIn, underlying, hu]
  cases a <;> cases b <;> rfl
theorem bBd (x0 x1 y0 y1 : Int) (x2 y2 : Bool) : EqA Tryz.prog 27 [.int .i64 x0, .int .i64 x1, .bool x2] [.int .i64 y0, .int .i64 y1, .bool y2] (decide (x0 = y0 ∧ x1 = y1 ∧ x2 = y2)) := ⟨by kernel_rfl, fun w => by
  have h := pK (P := Tryz.prog) (T := 27) (dd := 9998 + 1) (xs := [.int .i64 x0, .int .i64 x1, .bool x2]) (ys := [.int .i64 y0, .int .i64 y1, .bool y2]) (w := w) Tryz.underlying27 (by kernel_rfl) (fV rfl (gW lM rfl) (gW lM rfl) (mO (dd := 9998) Tryz.underlying3) (fV rfl (gW lM rfl) (gW lM rfl) (mO (dd := 9998) Tryz.underlying3) (fV rfl (gW nE rfl) (gW nE rfl) (aSg (dd := 9998) Tryz.underlying4) vN)))
  refine h.trans (congrArg (fun r => Result.ok r w) ?_)
  simp only [Bool.decide_and, Bool.and_true, Bool.and_assoc]⟩
theorem aOy : ∀ b ∈ ([⟨0, 65536, 0, 0, 65536, 0, 0, 0, 0, 0⟩] : List Body), Okb b := fun b hb => rR ((by decide : ∀ b ∈ ([⟨0, 65536, 0, 0, 65536, 0, 0, 0, 0, 0⟩] : List Body), check b = 0) b hb)
theorem aUr : ∀ b ∈ ([⟨1, 65536, 0, 0, 65536, 0, 0, 0, 65536, 0⟩, ⟨2, 65536, 0, 0, 0, 0, 131071, 0, 0, 0⟩] : List Body), Okb b := fun b hb => rR ((by decide : ∀ b ∈ ([⟨1, 65536, 0, 0, 65536, 0, 0, 0, 65536, 0⟩, ⟨2, 65536, 0, 0, 0, 0, 131071, 0, 0, 0⟩] : List Body), check b = 0) b hb)
theorem aTe : Okb (⟨0, 65536, 0, 0, 0, 0, 0, 0, 0, 0⟩ : Body) := rR (by decide)
theorem aYa : jG ([⟨0, 65536, 0, 0, 65536, 0, 0, 0, 0, 0⟩] : List Body) = [] := by decide
theorem aPe : oT ([⟨0, 65536, 0, 0, 65536, 0, 0, 0, 0, 0⟩] : List Body) = ([⟨0, 65536, 0, 0, 65536, 0, 0, -16, 0, -1024⟩] : List Body) := by decide +kernel
theorem aZo : qQ ([⟨0, 65536, 0, 0, 65536, 0, 0, 0, 0, 0⟩] : List Body) = false := by decide +kernel
theorem aZj : qJ 17179607041 = 131071 := (aRv (by decide) (by decide)).symm
theorem aSf : len 131071 0 = 131071 := by
  unfold len
  rw [show mI 131071 0 = 17179607041 by decide, aZj]
  rfl
theorem aZf : iC (⟨1, 65536, 0, 0, 65536, 0, 0, 0, 65536, 0⟩ : Body) (⟨2, 65536, 0, 0, 0, 0, 131071, 0, 0, 0⟩ : Body) = some ⟨1, 2, 65536, 0, 1⟩ := by
  have e : lB (⟨1, 65536, 0, 0, 65536, 0, 0, 0, 65536, 0⟩ : Body) (⟨2, 65536, 0, 0, 0, 0, 131071, 0, 0, 0⟩ : Body) = ((0, 0), (131071, 0), 17179607041) := by decide
  have hu : jW 131071 0 = (65536, 0) := by unfold jW; rw [aSf]; decide
  unfold iC
  rw [if_neg (by decide)]
  unfold gO
  rw [e]
  show (if ((65536 : Int) + 65536).natAbs * ((65536 : Int) + 65536).natAbs ≤ mI 131071 0 then none else some (⟨1, 2, (jW 131071 0).1, (jW 131071 0).2, IntKind.wrap .i32 (65536 + 65536 - len 131071 0)⟩ : Con)) = _
  rw [if_neg (by decide), hu, aSf]
  decide
theorem aZr : kP ([⟨1, 65536, 0, 0, 65536, 0, 0, 0, 65536, 0⟩, ⟨2, 65536, 0, 0, 0, 0, 131071, 0, 0, 0⟩] : List Body) = [(1, 2)] := by decide
theorem vW : jG ([⟨1, 65536, 0, 0, 65536, 0, 0, 0, 65536, 0⟩, ⟨2, 65536, 0, 0, 0, 0, 131071, 0, 0, 0⟩] : List Body) = [⟨1, 2, 65536, 0, 1⟩] := by
  have h : vI (boM ([⟨1, 65536, 0, 0, 65536, 0, 0, 0, 65536, 0⟩, ⟨2, 65536, 0, 0, 0, 0, 131071, 0, 0, 0⟩] : List Body)) (1, 2) = some ⟨1, 2, 65536, 0, 1⟩ := (nZ (show boM ([⟨1, 65536, 0, 0, 65536, 0, 0, 0, 65536, 0⟩, ⟨2, 65536, 0, 0, 0, 0, 131071, 0, 0, 0⟩] : List Body) 1 = some (⟨1, 65536, 0, 0, 65536, 0, 0, 0, 65536, 0⟩ : Body) from by decide) (show boM ([⟨1, 65536, 0, 0, 65536, 0, 0, 0, 65536, 0⟩, ⟨2, 65536, 0, 0, 0, 0, 131071, 0, 0, 0⟩] : List Body) 2 = some (⟨2, 65536, 0, 0, 0, 0, 131071, 0, 0, 0⟩ : Body) from by decide)).trans aZf
  unfold jG
  rw [aZr]
  simp only [List.filterMap_cons, List.filterMap_nil, h]
theorem aYq : oT ([⟨1, 65536, 0, 0, 65536, 0, 0, 0, 65536, 0⟩, ⟨2, 65536, 0, 0, 0, 0, 131071, 0, 0, 0⟩] : List Body) = ([⟨1, 65536, 0, 0, 65536, 0, 0, -16, 0, -1024⟩, ⟨2, 65536, 0, 0, 0, 0, 131071, 0, 0, 0⟩] : List Body) := by
  unfold oT jC
  rw [vW]
  decide +kernel
theorem aYn : qQ ([⟨1, 65536, 0, 0, 65536, 0, 0, 0, 65536, 0⟩, ⟨2, 65536, 0, 0, 0, 0, 131071, 0, 0, 0⟩] : List Body) = false := by
  unfold qQ jC
  rw [vW]
  decide +kernel
theorem aZt : jU ([⟨0, 65536, 0, 0, 65536, 0, 0, 0, 0, 0⟩] : List Body) 2 = ([⟨0, 65536, 0, 0, 65536, 0, 0, -48, 0, -2048⟩] : List Body) := by
  show oT (oT ([⟨0, 65536, 0, 0, 65536, 0, 0, 0, 0, 0⟩] : List Body)) = _
  rw [aPe]
  decide +kernel
theorem aZy : aGb (⟨0, 65536, 0, 0, 0, 0, 0, 0, 0, 0⟩ : Body) = (⟨0, 65536, 0, 0, 0, 0, 0, 0, 0, 0⟩ : Body) := by decide
end Go.Proofs.YtlmcphcgiclanaaGreatDoor
