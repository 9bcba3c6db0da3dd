/- Part of the proof of the laws of this seat: R6b. No conditions. -/
import Derived.Test.YtlmcphcgiclanaaGreatDoorK5
import Derived.Test.YtlmcphcgiclanaaGreatDoorK6
set_option linter.unusedVariables false
set_option linter.unusedSimpArgs false
set_option linter.unnecessarySimpa false
namespace Go.Proofs.YtlmcphcgiclanaaGreatDoor
open Go.Bil
open Go.RowKit (Below)
open Go.Proofs
set_option maxHeartbeats 4000000 in
theorem aLb (w : World) (A : Option Addr) (n c : Nat) (er : eQ) (s : List Body) (hr : bK 40 10 A n c (s.map aI) er) (hO : Own [er] w) (b : Body) (hn : s.length ≤ 1048576) :
    Calls Tryz.prog 59 #[.slice A n c, (.agg (aI b).toArray)] w (fun ex w' => ∃ v, ex = .returned v ∧ (fun v w' => ∃ A' n' c' e', v = .tuple #[.slice A' n' c', .int .i64 (nJ s b).2] ∧ bK 40 10 A' n' c' ((nJ s b).1.map aI) e' ∧ Mem w (cT [er]) [e'] w') v w') := by
  have hlen : s.length = n := by simpa using hr.1
  refine aL #[.tmp 4, .tmp 5] 26 Tryz.func59 rfl Tryz.results59 Tryz.ntmps59 rfl ?_
  have M0 := hO.mem
  refine aH (aB ?_)
  refine bM (.agg (List.toArray _)) M0 rfl rfl rfl (fun b1 w1 M1 => ?_)
  refine aA (aD (.slice _ _ _) rfl) rfl rfl ?_
  refine aA (aD (.int _ _) rfl) rfl rfl ?_
  refine aE (aF (aH (aB ?_)))
  refine aA (aR 1 bP M1 rfl rfl rfl) rfl rfl ?_
  refine aM aWs rfl rfl rfl ?_
  refine (uX _ b).mono ?_
  rintro _ w2 ⟨v2, rfl, ⟨rfl, hb2⟩⟩
  refine ⟨_, rfl, ?_⟩
  have M2 := M1.callB hb2
  refine aA (aD (.int _ _) rfl) rfl rfl ?_
  refine aE (aF (aH (aH (aB ?_))))
  refine aA (aC (.int _ _) rfl) rfl rfl ?_
  refine aA (aN (.bool (decide _)) rfl rfl rfl) rfl rfl ?_
  refine aE (aF ?_)
  refine aX rfl (fun h10 => ?_) (fun h10 => ?_)
  · refine aH (aB ?_)
    refine aA (aC (.slice _ _ _) rfl) rfl rfl ?_
    refine aA (aC (.int _ _) rfl) rfl rfl ?_
    refine aA (aD (.slice _ _ _) rfl) rfl rfl ?_
    refine aA (aD (.int _ _) rfl) rfl rfl ?_
    refine aE (aF (aU (dC ?_)))
    refine fR (.slice _ _ _) (.int _ _) rfl rfl ?_
    have ha : nJ s b = (s, check b) := by unfold nJ; rw [if_pos h10]
    exact ⟨_, _, _, _, by rw [ha], by rw [ha]; exact hr, M2.keep [true, false]⟩
  · refine aO (aF (aH (aH (aB ?_))))
    refine aA (aC (.slice _ _ _) rfl) rfl rfl ?_
    refine aA (aG 0 dL rfl) rfl rfl ?_
    refine aA (aQ 1 (.int _ _) cO M2 rfl rfl rfl) rfl rfl ?_
    refine aM rP rfl rfl rfl ?_
    refine (gR _ b.key _ _ _ s (hr.rd M2 (bH (i := 0) rfl))).mono ?_
    rintro _ w3 ⟨v3, rfl, ⟨rfl, hb3⟩⟩
    refine ⟨_, rfl, ?_⟩
    have M3 := M2.callB hb3
    refine aA (aN (.bool (decide _)) rfl rfl rfl) rfl rfl ?_
    refine aE (aF ?_)
    refine aX rfl (fun h17 => ?_) (fun h17 => ?_)
    · refine aH (aB ?_)
      refine aA (aC (.slice _ _ _) rfl) rfl rfl ?_
      refine aA (aD (.slice _ _ _) rfl) rfl rfl ?_
      refine aA (aD (.int _ _) rfl) rfl rfl ?_
      refine aE (aF (aU (dC ?_)))
      refine fR (.slice _ _ _) (.int _ _) rfl rfl ?_
      have ha : nJ s b = (s, 10) := by unfold nJ; rw [if_neg h10, if_pos (by omega)]
      exact ⟨_, _, _, _, by rw [ha], by rw [ha]; exact hr, M3.keep [true, false]⟩
    · refine aO (aF (aH (aH (aB ?_))))
      refine aA (aC (.slice _ _ _) rfl) rfl rfl ?_
      refine aA (dE Tryz.underlying22 rfl) rfl rfl ?_
      refine aA (aN (.bool (decide _)) rfl rfl rfl) rfl rfl ?_
      refine aE (aF ?_)
      refine aX rfl (fun h21 => ?_) (fun h21 => ?_)
      · refine aH (aB ?_)
        refine aA (aC (.slice _ _ _) rfl) rfl rfl ?_
        refine aA (aD (.slice _ _ _) rfl) rfl rfl ?_
        refine aA (aD (.int _ _) rfl) rfl rfl ?_
        refine aE (aF (aU (dC ?_)))
        refine fR (.slice _ _ _) (.int _ _) rfl rfl ?_
        have ha : nJ s b = (s, 12) := by unfold nJ; rw [if_neg h10, if_neg (by omega), if_pos (by omega)]
        exact ⟨_, _, _, _, by rw [ha], by rw [ha]; exact hr, M3.keep [true, false]⟩
      · refine aO (aF (aH (aB ?_)))
        refine aA (aC (.slice _ _ _) rfl) rfl rfl ?_
        refine aA (aR 1 bP M3 rfl rfl rfl) rfl rfl ?_
        refine aM bCp rfl rfl rfl ?_
        refine (aLi _ b false _ _ _ s (hr.rd M3 (bH (i := 0) rfl)) (by omega)).mono ?_
        rintro _ w4 ⟨v4, rfl, ⟨A4, n4, c4, e4, rfl, hR4, hM4⟩⟩
        refine ⟨_, rfl, ?_⟩
        have M4 : Mem _ _ [_, _, _] _ := M3.call0 hM4
        refine aA (aD (.slice _ _ _) rfl) rfl rfl ?_
        refine aA (aD (.int _ _) rfl) rfl rfl ?_
        refine aE (aF (aU ?_))
        refine fR (.slice _ _ _) (.int _ _) rfl rfl ?_
        have ha : nJ s b = (aCq s b false, 0) := by unfold nJ; rw [if_neg h10, if_neg (by omega), if_neg (by omega)]
        exact ⟨_, _, _, _, by rw [ha], by rw [ha]; exact hR4, M4.keep [false, false, true]⟩
set_option maxHeartbeats 4000000 in
theorem aLk (w : World) (A : Option Addr) (n c : Nat) (xs : List Body) (R : Rd w 10 A n (xs.map aI)) (hn : n ≤ 1048576) :
    Calls Tryz.prog 36 #[.slice A n c] w (fun ex w' => ∃ v, ex = .returned v ∧ (fun v w' => ∃ A' n' c' e, v = .slice A' n' c' ∧ bK 40 10 A' n' c' ((zJ xs).map aI) e ∧ Mem w [] [e] w') v w') := by
  have hlen : xs.length = n := by simpa using R.len
  have hbd := R.bound
  refine aL #[.tmp 2] 24 Tryz.func36 rfl Tryz.results36 Tryz.ntmps36 rfl ?_
  have M0 := Mem.refl w
  refine aH (aB ?_)
  refine aA (aD (.slice _ _ _) rfl) rfl rfl ?_
  refine aE (aF (aH (aB ?_)))
  refine aA (aD (.slice _ _ _) rfl) rfl rfl ?_
  have M1 := M0.dummy default
  refine aE (aF (aH (aH (aB ?_))))
  refine aA (aD (.int _ _) rfl) rfl rfl ?_
  refine aE (aF (aT ?_))
  refine dM (σ := Nat × Row) [0, 2] (fun (k, r) => [(3, .slice r.A r.n r.c), (4, .int .i64 (k : Int))]) (fun (k, r) w' => (k ≤ n ∧ bK 40 10 r.A r.n r.c ((zJ (xs.take k)).map aI) r.e) ∧ Mem w [] [r.e] w') (fun (k, r) => n - k) (0, ⟨none, 0, 0, (none, default)⟩) (bB rfl (bB rfl dO)) (⟨⟨by omega, bK.nil _ _ _⟩, M1⟩) ?_
  rintro ⟨k, r⟩ ρ2 w2 ⟨⟨hk, hr⟩, hM2⟩
  have hal := aRc (xs.take k)
  have htl := List.length_take_le k xs
  refine aH (aH (aB ?_))
  refine aA (aC (.int _ _) rfl) rfl rfl ?_
  refine aA (aC (.slice _ _ _) rfl) rfl rfl ?_
  refine aA (dE Tryz.underlying22 rfl) rfl rfl ?_
  refine aA (aN (.bool (decide _)) rfl rfl rfl) rfl rfl ?_
  refine aE (aF ?_)
  refine aX rfl (fun h10 => ?_) (fun h10 => ?_)
  · obtain ⟨xb, hxb⟩ := dA (k := k) hlen (by omega)
    refine aO (aF (aH (aT (aH (aB ?_)))))
    refine aA (aC (.slice _ _ _) rfl) rfl rfl ?_
    refine aA (aC (.slice _ _ _) rfl) rfl rfl ?_
    refine aA (aC (.int _ _) rfl) rfl rfl ?_
    refine aA (bN (k) cW rfl rfl rfl ((R.mem hM2).below_len (aJ aI hxb)) ((R.mem hM2).someK (aJ aI hxb))) rfl rfl ?_
    refine aA (dG _ bP (R.mem hM2) (aJ aI hxb) rfl) rfl rfl ?_
    refine aM bBi rfl rfl rfl ?_
    refine (aLb _ _ _ _ _ _ hr (hM2.ownAt (i := 0) rfl) xb (by omega)).mono ?_
    rintro _ w3 ⟨v3, rfl, ⟨A3, n3, c3, e3, rfl, hR3, hM3⟩⟩
    refine ⟨_, rfl, ?_⟩
    have M3 : Mem _ _ [_] _ := hM2.seg 0 1 hM3
    refine aA (aC (.tuple (List.toArray _)) rfl) rfl rfl ?_
    refine aA (bI (.slice _ _ _) rfl rfl) rfl rfl ?_
    refine aA (bI (.int _ _) rfl rfl) rfl rfl ?_
    refine aA (aD (.slice _ _ _) rfl) rfl rfl ?_
    refine aA (aD (.int _ _) rfl) rfl rfl ?_
    refine aE (aF (aB ?_))
    refine aA (aC (.slice _ _ _) rfl) rfl rfl ?_
    refine aA (aD (.slice _ _ _) rfl) rfl rfl ?_
    refine aE ?_
    refine cS ?_
    refine aF (aB ?_)
    refine aA (aC (.int _ _) rfl) rfl rfl ?_
    refine aA (aZ rfl rfl (by omega) (by omega)) rfl rfl ?_
    refine aA (aD (.int _ _) rfl) rfl rfl ?_
    refine aE ?_
    refine cA (k + 1, ⟨A3, n3, c3, e3⟩) (bB rfl (bB rfl dO)) (cD rfl (cD rfl fS)) ?_ ?_
    · exact ⟨⟨by omega, by rw [aLe hxb]; exact hR3⟩, M3⟩
    · (show n - (k + 1) < n - k; omega)
  · refine cQ ?_
    refine cX ?_
    refine dF ?_
    refine eJ ?_
    refine aF (aH (aB ?_))
    refine aA (aC (.slice _ _ _) rfl) rfl rfl ?_
    refine aA (aD (.slice _ _ _) rfl) rfl rfl ?_
    refine aE (aF (aU ?_))
    refine cU (.slice _ _ _) rfl ?_
    have hkn : k = n := by omega
    subst hkn
    rw [List.take_of_length_le (by omega)] at hr
    exact ⟨_, _, _, _, rfl, hr, hM2⟩
end Go.Proofs.YtlmcphcgiclanaaGreatDoor
