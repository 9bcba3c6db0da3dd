/- Part of the proof of the laws of this seat: R6b. No conditions. -/
import Derived.Test.YtlmcphcgiclanaaGreatDoorK5
import Derived.Test.YtlmcphcgiclanaaGreatDoorK6
set_option linter.unusedVariables false
set_option linter.unusedSimpArgs false
set_option linter.unnecessarySimpa false
namespace Go.Proofs.YtlmcphcgiclanaaGreatDoor
open Go.Bil
open Go.RowKit (Below)
open Go.Proofs
set_option maxHeartbeats 4000000 in
theorem aHt (w : World) (A : Option Addr) (n c : Nat) (er : dL) (s : List Body) (hr : aX 40 10 A n c (s.map aI) er) (hO : Own [er] w) (b : Body) (hn : s.length ≤ 1048576) :
    Calls Tryz.prog 59 #[.slice A n c, (.agg (aI b).toArray)] w (fun ex w' => ∃ v, ex = .returned v ∧ (fun v w' => ∃ A' n' c' e', v = .tuple #[.slice A' n' c', .int .i64 (lA s b).2] ∧ aX 40 10 A' n' c' ((lA s b).1.map aI) e' ∧ Mem w (bU [er]) [e'] w') v w') := by
  have hlen : s.length = n := by simpa using hr.1
  refine aJ #[.tmp 4, .tmp 5] 26 Tryz.func59 rfl Tryz.results59 Tryz.ntmps59 rfl ?_
  have M0 := hO.mem
  refine aG (aB ?_)
  refine bK (.agg (List.toArray _)) M0 rfl rfl rfl (fun b1 w1 M1 => ?_)
  refine aA (aD (.slice _ _ _) rfl) rfl rfl ?_
  refine aA (aD (.int _ _) rfl) rfl rfl ?_
  refine aE (aF (aG (aB ?_)))
  refine aA (bB 1 bW M1 rfl rfl rfl) rfl rfl ?_
  refine aL aRr rfl rfl rfl ?_
  refine (rQ _ b).mono ?_
  rintro _ w2 ⟨v2, rfl, ⟨rfl, hb2⟩⟩
  refine ⟨_, rfl, ?_⟩
  have M2 := M1.callB hb2
  refine aA (aD (.int _ _) rfl) rfl rfl ?_
  refine aE (aF (aG (aG (aB ?_))))
  refine aA (aC (.int _ _) rfl) rfl rfl ?_
  refine aA (aO (.bool (decide _)) rfl rfl rfl) rfl rfl ?_
  refine aE (aF ?_)
  refine aY rfl (fun h10 => ?_) (fun h10 => ?_)
  · refine aG (aB ?_)
    refine aA (aC (.slice _ _ _) rfl) rfl rfl ?_
    refine aA (aC (.int _ _) rfl) rfl rfl ?_
    refine aA (aD (.slice _ _ _) rfl) rfl rfl ?_
    refine aA (aD (.int _ _) rfl) rfl rfl ?_
    refine aE (aF (aR (cP ?_)))
    refine fG (.slice _ _ _) (.int _ _) rfl rfl ?_
    have ha : lA s b = (s, check b) := by unfold lA; rw [if_pos h10]
    exact ⟨_, _, _, _, by rw [ha], by rw [ha]; exact hr, M2.keep [true, false]⟩
  · refine aN (aF (aG (aG (aB ?_))))
    refine aA (aC (.slice _ _ _) rfl) rfl rfl ?_
    refine aA (aH 0 dR rfl) rfl rfl ?_
    refine aA (aZ 1 (.int _ _) cR M2 rfl rfl rfl) rfl rfl ?_
    refine aL aVu rfl rfl rfl ?_
    refine (aDx _ b.key _ _ _ s (hr.rd M2 (aP (i := 0) rfl))).mono ?_
    rintro _ w3 ⟨v3, rfl, ⟨rfl, hb3⟩⟩
    refine ⟨_, rfl, ?_⟩
    have M3 := M2.callB hb3
    refine aA (aO (.bool (decide _)) rfl rfl rfl) rfl rfl ?_
    refine aE (aF ?_)
    refine aY rfl (fun h17 => ?_) (fun h17 => ?_)
    · refine aG (aB ?_)
      refine aA (aC (.slice _ _ _) rfl) rfl rfl ?_
      refine aA (aD (.slice _ _ _) rfl) rfl rfl ?_
      refine aA (aD (.int _ _) rfl) rfl rfl ?_
      refine aE (aF (aR (cP ?_)))
      refine fG (.slice _ _ _) (.int _ _) rfl rfl ?_
      have ha : lA s b = (s, 10) := by unfold lA; rw [if_neg h10, if_pos (by omega)]
      exact ⟨_, _, _, _, by rw [ha], by rw [ha]; exact hr, M3.keep [true, false]⟩
    · refine aN (aF (aG (aG (aB ?_))))
      refine aA (aC (.slice _ _ _) rfl) rfl rfl ?_
      refine aA (cS Tryz.underlying22 rfl) rfl rfl ?_
      refine aA (aO (.bool (decide _)) rfl rfl rfl) rfl rfl ?_
      refine aE (aF ?_)
      refine aY rfl (fun h21 => ?_) (fun h21 => ?_)
      · refine aG (aB ?_)
        refine aA (aC (.slice _ _ _) rfl) rfl rfl ?_
        refine aA (aD (.slice _ _ _) rfl) rfl rfl ?_
        refine aA (aD (.int _ _) rfl) rfl rfl ?_
        refine aE (aF (aR (cP ?_)))
        refine fG (.slice _ _ _) (.int _ _) rfl rfl ?_
        have ha : lA s b = (s, 12) := by unfold lA; rw [if_neg h10, if_neg (by omega), if_pos (by omega)]
        exact ⟨_, _, _, _, by rw [ha], by rw [ha]; exact hr, M3.keep [true, false]⟩
      · refine aN (aF (aG (aB ?_)))
        refine aA (aC (.slice _ _ _) rfl) rfl rfl ?_
        refine aA (bB 1 bW M3 rfl rfl rfl) rfl rfl ?_
        refine aL aWd rfl rfl rfl ?_
        refine (aGy _ b false _ _ _ s (hr.rd M3 (aP (i := 0) rfl)) (by omega)).mono ?_
        rintro _ w4 ⟨v4, rfl, ⟨A4, n4, c4, e4, rfl, hR4, hM4⟩⟩
        refine ⟨_, rfl, ?_⟩
        have M4 : Mem _ _ [_, _, _] _ := M3.call0 hM4
        refine aA (aD (.slice _ _ _) rfl) rfl rfl ?_
        refine aA (aD (.int _ _) rfl) rfl rfl ?_
        refine aE (aF (aR ?_))
        refine fG (.slice _ _ _) (.int _ _) rfl rfl ?_
        have ha : lA s b = (zF s b false, 0) := by unfold lA; rw [if_neg h10, if_neg (by omega), if_neg (by omega)]
        exact ⟨_, _, _, _, by rw [ha], by rw [ha]; exact hR4, M4.keep [false, false, true]⟩
set_option maxHeartbeats 4000000 in
theorem aIk (w : World) (A : Option Addr) (n c : Nat) (xs : List Body) (R : Rd w 10 A n (xs.map aI)) (hn : n ≤ 1048576) :
    Calls Tryz.prog 36 #[.slice A n c] w (fun ex w' => ∃ v, ex = .returned v ∧ (fun v w' => ∃ A' n' c' e, v = .slice A' n' c' ∧ aX 40 10 A' n' c' ((vP xs).map aI) e ∧ Mem w [] [e] w') v w') := by
  have hlen : xs.length = n := by simpa using R.len
  have hbd := R.bound
  refine aJ #[.tmp 2] 24 Tryz.func36 rfl Tryz.results36 Tryz.ntmps36 rfl ?_
  have M0 := Mem.refl w
  refine aG (aB ?_)
  refine aA (aD (.slice _ _ _) rfl) rfl rfl ?_
  refine aE (aF (aG (aB ?_)))
  refine aA (aD (.slice _ _ _) rfl) rfl rfl ?_
  have M1 := M0.dummy default
  refine aE (aF (aG (aG (aB ?_))))
  refine aA (aD (.int _ _) rfl) rfl rfl ?_
  refine aE (aF (bA ?_))
  refine dI (σ := Nat × Row) [0, 2] (fun (k, r) => [(3, .slice r.A r.n r.c), (4, .int .i64 (k : Int))]) (fun (k, r) w' => (k ≤ n ∧ aX 40 10 r.A r.n r.c ((vP (xs.take k)).map aI) r.e) ∧ Mem w [] [r.e] w') (fun (k, r) => n - k) (0, ⟨none, 0, 0, (none, default)⟩) (bS rfl (bS rfl eV)) (⟨⟨by omega, aX.nil _ _ _⟩, M1⟩) ?_
  rintro ⟨k, r⟩ ρ2 w2 ⟨⟨hk, hr⟩, hM2⟩
  have hal := aKb (xs.take k)
  have htl := List.length_take_le k xs
  refine aG (aG (aB ?_))
  refine aA (aC (.int _ _) rfl) rfl rfl ?_
  refine aA (aC (.slice _ _ _) rfl) rfl rfl ?_
  refine aA (cS Tryz.underlying22 rfl) rfl rfl ?_
  refine aA (aO (.bool (decide _)) rfl rfl rfl) rfl rfl ?_
  refine aE (aF ?_)
  refine aY rfl (fun h10 => ?_) (fun h10 => ?_)
  · obtain ⟨xb, hxb⟩ := cN (k := k) hlen (by omega)
    refine aN (aF (aG (bA (aG (aB ?_)))))
    refine aA (aC (.slice _ _ _) rfl) rfl rfl ?_
    refine aA (aC (.slice _ _ _) rfl) rfl rfl ?_
    refine aA (aC (.int _ _) rfl) rfl rfl ?_
    refine aA (bO (k) dD rfl rfl rfl ((R.mem hM2).below_len (aK aI hxb)) ((R.mem hM2).someK (aK aI hxb))) rfl rfl ?_
    refine aA (dO _ bW (R.mem hM2) (aK aI hxb) rfl) rfl rfl ?_
    refine aL aWh rfl rfl rfl ?_
    refine (aHt _ _ _ _ _ _ hr (hM2.ownAt (i := 0) rfl) xb (by omega)).mono ?_
    rintro _ w3 ⟨v3, rfl, ⟨A3, n3, c3, e3, rfl, hR3, hM3⟩⟩
    refine ⟨_, rfl, ?_⟩
    have M3 : Mem _ _ [_] _ := hM2.seg 0 1 hM3
    refine aA (aC (.tuple (List.toArray _)) rfl) rfl rfl ?_
    refine aA (bE (.slice _ _ _) rfl rfl) rfl rfl ?_
    refine aA (bE (.int _ _) rfl rfl) rfl rfl ?_
    refine aA (aD (.slice _ _ _) rfl) rfl rfl ?_
    refine aA (aD (.int _ _) rfl) rfl rfl ?_
    refine aE (aF (aB ?_))
    refine aA (aC (.slice _ _ _) rfl) rfl rfl ?_
    refine aA (aD (.slice _ _ _) rfl) rfl rfl ?_
    refine aE ?_
    refine dJ ?_
    refine aF (aB ?_)
    refine aA (aC (.int _ _) rfl) rfl rfl ?_
    refine aA (bX rfl rfl (by omega) (by omega)) rfl rfl ?_
    refine aA (aD (.int _ _) rfl) rfl rfl ?_
    refine aE ?_
    refine cF (k + 1, ⟨A3, n3, c3, e3⟩) (bS rfl (bS rfl eV)) (cL rfl (cL rfl iI)) ?_ ?_
    · exact ⟨⟨by omega, by rw [aIg hxb]; exact hR3⟩, M3⟩
    · (show n - (k + 1) < n - k; omega)
  · refine cK ?_
    refine dB ?_
    refine cY ?_
    refine eN ?_
    refine aF (aG (aB ?_))
    refine aA (aC (.slice _ _ _) rfl) rfl rfl ?_
    refine aA (aD (.slice _ _ _) rfl) rfl rfl ?_
    refine aE (aF (aR ?_))
    refine cI (.slice _ _ _) rfl ?_
    have hkn : k = n := by omega
    subst hkn
    rw [List.take_of_length_le (by omega)] at hr
    exact ⟨_, _, _, _, rfl, hr, hM2⟩
end Go.Proofs.YtlmcphcgiclanaaGreatDoor
