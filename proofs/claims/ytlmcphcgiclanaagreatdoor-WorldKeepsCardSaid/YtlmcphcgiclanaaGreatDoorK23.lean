/- Part of the proof of the laws of this seat: R6b. No conditions. -/
import Derived.Test.YtlmcphcgiclanaaGreatDoorK5
import Derived.Test.YtlmcphcgiclanaaGreatDoorK6
set_option linter.unusedVariables false
set_option linter.unusedSimpArgs false
set_option linter.unnecessarySimpa false
namespace Go.Proofs.YtlmcphcgiclanaaGreatDoor
open Go.Bil
open Go.RowKit (Below)
open Go.Proofs
set_option maxHeartbeats 4000000 in
theorem aLv (w : World) (A : Option Addr) (n c : Nat) (er : dP) (s : List Body) (hr : bA 40 10 A n c (s.map aI) er) (hO : Own [er] w) (b : Body) (hn : s.length ≤ 1048576) :
    Calls Tryz.prog 59 #[.slice A n c, (.agg (aI b).toArray)] w (fun ex w' => ∃ v, ex = .returned v ∧ (fun v w' => ∃ A' n' c' e', v = .tuple #[.slice A' n' c', .int .i64 (kV s b).2] ∧ bA 40 10 A' n' c' ((kV s b).1.map aI) e' ∧ Mem w (bX [er]) [e'] w') v w') := by
  have hlen : s.length = n := by simpa using hr.1
  refine aJ #[.tmp 4, .tmp 5] 26 Tryz.func59 rfl Tryz.results59 Tryz.ntmps59 rfl ?_
  have M0 := hO.mem
  refine aG (aB ?_)
  refine bL (.agg (List.toArray _)) M0 rfl rfl rfl (fun b1 w1 M1 => ?_)
  refine aA (aE (.slice _ _ _) rfl) rfl rfl ?_
  refine aA (aE (.int _ _) rfl) rfl rfl ?_
  refine aC (aF (aG (aB ?_)))
  refine aA (bE 1 bO M1 rfl rfl rfl) rfl rfl ?_
  refine aK bDu rfl rfl rfl ?_
  refine (aDo _ b).mono ?_
  rintro _ w2 ⟨v2, rfl, ⟨rfl, hb2⟩⟩
  refine ⟨_, rfl, ?_⟩
  have M2 := M1.callB hb2
  refine aA (aE (.int _ _) rfl) rfl rfl ?_
  refine aC (aF (aG (aG (aB ?_))))
  refine aA (aD (.int _ _) rfl) rfl rfl ?_
  refine aA (aP (.bool (decide _)) rfl rfl rfl) rfl rfl ?_
  refine aC (aF ?_)
  refine aZ rfl (fun h10 => ?_) (fun h10 => ?_)
  · refine aG (aB ?_)
    refine aA (aD (.slice _ _ _) rfl) rfl rfl ?_
    refine aA (aD (.int _ _) rfl) rfl rfl ?_
    refine aA (aE (.slice _ _ _) rfl) rfl rfl ?_
    refine aA (aE (.int _ _) rfl) rfl rfl ?_
    refine aC (aF (aR (cC ?_)))
    refine fZ (.slice _ _ _) (.int _ _) rfl rfl ?_
    have ha : kV s b = (s, check b) := by unfold kV; rw [if_pos h10]
    exact ⟨_, _, _, _, by rw [ha], by rw [ha]; exact hr, M2.keep [true, false]⟩
  · refine aN (aF (aG (aG (aB ?_))))
    refine aA (aD (.slice _ _ _) rfl) rfl rfl ?_
    refine aA (aH 0 dJ rfl) rfl rfl ?_
    refine aA (aQ 1 (.int _ _) bR M2 rfl rfl rfl) rfl rfl ?_
    refine aK bEe rfl rfl rfl ?_
    refine (aIs _ b.key _ _ _ s (hr.rd M2 (bB (i := 0) rfl))).mono ?_
    rintro _ w3 ⟨v3, rfl, ⟨rfl, hb3⟩⟩
    refine ⟨_, rfl, ?_⟩
    have M3 := M2.callB hb3
    refine aA (aP (.bool (decide _)) rfl rfl rfl) rfl rfl ?_
    refine aC (aF ?_)
    refine aZ rfl (fun h17 => ?_) (fun h17 => ?_)
    · refine aG (aB ?_)
      refine aA (aD (.slice _ _ _) rfl) rfl rfl ?_
      refine aA (aE (.slice _ _ _) rfl) rfl rfl ?_
      refine aA (aE (.int _ _) rfl) rfl rfl ?_
      refine aC (aF (aR (cC ?_)))
      refine fZ (.slice _ _ _) (.int _ _) rfl rfl ?_
      have ha : kV s b = (s, 10) := by unfold kV; rw [if_neg h10, if_pos (by omega)]
      exact ⟨_, _, _, _, by rw [ha], by rw [ha]; exact hr, M3.keep [true, false]⟩
    · refine aN (aF (aG (aG (aB ?_))))
      refine aA (aD (.slice _ _ _) rfl) rfl rfl ?_
      refine aA (cT Tryz.underlying22 rfl) rfl rfl ?_
      refine aA (aP (.bool (decide _)) rfl rfl rfl) rfl rfl ?_
      refine aC (aF ?_)
      refine aZ rfl (fun h21 => ?_) (fun h21 => ?_)
      · refine aG (aB ?_)
        refine aA (aD (.slice _ _ _) rfl) rfl rfl ?_
        refine aA (aE (.slice _ _ _) rfl) rfl rfl ?_
        refine aA (aE (.int _ _) rfl) rfl rfl ?_
        refine aC (aF (aR (cC ?_)))
        refine fZ (.slice _ _ _) (.int _ _) rfl rfl ?_
        have ha : kV s b = (s, 12) := by unfold kV; rw [if_neg h10, if_neg (by omega), if_pos (by omega)]
        exact ⟨_, _, _, _, by rw [ha], by rw [ha]; exact hr, M3.keep [true, false]⟩
      · refine aN (aF (aG (aB ?_)))
        refine aA (aD (.slice _ _ _) rfl) rfl rfl ?_
        refine aA (bE 1 bO M3 rfl rfl rfl) rfl rfl ?_
        refine aK bDv rfl rfl rfl ?_
        refine (aMu _ b false _ _ _ s (hr.rd M3 (bB (i := 0) rfl)) (by omega)).mono ?_
        rintro _ w4 ⟨v4, rfl, ⟨A4, n4, c4, e4, rfl, hR4, hM4⟩⟩
        refine ⟨_, rfl, ?_⟩
        have M4 : Mem _ _ [_, _, _] _ := M3.call0 hM4
        refine aA (aE (.slice _ _ _) rfl) rfl rfl ?_
        refine aA (aE (.int _ _) rfl) rfl rfl ?_
        refine aC (aF (aR ?_))
        refine fZ (.slice _ _ _) (.int _ _) rfl rfl ?_
        have ha : kV s b = (rT s b false, 0) := by unfold kV; rw [if_neg h10, if_neg (by omega), if_neg (by omega)]
        exact ⟨_, _, _, _, by rw [ha], by rw [ha]; exact hR4, M4.keep [false, false, true]⟩
set_option maxHeartbeats 4000000 in
theorem aLp (w : World) (A : Option Addr) (n c : Nat) (xs : List Body) (R : Rd w 10 A n (xs.map aI)) (hn : n ≤ 1048576) :
    Calls Tryz.prog 36 #[.slice A n c] w (fun ex w' => ∃ v, ex = .returned v ∧ (fun v w' => ∃ A' n' c' e, v = .slice A' n' c' ∧ bA 40 10 A' n' c' ((uL xs).map aI) e ∧ Mem w [] [e] w') v w') := by
  have hlen : xs.length = n := by simpa using R.len
  have hbd := R.bound
  refine aJ #[.tmp 2] 24 Tryz.func36 rfl Tryz.results36 Tryz.ntmps36 rfl ?_
  have M0 := Mem.refl w
  refine aG (aB ?_)
  refine aA (aE (.slice _ _ _) rfl) rfl rfl ?_
  refine aC (aF (aG (aB ?_)))
  refine aA (aE (.slice _ _ _) rfl) rfl rfl ?_
  have M1 := M0.dummy default
  refine aC (aF (aG (aG (aB ?_))))
  refine aA (aE (.int _ _) rfl) rfl rfl ?_
  refine aC (aF (aV ?_))
  refine dK (σ := Nat × Row) [0, 2] (fun (k, r) => [(3, .slice r.A r.n r.c), (4, .int .i64 (k : Int))]) (fun (k, r) w' => (k ≤ n ∧ bA 40 10 r.A r.n r.c ((uL (xs.take k)).map aI) r.e) ∧ Mem w [] [r.e] w') (fun (k, r) => n - k) (0, ⟨none, 0, 0, (none, default)⟩) (bK rfl (bK rfl eO)) (⟨⟨by omega, bA.nil _ _ _⟩, M1⟩) ?_
  rintro ⟨k, r⟩ ρ2 w2 ⟨⟨hk, hr⟩, hM2⟩
  have hal := aFb (xs.take k)
  have htl := List.length_take_le k xs
  refine aG (aG (aB ?_))
  refine aA (aD (.int _ _) rfl) rfl rfl ?_
  refine aA (aD (.slice _ _ _) rfl) rfl rfl ?_
  refine aA (cT Tryz.underlying22 rfl) rfl rfl ?_
  refine aA (aP (.bool (decide _)) rfl rfl rfl) rfl rfl ?_
  refine aC (aF ?_)
  refine aZ rfl (fun h10 => ?_) (fun h10 => ?_)
  · obtain ⟨xb, hxb⟩ := cL (k := k) hlen (by omega)
    refine aN (aF (aG (aV (aG (aB ?_)))))
    refine aA (aD (.slice _ _ _) rfl) rfl rfl ?_
    refine aA (aD (.slice _ _ _) rfl) rfl rfl ?_
    refine aA (aD (.int _ _) rfl) rfl rfl ?_
    refine aA (bU (k) dO rfl rfl rfl ((R.mem hM2).below_len (aL aI hxb)) ((R.mem hM2).someK (aL aI hxb))) rfl rfl ?_
    refine aA (dS _ bO (R.mem hM2) (aL aI hxb) rfl) rfl rfl ?_
    refine aK bDx rfl rfl rfl ?_
    refine (aLv _ _ _ _ _ _ hr (hM2.ownAt (i := 0) rfl) xb (by omega)).mono ?_
    rintro _ w3 ⟨v3, rfl, ⟨A3, n3, c3, e3, rfl, hR3, hM3⟩⟩
    refine ⟨_, rfl, ?_⟩
    have M3 : Mem _ _ [_] _ := hM2.seg 0 1 hM3
    refine aA (aD (.tuple (List.toArray _)) rfl) rfl rfl ?_
    refine aA (bG (.slice _ _ _) rfl rfl) rfl rfl ?_
    refine aA (bG (.int _ _) rfl rfl) rfl rfl ?_
    refine aA (aE (.slice _ _ _) rfl) rfl rfl ?_
    refine aA (aE (.int _ _) rfl) rfl rfl ?_
    refine aC (aF (aB ?_))
    refine aA (aD (.slice _ _ _) rfl) rfl rfl ?_
    refine aA (aE (.slice _ _ _) rfl) rfl rfl ?_
    refine aC ?_
    refine dB ?_
    refine aF (aB ?_)
    refine aA (aD (.int _ _) rfl) rfl rfl ?_
    refine aA (bM rfl rfl (by omega) (by omega)) rfl rfl ?_
    refine aA (aE (.int _ _) rfl) rfl rfl ?_
    refine aC ?_
    refine cO (k + 1, ⟨A3, n3, c3, e3⟩) (bK rfl (bK rfl eO)) (cS rfl (cS rfl jB)) ?_ ?_
    · exact ⟨⟨by omega, by rw [aAx hxb]; exact hR3⟩, M3⟩
    · (show n - (k + 1) < n - k; omega)
  · refine cP ?_
    refine dA ?_
    refine cZ ?_
    refine eQ ?_
    refine aF (aG (aB ?_))
    refine aA (aD (.slice _ _ _) rfl) rfl rfl ?_
    refine aA (aE (.slice _ _ _) rfl) rfl rfl ?_
    refine aC (aF (aR ?_))
    refine bY (.slice _ _ _) rfl ?_
    have hkn : k = n := by omega
    subst hkn
    rw [List.take_of_length_le (by omega)] at hr
    exact ⟨_, _, _, _, rfl, hr, hM2⟩
end Go.Proofs.YtlmcphcgiclanaaGreatDoor
