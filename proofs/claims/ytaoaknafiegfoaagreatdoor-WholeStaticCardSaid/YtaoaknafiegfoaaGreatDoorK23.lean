/- Part of the proof of the laws of this seat: R6b. No conditions. -/
import Derived.Test.YtaoaknafiegfoaaGreatDoorK2
import Derived.Test.YtaoaknafiegfoaaGreatDoorK5
import Derived.Test.YtaoaknafiegfoaaGreatDoorK6
set_option linter.unusedVariables false
set_option linter.unusedSimpArgs false
set_option linter.unnecessarySimpa false
namespace Go.Proofs.YtaoaknafiegfoaaGreatDoor
open Go.Bil
open Go.RowKit (Below)
open Go.Proofs
set_option maxHeartbeats 4000000 in
theorem aRw (w : World) (A : Option Addr) (n c : Nat) (er : dK) (s : List Body) (hr : aU 39 10 A n c (s.map aF) er) (hO : Own [er] w) (b : Body) (hn : s.length ≤ 1048576) :
  Calls Tryz.prog 94 #[.slice A n c, (.agg (aF b).toArray)] w (fun ex w' => ∃ v, ex = .returned v ∧ (fun v w' => ∃ A' n' c' e', v = .tuple #[.slice A' n' c', .int .i64 (iX s b).2] ∧ aU 39 10 A' n' c' ((iX s b).1.map aF) e' ∧ Mem w (bH [er]) [e'] w') v w') := by
 have hlen : s.length = n := by simpa using hr.1
 refine aH #[.tmp 4, .tmp 5] 26 Tryz.func94 rfl Tryz.results94 Tryz.ntmps94 rfl ?_
 have M0 := hO.mem
 refine aD (aA (bG (.agg (List.toArray _)) M0 rfl rfl rfl (fun b1 w1 M1 => (eG rfl rfl (bI rfl rfl (aB (aC (aD (aA (wq (bC 1 bJ M1 rfl rfl rfl) rfl ?_))))))))))
 refine bZ bDh rfl rfl (wA _ b) ?_
 rintro v2 w2 ⟨rfl, hb2⟩
 have M2 := M1.callB hb2
 refine bI rfl rfl (aB (aC (aD (aD (aA (aZ rfl rfl (dB rfl rfl rfl rfl (aB (aC ?_)))))))))
 refine aX rfl (fun h10 => ?_) (fun h10 => ?_)
 ·refine aD (aA (dN rfl rfl (aZ rfl rfl (eG rfl rfl (bI rfl rfl (aB (aC (aL (cD ?_)))))))))
  refine fX (.slice _ _ _) (.int _ _) rfl rfl ?_
  have ha : iX s b = (s, check b) := by unfold iX; rw [if_pos h10]
  exact ⟨_, _, _, _, by rw [ha], by rw [ha]; exact hr, M2.keep [true, false]⟩
 ·refine aK (aC (aD (aD (aA (dN rfl rfl (wq (aE 0 dQ rfl) rfl (wq (aM 1 (.int _ _) bU M2 rfl rfl rfl) rfl (bZ bJs rfl rfl (aMv _ b.key _ _ _ s (hr.rd M2 (aS (i := 0) rfl))) ?_))))))))
  rintro v3 w3 ⟨rfl, hb3⟩
  have M3 := M2.callB hb3
  refine dB rfl rfl rfl rfl (aB (aC ?_))
  refine aX rfl (fun h17 => ?_) (fun h17 => ?_)
  ·refine aD (aA (dN rfl rfl (eG rfl rfl (bI rfl rfl (aB (aC (aL (cD (fX (.slice _ _ _) (.int _ _) rfl rfl ?_)))))))))
   have ha : iX s b = (s, 10) := by unfold iX; rw [if_neg h10, if_pos (by omega)]
   exact ⟨_, _, _, _, by rw [ha], by rw [ha]; exact hr, M3.keep [true, false]⟩
  ·refine aK (aC (aD (aD (aA (dN rfl rfl (wq (cT Tryz.underlying29 rfl) rfl (dB rfl rfl rfl rfl (aB (aC ?_)))))))))
   refine aX rfl (fun h21 => ?_) (fun h21 => ?_)
   ·refine aD (aA (dN rfl rfl (eG rfl rfl (bI rfl rfl (aB (aC (aL (cD (fX (.slice _ _ _) (.int _ _) rfl rfl ?_)))))))))
    have ha : iX s b = (s, 12) := by unfold iX; rw [if_neg h10, if_neg (by omega), if_pos (by omega)]
    exact ⟨_, _, _, _, by rw [ha], by rw [ha]; exact hr, M3.keep [true, false]⟩
   ·refine aK (aC (aD (aA (dN rfl rfl (wq (bC 1 bJ M3 rfl rfl rfl) rfl (bZ bGn rfl rfl (aPa _ b false _ _ _ s (hr.rd M3 (aS (i := 0) rfl)) (by omega)) ?_))))))
    rintro v4 w4 ⟨A4, n4, c4, e4, rfl, hR4, hM4⟩
    have M4 : Mem _ _ [_, _, _] _ := M3.call0 hM4
    refine eG rfl rfl (bI rfl rfl (aB (aC (aL (fX (.slice _ _ _) (.int _ _) rfl rfl ?_)))))
    have ha : iX s b = (uB s b false, 0) := by unfold iX; rw [if_neg h10, if_neg (by omega), if_neg (by omega)]
    exact ⟨_, _, _, _, by rw [ha], by rw [ha]; exact hR4, M4.keep [false, false, true]⟩
set_option maxHeartbeats 4000000 in
theorem aRk (w : World) (A : Option Addr) (n c : Nat) (xs : List Body) (R : Rd w 10 A n (xs.map aF)) (hn : n ≤ 1048576) :
  Calls Tryz.prog 104 #[.slice A n c] w (fun ex w' => ∃ v, ex = .returned v ∧ (fun v w' => ∃ A' n' c' e, v = .slice A' n' c' ∧ aU 39 10 A' n' c' ((aBj xs).map aF) e ∧ Mem w [] [e] w') v w') := by
 have hlen : xs.length = n := by simpa using R.len
 have hbd := R.bound
 refine aH #[.tmp 2] 24 Tryz.func104 rfl Tryz.results104 Tryz.ntmps104 rfl ?_
 have M0 := Mem.refl w
 refine aD (aA (eG rfl rfl (aB (aC (aD (aA (eG rfl rfl ?_)))))))
 have M1 := M0.dummy default
 refine aB (aC (aD (aD (aA (bI rfl rfl (aB (aC (aT (dI (σ := Nat × Row) [0, 2] (fun (k, r) => [(3, .slice r.A r.n r.c), (4, .int .i64 (k : Int))]) (fun (k, r) w' => (k ≤ n ∧ aU 39 10 r.A r.n r.c ((aBj (xs.take k)).map aF) r.e) ∧ Mem w [] [r.e] w') (fun (k, r) => n - k) (0, ⟨none, 0, 0, (none, default)⟩) (bM rfl (bM rfl eP)) (⟨⟨by omega, aU.nil _ _ _⟩, M1⟩) ?_)))))))))
 rintro ⟨k, r⟩ ρ2 w2 ⟨⟨hk, hr⟩, hM2⟩
 have hal := aXc (xs.take k)
 have htl := List.length_take_le k xs
 refine aD (aD (aA (aZ rfl rfl (dN rfl rfl (wq (cT Tryz.underlying29 rfl) rfl (dB rfl rfl rfl rfl (aB (aC ?_))))))))
 refine aX rfl (fun h10 => ?_) (fun h10 => ?_)
 ·obtain ⟨xb, hxb⟩ := cM (k := k) hlen (by omega)
  refine aK (aC (aD (aT (aD (aA (dN rfl rfl (dN rfl rfl (aZ rfl rfl (wq (bR (k) dF rfl rfl rfl ((R.mem hM2).below_len (aJ aF hxb)) ((R.mem hM2).someK (aJ aF hxb))) rfl (wq (dJ _ bJ (R.mem hM2) (aJ aF hxb) rfl) rfl ?_))))))))))
  refine bZ bJo rfl rfl (aRw _ _ _ _ _ _ hr (hM2.ownAt (i := 0) rfl) xb (by omega)) ?_
  rintro v3 w3 ⟨A3, n3, c3, e3, rfl, hR3, hM3⟩
  have M3 : Mem _ _ [_] _ := hM2.seg 0 1 hM3
  refine wq (aG (.tuple (List.toArray _)) rfl) rfl (wq (bB (.slice _ _ _) rfl rfl) rfl (wq (bB (.int _ _) rfl rfl) rfl (eG rfl rfl (bI rfl rfl (aB (aC (aA ?_)))))))
  refine dN rfl rfl (eG rfl rfl (aB (dD (aC (aA (aZ rfl rfl ?_))))))
  refine wq (bP rfl rfl (by omega) (by omega)) rfl (bI rfl rfl (aB ?_))
  refine cO (k + 1, ⟨A3, n3, c3, e3⟩) (bM rfl (bM rfl eP)) (cU rfl (cU rfl jT)) ?_ ?_
  ·exact ⟨⟨by omega, by rw [aQn hxb]; exact hR3⟩, M3⟩
  ·(show n - (k + 1) < n - k; omega)
 ·refine cR (dC (dA (eZ (aC (aD (aA (dN rfl rfl ?_)))))))
  refine eG rfl rfl (aB (aC (aL (cA (.slice _ _ _) rfl ?_))))
  have hkn : k = n := by omega
  subst hkn
  rw [List.take_of_length_le (by omega)] at hr
  exact ⟨_, _, _, _, rfl, hr, hM2⟩
end Go.Proofs.YtaoaknafiegfoaaGreatDoor
