/- Part of the proof of the laws of this seat: S20i, S20j, S20k, S20l, S20m, S20n, R20a, R20b, R20c, R20d, R20e, R20f, Aw20. No conditions. -/
import Derived.Test.YtlmcphcgiclanaaGreatDoorK5
import Derived.Test.YtlmcphcgiclanaaGreatDoorK27
import Derived.Test.YtlmcphcgiclanaaGreatDoorK30
import Derived.Test.YtlmcphcgiclanaaGreatDoorK29
import Derived.Test.YtlmcphcgiclanaaGreatDoorK28
set_option linter.unusedVariables false
set_option linter.unusedSimpArgs false
set_option linter.unnecessarySimpa false
namespace Go.Proofs.YtlmcphcgiclanaaGreatDoor
open Go.Bil
open Go.RowKit (Below)
open Go.Proofs
set_option maxHeartbeats 4000000 in
theorem jS (w : World) (a l : Int) (hl : 0 ≤ l ∧ l ≤ 2147483647) (bf : Nat) (fl : Bool) (F : Option Addr) (cf : Nat) (RF : Rd w 1 F 1 [[.pointer (some ⟨bf, 0, none⟩)]]) (hdF : 0 < 1 → ∀ q off, F = some ⟨q, off, none⟩ → q ∉ bX [(some bf, bc [.bool fl] 4)]) (hO : Own [(some bf, bc [.bool fl] 4)] w) :
    Calls Tryz.prog 85 #[.int .i64 a, .int .i64 l, .slice F 1 cf] w (fun ex w' => ∃ v, ex = .returned v ∧ (fun v w' => v = .int .i32 (hJ a l) ∧ Mem w (bX [(some bf, bc [.bool fl] 4)]) [(some bf, bc [.bool (fl || decide (hJ a l ≠ a))] 4)] w') v w') := by
  have hr := dZ a hl.1
  refine aJ #[.tmp 6] 34 Tryz.func85 rfl Tryz.results85 Tryz.ntmps85 rfl ?_
  have M0 := hO.mem
  refine aG (aB ?_)
  refine aA (aE (.int _ _) rfl) rfl rfl ?_
  refine aC (aF (aG (aB ?_)))
  refine aA (aD (.int _ _) rfl) rfl rfl ?_
  refine aA (aD (.int _ _) rfl) rfl rfl ?_
  refine aK aIf rfl rfl rfl ?_
  refine (yE _ a l (by omega)).mono ?_
  rintro _ w1 ⟨v1, rfl, ⟨rfl, hb1⟩⟩
  refine ⟨_, rfl, ?_⟩
  have M1 := M0.callB hb1
  refine aA (aD (.tuple (List.toArray _)) rfl) rfl rfl ?_
  refine aA (bG (.int _ _) rfl rfl) rfl rfl ?_
  refine aA (bG (.bool (decide _)) rfl rfl) rfl rfl ?_
  refine aA (aE (.int _ _) rfl) rfl rfl ?_
  refine aA (aE (.bool (decide _)) rfl) rfl rfl ?_
  refine aC (aF (aG (aG (aB ?_))))
  refine aA (aD (.slice _ _ _) rfl) rfl rfl ?_
  refine aA (cT Tryz.underlying175 rfl) rfl rfl ?_
  refine aM 18 (.int .i64 1) (iE rfl) ?_
  refine aA (aD (.int _ _) rfl) rfl rfl ?_
  refine aC (aF (aV ?_))
  refine lA 2 (gJ ?_)
  refine aG (aB ?_)
  refine aA (aP (.bool (decide _)) rfl rfl rfl) rfl rfl ?_
  refine aM 20 (.bool true) (bT (by first | decide | omega)).symm ?_
  refine aC (aF (aG ?_))
  refine cK rfl ?_
  refine aN (aF (aG (aV (aG (aB ?_)))))
  refine aA (bU (0) zN rfl rfl rfl ((RF.memY M1 hdF).below_len ((show ([[.pointer (some ⟨bf, 0, none⟩)]] : List (List Value))[0]? = some [.pointer (some ⟨bf, 0, none⟩)] from rfl))) ((RF.memY M1 hdF).someK ((show ([[.pointer (some ⟨bf, 0, none⟩)]] : List (List Value))[0]? = some [.pointer (some ⟨bf, 0, none⟩)] from rfl)))) rfl rfl ?_
  refine aA (iB (.pointer _) aZg (RF.memY M1 hdF) ((show ([[.pointer (some ⟨bf, 0, none⟩)]] : List (List Value))[0]? = some [.pointer (some ⟨bf, 0, none⟩)] from rfl)) rfl) rfl rfl ?_
  refine aA (aE (.pointer _) rfl) rfl rfl ?_
  refine aC (aF (aB ?_))
  refine aA (aD (.pointer _) rfl) rfl rfl ?_
  refine aA (aD (.pointer _) rfl) rfl rfl ?_
  refine aA (aO rfl) rfl rfl ?_
  refine aA (aQ 0 (.bool _) oE M1 rfl rfl rfl) rfl rfl ?_
  refine aA (aD (.bool _) rfl) rfl rfl ?_
  refine mF 27 _ rfl (fun g27 => ?_) (fun g27 => ?_)
  · refine aS rfl rfl ?_
    refine aA (bN true (.bool true) rfl rfl) rfl rfl ?_
    refine aA (aO rfl) rfl rfl ?_
    refine dX 0 (.bool true) oE M1 rfl rfl rfl rfl rfl rfl (fun w2 M2 => ?_)
    refine aC ?_
    refine dB ?_
    refine aF (aB ?_)
    refine aA (bM rfl rfl (by first | decide | omega) (by first | decide | omega)) rfl rfl ?_
    refine aM 31 (.int .i64 1) (iE (by first | decide | omega)) ?_
    refine aA (aD (.int _ _) rfl) rfl rfl ?_
    refine aC ?_
    refine aF (gJ ?_)
    refine aG (aB ?_)
    refine aA (aP (.bool (decide _)) rfl rfl rfl) rfl rfl ?_
    refine aM 20 (.bool false) (bF (by first | decide | omega)).symm ?_
    refine aC (aF (aG ?_))
    refine cH rfl ?_
    refine cP ?_
    refine dA (dA ?_)
    refine eQ ?_
    refine aF (aG (aB ?_))
    refine aA (aD (.int _ _) rfl) rfl rfl ?_
    refine aA (bV us2 Tryz.underlying21 rfl (kY _ (by omega) (by omega))) rfl rfl ?_
    refine aA (aE (.int _ _) rfl) rfl rfl ?_
    refine aC (aF (aR ?_))
    refine bY (.int _ _) rfl ?_
    first | exact ⟨rfl, by rw [(by simp only [g27, Bool.true_or] : (fl || decide (hJ a l ≠ a)) = true)]; exact M2⟩ | exact ⟨rfl, by rw [(by simp only [g27, Bool.false_or] : (fl || decide (hJ a l ≠ a)) = decide (hJ a l ≠ a))]; exact M2⟩
  · refine aA (aD (.bool (decide _)) rfl) rfl rfl ?_
    refine aA (bN false (.bool (decide _)) rfl rfl) rfl rfl ?_
    refine aA (aO rfl) rfl rfl ?_
    refine dX 0 (.bool (decide _)) oE M1 rfl rfl rfl rfl rfl rfl (fun w3 M3 => ?_)
    refine aC ?_
    refine dB ?_
    refine aF (aB ?_)
    refine aA (bM rfl rfl (by first | decide | omega) (by first | decide | omega)) rfl rfl ?_
    refine aM 31 (.int .i64 1) (iE (by first | decide | omega)) ?_
    refine aA (aD (.int _ _) rfl) rfl rfl ?_
    refine aC ?_
    refine aF (gJ ?_)
    refine aG (aB ?_)
    refine aA (aP (.bool (decide _)) rfl rfl rfl) rfl rfl ?_
    refine aM 20 (.bool false) (bF (by first | decide | omega)).symm ?_
    refine aC (aF (aG ?_))
    refine cH rfl ?_
    refine cP ?_
    refine dA (dA ?_)
    refine eQ ?_
    refine aF (aG (aB ?_))
    refine aA (aD (.int _ _) rfl) rfl rfl ?_
    refine aA (bV us2 Tryz.underlying21 rfl (kY _ (by omega) (by omega))) rfl rfl ?_
    refine aA (aE (.int _ _) rfl) rfl rfl ?_
    refine aC (aF (aR ?_))
    refine bY (.int _ _) rfl ?_
    first | exact ⟨rfl, by rw [(by simp only [g27, Bool.true_or] : (fl || decide (hJ a l ≠ a)) = true)]; exact M3⟩ | exact ⟨rfl, by rw [(by simp only [g27, Bool.false_or] : (fl || decide (hJ a l ≠ a)) = decide (hJ a l ≠ a))]; exact M3⟩
set_option maxHeartbeats 4000000 in
theorem aMs (w : World) (i : Int) (b : Body) (hb : Okb b) (bf : Nat) (fl : Bool) (hO : Own [(some bf, bc [.bool fl] 4)] w) :
    Calls Tryz.prog 83 #[.int .i64 i, (.agg (aI b).toArray), .pointer (some ⟨bf, 0, none⟩)] w (fun ex w' => ∃ v, ex = .returned v ∧ (fun v w' => v = (.agg (aI (oM b)).toArray) ∧ Mem w (bX [(some bf, bc [.bool fl] 4)]) [(some bf, bc [.bool (fl || oI b)] 4)] w') v w') := by
  have hv := hb.v
  refine aJ #[.cell 5 40] 19 Tryz.func83 rfl Tryz.results83 Tryz.ntmps83 rfl ?_
  have M0 := hO.mem
  refine aG (aB ?_)
  refine bL (.agg (List.toArray _)) M0 rfl rfl rfl (fun b1 w1 M1 => ?_)
  refine aW gL M1 rfl rfl (fun b2 w2 M2 => ?_)
  refine aC (aF (aG (aG (aB ?_))))
  refine aA (bE 1 bO M2 rfl rfl rfl) rfl rfl ?_
  refine aK bCu rfl rfl rfl ?_
  refine (yY _ b).mono ?_
  rintro _ w3 ⟨v3, rfl, ⟨rfl, hb3⟩⟩
  refine ⟨_, rfl, ?_⟩
  have M3 := M2.callB hb3
  refine aA (lC rfl) rfl rfl ?_
  refine aC (aF ?_)
  refine aZ rfl (fun h8 => ?_) (fun h8 => ?_)
  · refine aB ?_
    refine aA (aH 8 eN rfl) rfl rfl ?_
    refine aA (aH 1 dC rfl) rfl rfl ?_
    refine aA (aQ 1 (.int _ _) aX M3 rfl rfl rfl) rfl rfl ?_
    refine aA (bV fL Tryz.underlying2 rfl (jY _ (by omega) (by omega))) rfl rfl ?_
    refine aA (mL rfl rfl (by omega) (by omega)) rfl rfl ?_
    refine cR [.pointer _] [[.pointer (some ⟨bf, 0, none⟩)]] rfl zN M3 rfl rfl rfl rfl (cW rfl) (by decide) (fun b4 w4 M4 => ?_)
    have hlit14 := jK (T := 133) (sz := 1) (b := b4) (nn := 1) [[.pointer (some ⟨bf, 0, none⟩)]] (by simp) rfl (by decide)
    refine aK aEx rfl rfl rfl ?_
    refine (jS _ (b.vy - 1024) 16777216 ⟨by decide, by decide⟩ bf _ _ 1 (hlit14.rd M4 (bB (i := 3) rfl)) (hlit14.awayB M4 3 0 rfl rfl rfl) (M4.ownSeg 0 1)).mono ?_
    rintro _ w5 ⟨v5, rfl, ⟨rfl, hM5⟩⟩
    refine ⟨_, rfl, ?_⟩
    have M5 : Mem _ _ [_, _, _, _] _ := M4.seg 0 1 hM5
    refine aA (aH 8 eN rfl) rfl rfl ?_
    refine aA (aH 1 dC rfl) rfl rfl ?_
    refine dX 1 (.int _ _) aX M5 rfl rfl rfl rfl rfl rfl (fun w6 M6 => ?_)
    refine aC (aF (aG (aB ?_)))
    refine aA (bE 1 bO M6 rfl rfl rfl) rfl rfl ?_
    refine bH 2 _ bO M6 rfl rfl rfl rfl rfl (aY rfl) rfl (fun w7 M7 => ?_)
    refine aC (aF (aR ?_))
    refine iX 2 bO M7 rfl rfl rfl ?_
    exact ⟨by unfold oM; rw [if_neg h8]; rfl, by rw [show oI b = decide (hJ (b.vy - 1024) 16777216 ≠ b.vy - 1024) by unfold oI; rw [decide_eq_true h8, Bool.true_and]]; exact M7.keep [true, false, false, false]⟩
  · refine aN (aF (aG (aB ?_)))
    refine aA (bE 1 bO M3 rfl rfl rfl) rfl rfl ?_
    refine bH 2 _ bO M3 rfl rfl rfl rfl rfl (aY rfl) rfl (fun w8 M8 => ?_)
    refine aC (aF (aR ?_))
    refine iX 2 bO M8 rfl rfl rfl ?_
    exact ⟨by unfold oM; rw [if_pos (Decidable.not_not.1 h8)]; rfl, by rw [show oI b = false by unfold oI; rw [decide_eq_false h8, Bool.false_and], Bool.or_false]; exact M8.keep [true, false, false]⟩
set_option maxHeartbeats 4000000 in
theorem aIb (w : World) (A : Option Addr) (n c : Nat) (xs : List Body) (R : Rd w 10 A n (xs.map aI)) (hb : ∀ b ∈ xs, Okb b) (hn : n ≤ 1048576) (bf : Nat) (hO : Own [(some bf, bc [.bool false] 4)] w) (hdA : 0 < n → ∀ q off, A = some ⟨q, off, none⟩ → q ∉ bX [(some bf, bc [.bool false] 4)]) :
    Calls Tryz.prog 82 #[.slice A n c, .func (.func 83) #[] #[.pointer (some ⟨bf, 0, none⟩)]] w (fun ex w' => ∃ v, ex = .returned v ∧ (fun v w' => ∃ r : Row, v = .slice r.A r.n r.c ∧ bA 40 10 r.A r.n r.c ((pU xs).map aI) r.e ∧ Mem w (bX [(some bf, bc [.bool false] 4)]) [(some bf, bc [.bool (xs.any oI)] 4), r.e] w') v w') := by
  have hlen : xs.length = n := by simpa using R.len
  have hbd := R.bound
  refine aJ #[.tmp 4] 24 Tryz.func82 rfl Tryz.results82 Tryz.ntmps82 rfl ?_
  have M0 := hO.mem
  refine aG (aB ?_)
  refine aA (aE (.slice _ _ _) rfl) rfl rfl ?_
  refine aC (aF (aG (aB ?_)))
  refine aA (aE (.slice _ _ _) rfl) rfl rfl ?_
  have M1 := M0.dummy default
  refine aC (aF (aG (aG (aB ?_))))
  refine aA (aD (.slice _ _ _) rfl) rfl rfl ?_
  refine aA (cT Tryz.underlying22 rfl) rfl rfl ?_
  refine aA (aD (.int _ _) rfl) rfl rfl ?_
  refine aC (aF (aV ?_))
  refine dK (σ := Nat × Row) [1, 4, 8, 9] (fun (k, q) => [(5, .slice q.A q.n q.c), (10, .int .i64 (k : Int))]) (fun (k, q) w' => (k ≤ n ∧ bA 40 10 q.A q.n q.c (((xs.take k).map oM).map aI) q.e) ∧ Mem w (bX [(some bf, bc [.bool false] 4)]) [(some bf, bc [.bool ((xs.take k).any oI)] 4), q.e] w') (fun (k, q) => n - k) (0, iK) (bK rfl (bK rfl eO)) (⟨⟨by omega, bA.nil _ _ _⟩, M1⟩) ?_
  rintro ⟨k, q⟩ ρ2 w2 ⟨⟨hk, hq⟩, hM2⟩
  have htl := List.length_take_le k xs
  have hqn : (xs.take k).length = q.n := by simpa using hq.1
  refine aG (aB ?_)
  refine aA (aP (.bool (decide _)) rfl rfl rfl) rfl rfl ?_
  refine aC (aF (aG ?_))
  refine aZ rfl (fun h11 => ?_) (fun h11 => ?_)
  · obtain ⟨xb, hxb⟩ := cL (xs := xs) (k := k) hlen (by omega)
    refine aN (aF (aG (aV (aG (aB ?_)))))
    refine aA (aD (.int _ _) rfl) rfl rfl ?_
    refine aA (bU (k) dO rfl rfl rfl ((R.memY hM2 hdA).below_len (aL aI hxb)) ((R.memY hM2 hdA).someK (aL aI hxb))) rfl rfl ?_
    refine aA (dS _ bO (R.memY hM2 hdA) (aL aI hxb) rfl) rfl rfl ?_
    refine aW gL hM2 rfl rfl (fun b3 w3 M3 => ?_)
    refine aA (aE (.int _ _) rfl) rfl rfl ?_
    refine bH 2 _ bO M3 rfl rfl rfl rfl rfl (aY rfl) rfl (fun w4 M4 => ?_)
    refine aC (aF (aB ?_))
    refine aA (aD (.slice _ _ _) rfl) rfl rfl ?_
    refine aA (aD (.func _ _ _) rfl) rfl rfl ?_
    refine aA (aD (.int _ _) rfl) rfl rfl ?_
    refine aA (bE 2 bO M4 rfl rfl rfl) rfl rfl ?_
    refine aK bCr rfl rfl rfl ?_
    refine (aMs _ _ xb (hb xb (List.mem_of_getElem? hxb)) bf _ (M4.ownSeg 0 1)).mono ?_
    rintro _ w5 ⟨v5, rfl, ⟨rfl, hM5⟩⟩
    refine ⟨_, rfl, ?_⟩
    have M5 : Mem _ _ [_, _, _] _ := M4.seg 0 1 hM5
    refine cR [.agg (List.toArray _)] [aI (oM xb)] rfl dO M5 rfl rfl rfl rfl (cW rfl) (by decide) (fun b6 w6 M6 => ?_)
    refine dL 1 [aI (oM xb)] dO M6 rfl rfl rfl rfl rfl hq rfl (by simp [aI, Go.Bil.one]) (cX.ofMem 3 M6 rfl) (by omega) (fun A7 c7 e7 w7 M7 hR7 => ?_)
    refine aA (aE (.slice _ _ _) rfl) rfl rfl ?_
    refine aC ?_
    refine dB ?_
    refine aF (aB ?_)
    refine aA (bM rfl rfl (by omega) (by omega)) rfl rfl ?_
    refine aA (aD (.int _ _) rfl) rfl rfl ?_
    refine aC ?_
    refine cO (k + 1, ⟨A7, q.n + 1, c7, e7⟩) (bK rfl (bK rfl eO)) (cS rfl (cS rfl (cS rfl (cS rfl jB)))) ?_ ?_
    · exact ⟨⟨by omega, by rw [cV hxb, List.map_append, List.map_append]; exact hR7⟩, by rw [cV hxb, List.any_append, List.any_cons, List.any_nil, Bool.or_false]; exact M7.keep [true, true, false, false]⟩
    · (show n - (k + 1) < n - k; omega)
  · have hkn : k = n := by omega
    rw [List.take_of_length_le (by omega)] at hq
    rw [List.take_of_length_le (by omega)] at hM2
    refine cP ?_
    refine dA ?_
    refine cZ ?_
    refine eQ ?_
    refine aF (aG (aB ?_))
    refine aA (aD (.slice _ _ _) rfl) rfl rfl ?_
    refine aA (aE (.slice _ _ _) rfl) rfl rfl ?_
    refine aC (aF (aR ?_))
    refine bY (.slice _ _ _) rfl ?_
    exact ⟨q, rfl, hq, hM2⟩
set_option maxHeartbeats 4000000 in
theorem aEc (w : World) (A : Option Addr) (n c : Nat) (xs : List Body) (R : Rd w 10 A n (xs.map aI)) (hb : ∀ b ∈ xs, Okb b) (hn : n ≤ 1048576) :
    Calls Tryz.prog 53 #[.slice A n c] w (fun ex w' => ∃ v, ex = .returned v ∧ (fun v w' => ∃ r : Row, v = .tuple #[.slice r.A r.n r.c, .bool (xs.any oI)] ∧ bA 40 10 r.A r.n r.c ((pU xs).map aI) r.e ∧ Mem w [] [r.e] w') v w') := by
  refine aJ #[.tmp 2, .tmp 3] 11 Tryz.func53 rfl Tryz.results53 Tryz.ntmps53 rfl ?_
  have M0 := Mem.refl w
  refine aG (aB ?_)
  refine aA (aE (.slice _ _ _) rfl) rfl rfl ?_
  refine aA (aE (.bool false) rfl) rfl rfl ?_
  refine aC (aF (aG (aB ?_)))
  refine aW aLa M0 rfl rfl (fun b1 w1 M1 => ?_)
  refine dX 0 (.bool false) oE M1 rfl rfl rfl rfl rfl rfl (fun w2 M2 => ?_)
  refine aC (aF (aG (aB ?_)))
  refine aA (aD (.slice _ _ _) rfl) rfl rfl ?_
  refine aA (cQ [] [.pointer _] rfl rfl) rfl rfl ?_
  refine aK aXq rfl rfl rfl ?_
  refine (aIb _ A n c xs (R.mem M2) hb hn b1 (M2.ownSeg 0 1) (M2.away 0 1 R (by simp))).mono ?_
  rintro _ w3 ⟨v3, rfl, ⟨r, rfl, hr, hM3⟩⟩
  refine ⟨_, rfl, ?_⟩
  have M3 : Mem _ _ [_, _] _ := M2.seg 0 1 hM3
  refine aA (aE (.slice _ _ _) rfl) rfl rfl ?_
  refine aC (aF (aG ?_))
  refine bS [(0, 0), (1, 1), (2, 0), (3, 0)] mixed rfl (by kernel_rfl) (fun w4 hb4 hh4 => ?_)
  have M4 := M3.drew hb4 hh4
  refine aU rfl rfl rfl (fun _ => aD (.slice _ _ _) rfl) ?_
  refine cB rfl rfl rfl (aQ 0 (.bool _) oE M4 rfl rfl rfl) ?_
  refine aU rfl rfl rfl (fun _ => aE (.slice _ _ _) rfl) ?_
  refine aU rfl rfl rfl (fun _ => aE (.bool _) rfl) ?_
  refine cF ?_
  refine aF (aR ?_)
  refine fZ (.slice _ _ _) (.bool _) rfl rfl ?_
  exact ⟨r, rfl, hr, M4.keep [false, true]⟩
end Go.Proofs.YtlmcphcgiclanaaGreatDoor

namespace Go.Proofs.YtlmcphcgiclanaaGreatDoor
open Go.Bil
open Go.RowKit (Below)
open Go.Proofs
set_option maxHeartbeats 4000000 in
theorem aOf (w : World) (i : Nat) (b : Body) (hb : Okb b) (bf bl : Nat) (fl : Bool) (C : Option Addr) (m cm : Nat) (l : List (Int × Int)) (RS : Rd w 2 C m (l.map cI)) (s : Int × Int) (hs : l[i]? = some s) (hsb : (-1152921504606846976 ≤ s.1 ∧ s.1 ≤ 1152921504606846976) ∧ -1152921504606846976 ≤ s.2 ∧ s.2 ≤ 1152921504606846976) (hO : Own [(some bf, bc [.bool fl] 4), (some bl, bc [.slice C m cm] 97)] w) (hdS : 0 < m → ∀ q off, C = some ⟨q, off, none⟩ → q ∉ bX [(some bf, bc [.bool fl] 4), (some bl, bc [.slice C m cm] 97)]) :
    Calls Tryz.prog 86 #[.int .i64 (i : Int), (.agg (aI b).toArray), .pointer (some ⟨bl, 0, none⟩), .pointer (some ⟨bf, 0, none⟩)] w (fun ex w' => ∃ v, ex = .returned v ∧ (fun v w' => v = (.agg (aI (aCr b s.1 s.2)).toArray) ∧ Mem w (bX [(some bf, bc [.bool fl] 4), (some bl, bc [.slice C m cm] 97)]) [(some bf, bc [.bool (fl || aOn b s.1 s.2)] 4), (some bl, bc [.slice C m cm] 97)] w') v w') := by
  have hv := hb.v
  have hpp := hb.p
  have hlm : l.length = m := by simpa using RS.len
  have hil := (List.getElem?_eq_some_iff.1 hs).1
  refine aJ #[.cell 6 40] 50 Tryz.func86 rfl Tryz.results86 Tryz.ntmps86 rfl ?_
  have M0 := hO.mem
  refine aG (aB ?_)
  refine bL (.agg (List.toArray _)) M0 rfl rfl rfl (fun b1 w1 M1 => ?_)
  refine aW gL M1 rfl rfl (fun b2 w2 M2 => ?_)
  refine aC (aF (aG ?_))
  refine bS [(0, 0), (1, 0), (2, 1), (3, 0), (4, 1), (5, 0), (6, 1), (7, 1), (8, 1), (9, 0), (10, 0), (11, 0), (12, 1), (13, 0), (14, 0), (15, 0), (16, 0)] mixed rfl (by kernel_rfl) (fun w3 hb3 hh3 => ?_)
  have M3 := M2.drew hb3 hh3
  refine aU rfl rfl rfl (fun _ => aH 6 fG rfl) ?_
  refine aU rfl rfl rfl (fun _ => aH 0 dG rfl) ?_
  refine cB rfl rfl rfl (aQ 2 (.int _ _) aX M3 rfl rfl rfl) ?_
  refine aU rfl rfl rfl (fun _ => bV fL Tryz.underlying2 rfl (jY _ (by omega) (by omega))) ?_
  refine cB rfl rfl rfl (aQ 1 (.slice _ _ _) zR M3 rfl rfl rfl) ?_
  refine aU rfl rfl rfl (fun _ => aD (.int _ _) rfl) ?_
  refine cB rfl rfl rfl (bU (i) aIx rfl rfl rfl ((RS.memY M3 hdS).below_len (aL cI hs)) ((RS.memY M3 hdS).someK (aL cI hs))) ?_
  refine cB rfl rfl rfl (bP 0 wU (RS.memY M3 hdS) (Nat.lt_of_le_of_lt (Nat.zero_le _) ((RS.memY M3 hdS).below_len (aL cI hs))) rfl) ?_
  refine cB rfl rfl rfl (eH (o := 0) (.int _ _) lB (RS.memY M3 hdS) (aL cI hs) rfl rfl) ?_
  refine aU rfl rfl rfl (fun _ => bM rfl rfl (by omega) (by omega)) ?_
  refine aU rfl rfl rfl (fun _ => aH 8 eN rfl) ?_
  refine aU rfl rfl rfl (fun _ => aH 0 dG rfl) ?_
  refine cB rfl rfl rfl (aQ 2 (.int _ _) aX M3 rfl rfl rfl) ?_
  refine aU rfl rfl rfl (fun _ => gA rfl rfl (by decide)) ?_
  refine iL 22 (.int .i32 (b.vx / 64)) (iE (aEr _)) ?_
  refine aU rfl rfl rfl (fun _ => bV fL Tryz.underlying2 rfl (jY _ (by omega) (by omega))) ?_
  refine aU rfl rfl rfl (fun _ => bM rfl rfl (by omega) (by omega)) ?_
  refine iL 24 (.int .i64 (aHo b s.1)) rfl ?_
  refine aU rfl rfl rfl (fun _ => aE (.int _ _) rfl) ?_
  refine cF ?_
  refine aF (aG ?_)
  refine bS [(0, 0), (1, 0), (2, 1), (3, 0), (4, 1), (5, 0), (6, 1), (7, 1), (8, 1), (9, 0), (10, 0), (11, 0), (12, 1), (13, 0), (14, 0), (15, 0), (16, 0)] mixed rfl (by kernel_rfl) (fun w4 hb4 hh4 => ?_)
  have M4 := M3.drew hb4 hh4
  refine aU rfl rfl rfl (fun _ => aH 6 fG rfl) ?_
  refine aU rfl rfl rfl (fun _ => aH 1 dC rfl) ?_
  refine cB rfl rfl rfl (aQ 2 (.int _ _) aX M4 rfl rfl rfl) ?_
  refine aU rfl rfl rfl (fun _ => bV fL Tryz.underlying2 rfl (jY _ (by omega) (by omega))) ?_
  refine cB rfl rfl rfl (aQ 1 (.slice _ _ _) zR M4 rfl rfl rfl) ?_
  refine aU rfl rfl rfl (fun _ => aD (.int _ _) rfl) ?_
  refine cB rfl rfl rfl (bU (i) aIx rfl rfl rfl ((RS.memY M4 hdS).below_len (aL cI hs)) ((RS.memY M4 hdS).someK (aL cI hs))) ?_
  refine cB rfl rfl rfl (bP 1 yA (RS.memY M4 hdS) (Nat.lt_of_le_of_lt (Nat.zero_le _) ((RS.memY M4 hdS).below_len (aL cI hs))) rfl) ?_
  refine cB rfl rfl rfl (eH (o := 1) (.int _ _) lB (RS.memY M4 hdS) (aL cI hs) rfl rfl) ?_
  refine aU rfl rfl rfl (fun _ => bM rfl rfl (by omega) (by omega)) ?_
  refine aU rfl rfl rfl (fun _ => aH 8 eN rfl) ?_
  refine aU rfl rfl rfl (fun _ => aH 1 dC rfl) ?_
  refine cB rfl rfl rfl (aQ 2 (.int _ _) aX M4 rfl rfl rfl) ?_
  refine aU rfl rfl rfl (fun _ => gA rfl rfl (by decide)) ?_
  refine iL 38 (.int .i32 (b.vy / 64)) (iE (aEr _)) ?_
  refine aU rfl rfl rfl (fun _ => bV fL Tryz.underlying2 rfl (jY _ (by omega) (by omega))) ?_
  refine aU rfl rfl rfl (fun _ => bM rfl rfl (by omega) (by omega)) ?_
  refine iL 40 (.int .i64 (aIl b s.2)) rfl ?_
  refine aU rfl rfl rfl (fun _ => aE (.int _ _) rfl) ?_
  refine cF ?_
  refine aF (aG (aB ?_))
  refine aA (aD (.int _ _) rfl) rfl rfl ?_
  refine cR [.pointer _] [[.pointer (some ⟨bf, 0, none⟩)]] rfl zN M4 rfl rfl rfl rfl (cW rfl) (by decide) (fun b5 w5 M5 => ?_)
  have hlit42 := jK (T := 133) (sz := 1) (b := b5) (nn := 1) [[.pointer (some ⟨bf, 0, none⟩)]] (by simp) rfl (by decide)
  refine aK aEx rfl rfl rfl ?_
  refine (jS _ (aHo b s.1) 1073741824 ⟨by decide, by decide⟩ bf _ _ 1 (hlit42.rd M5 (bB (i := 4) rfl)) (hlit42.awayB M5 4 0 rfl rfl rfl) (M5.ownSeg 0 1)).mono ?_
  rintro _ w6 ⟨v6, rfl, ⟨rfl, hM6⟩⟩
  refine ⟨_, rfl, ?_⟩
  have M6 : Mem _ _ [_, _, _, _, _] _ := M5.seg 0 1 hM6
  refine aA (aD (.int _ _) rfl) rfl rfl ?_
  refine cR [.pointer _] [[.pointer (some ⟨bf, 0, none⟩)]] rfl zN M6 rfl rfl rfl rfl (cW rfl) (by decide) (fun b7 w7 M7 => ?_)
  have hlit45 := jK (T := 133) (sz := 1) (b := b7) (nn := 1) [[.pointer (some ⟨bf, 0, none⟩)]] (by simp) rfl (by decide)
  refine aK aEx rfl rfl rfl ?_
  refine (jS _ (aIl b s.2) 1073741824 ⟨by decide, by decide⟩ bf _ _ 1 (hlit45.rd M7 (bB (i := 5) rfl)) (hlit45.awayB M7 5 0 rfl rfl rfl) (M7.ownSeg 0 1)).mono ?_
  rintro _ w8 ⟨v8, rfl, ⟨rfl, hM8⟩⟩
  refine ⟨_, rfl, ?_⟩
  have M8 : Mem _ _ [_, _, _, _, _, _] _ := M7.seg 0 1 hM8
  refine aA (cN [(0, .int _ _), (1, .int _ _)] _ eJ rfl rfl) rfl rfl ?_
  refine aA (aH 6 fG rfl) rfl rfl ?_
  refine aBw 2 _ bJ M8 rfl rfl rfl rfl rfl (aY rfl) (Nat.le_of_ble_eq_true rfl) (fun w9 M9 => ?_)
  refine aC (aF (aG (aB ?_)))
  refine aA (bE 2 bO M9 rfl rfl rfl) rfl rfl ?_
  refine bH 3 _ bO M9 rfl rfl rfl rfl rfl (aY rfl) rfl (fun w10 M10 => ?_)
  refine aC (aF (aR ?_))
  refine iX 3 bO M10 rfl rfl rfl ?_
  exact ⟨rfl, by rw [show (fl || aOn b s.1 s.2) = ((fl || decide (hJ (aHo b s.1) 1073741824 ≠ aHo b s.1)) || decide (hJ (aIl b s.2) 1073741824 ≠ aIl b s.2)) from (Bool.or_assoc _ _ _).symm]; exact M10.keep [true, true, false, false, false, false]⟩
end Go.Proofs.YtlmcphcgiclanaaGreatDoor

namespace Go.Proofs.YtlmcphcgiclanaaGreatDoor
open Go.Bil
open Go.RowKit (Below)
open Go.Proofs
set_option maxHeartbeats 4000000 in
theorem aJd (w : World) (A : Option Addr) (n c : Nat) (xs : List Body) (R : Rd w 10 A n (xs.map aI)) (hb : ∀ b ∈ xs, Okb b) (hn : n ≤ 1048576) (bf bl : Nat) (G : Body → Int × Int) (hG : ∀ b ∈ xs, (-1152921504606846976 ≤ (G b).1 ∧ (G b).1 ≤ 1152921504606846976) ∧ -1152921504606846976 ≤ (G b).2 ∧ (G b).2 ≤ 1152921504606846976) (C : Option Addr) (cm : Nat) (RS : Rd w 2 C n ((xs.map G).map cI)) (hO : Own [(some bf, bc [.bool false] 4), (some bl, bc [.slice C n cm] 97)] w) (hdA : 0 < n → ∀ q off, A = some ⟨q, off, none⟩ → q ∉ bX [(some bf, bc [.bool false] 4), (some bl, bc [.slice C n cm] 97)]) (hdS : 0 < n → ∀ q off, C = some ⟨q, off, none⟩ → q ∉ bX [(some bf, bc [.bool false] 4), (some bl, bc [.slice C n cm] 97)]) :
    Calls Tryz.prog 82 #[.slice A n c, .func (.func 86) #[] #[.pointer (some ⟨bl, 0, none⟩), .pointer (some ⟨bf, 0, none⟩)]] w (fun ex w' => ∃ v, ex = .returned v ∧ (fun v w' => ∃ r : Row, v = .slice r.A r.n r.c ∧ bA 40 10 r.A r.n r.c ((xs.map (fun b => aCr b (G b).1 (G b).2)).map aI) r.e ∧ Mem w (bX [(some bf, bc [.bool false] 4), (some bl, bc [.slice C n cm] 97)]) [(some bf, bc [.bool (xs.any (fun b => aOn b (G b).1 (G b).2))] 4), (some bl, bc [.slice C n cm] 97), r.e] w') v w') := by
  have hlen : xs.length = n := by simpa using R.len
  have hbd := R.bound
  refine aJ #[.tmp 4] 24 Tryz.func82 rfl Tryz.results82 Tryz.ntmps82 rfl ?_
  have M0 := hO.mem
  refine aG (aB ?_)
  refine aA (aE (.slice _ _ _) rfl) rfl rfl ?_
  refine aC (aF (aG (aB ?_)))
  refine aA (aE (.slice _ _ _) rfl) rfl rfl ?_
  have M1 := M0.dummy default
  refine aC (aF (aG (aG (aB ?_))))
  refine aA (aD (.slice _ _ _) rfl) rfl rfl ?_
  refine aA (cT Tryz.underlying22 rfl) rfl rfl ?_
  refine aA (aD (.int _ _) rfl) rfl rfl ?_
  refine aC (aF (aV ?_))
  refine dK (σ := Nat × Row) [1, 4, 8, 9] (fun (k, q) => [(5, .slice q.A q.n q.c), (10, .int .i64 (k : Int))]) (fun (k, q) w' => (k ≤ n ∧ bA 40 10 q.A q.n q.c (((xs.take k).map (fun b => aCr b (G b).1 (G b).2)).map aI) q.e) ∧ Mem w (bX [(some bf, bc [.bool false] 4), (some bl, bc [.slice C n cm] 97)]) [(some bf, bc [.bool ((xs.take k).any (fun b => aOn b (G b).1 (G b).2))] 4), (some bl, bc [.slice C n cm] 97), q.e] w') (fun (k, q) => n - k) (0, iK) (bK rfl (bK rfl eO)) (⟨⟨by omega, bA.nil _ _ _⟩, M1⟩) ?_
  rintro ⟨k, q⟩ ρ2 w2 ⟨⟨hk, hq⟩, hM2⟩
  have htl := List.length_take_le k xs
  have hqn : (xs.take k).length = q.n := by simpa using hq.1
  refine aG (aB ?_)
  refine aA (aP (.bool (decide _)) rfl rfl rfl) rfl rfl ?_
  refine aC (aF (aG ?_))
  refine aZ rfl (fun h11 => ?_) (fun h11 => ?_)
  · obtain ⟨xb, hxb⟩ := cL (xs := xs) (k := k) hlen (by omega)
    refine aN (aF (aG (aV (aG (aB ?_)))))
    refine aA (aD (.int _ _) rfl) rfl rfl ?_
    refine aA (bU (k) dO rfl rfl rfl ((R.memY hM2 hdA).below_len (aL aI hxb)) ((R.memY hM2 hdA).someK (aL aI hxb))) rfl rfl ?_
    refine aA (dS _ bO (R.memY hM2 hdA) (aL aI hxb) rfl) rfl rfl ?_
    refine aW gL hM2 rfl rfl (fun b3 w3 M3 => ?_)
    refine aA (aE (.int _ _) rfl) rfl rfl ?_
    refine bH 3 _ bO M3 rfl rfl rfl rfl rfl (aY rfl) rfl (fun w4 M4 => ?_)
    refine aC (aF (aB ?_))
    refine aA (aD (.slice _ _ _) rfl) rfl rfl ?_
    refine aA (aD (.func _ _ _) rfl) rfl rfl ?_
    refine aA (aD (.int _ _) rfl) rfl rfl ?_
    refine aA (bE 3 bO M4 rfl rfl rfl) rfl rfl ?_
    refine aK bDn rfl rfl rfl ?_
    refine (aOf _ k xb (hb xb (List.mem_of_getElem? hxb)) bf bl _ C n cm (xs.map G) (RS.memY M4 hdS) (G xb) (aL G hxb) (hG xb (List.mem_of_getElem? hxb)) (M4.ownSeg 0 2) (M4.away 0 2 RS hdS)).mono ?_
    rintro _ w5 ⟨v5, rfl, ⟨rfl, hM5⟩⟩
    refine ⟨_, rfl, ?_⟩
    have M5 : Mem _ _ [_, _, _, _] _ := M4.seg 0 2 hM5
    refine cR [.agg (List.toArray _)] [aI (aCr xb (G xb).1 (G xb).2)] rfl dO M5 rfl rfl rfl rfl (cW rfl) (by decide) (fun b6 w6 M6 => ?_)
    refine dL 2 [aI (aCr xb (G xb).1 (G xb).2)] dO M6 rfl rfl rfl rfl rfl hq rfl (by simp [aI, Go.Bil.one]) (cX.ofMem 4 M6 rfl) (by omega) (fun A7 c7 e7 w7 M7 hR7 => ?_)
    refine aA (aE (.slice _ _ _) rfl) rfl rfl ?_
    refine aC ?_
    refine dB ?_
    refine aF (aB ?_)
    refine aA (bM rfl rfl (by omega) (by omega)) rfl rfl ?_
    refine aA (aD (.int _ _) rfl) rfl rfl ?_
    refine aC ?_
    refine cO (k + 1, ⟨A7, q.n + 1, c7, e7⟩) (bK rfl (bK rfl eO)) (cS rfl (cS rfl (cS rfl (cS rfl jB)))) ?_ ?_
    · exact ⟨⟨by omega, by rw [cV hxb, List.map_append, List.map_append]; exact hR7⟩, by rw [cV hxb, List.any_append, List.any_cons, List.any_nil, Bool.or_false]; exact M7.keep [true, true, true, false, false]⟩
    · (show n - (k + 1) < n - k; omega)
  · have hkn : k = n := by omega
    rw [List.take_of_length_le (by omega)] at hq
    rw [List.take_of_length_le (by omega)] at hM2
    refine cP ?_
    refine dA ?_
    refine cZ ?_
    refine eQ ?_
    refine aF (aG (aB ?_))
    refine aA (aD (.slice _ _ _) rfl) rfl rfl ?_
    refine aA (aE (.slice _ _ _) rfl) rfl rfl ?_
    refine aC (aF (aR ?_))
    refine bY (.slice _ _ _) rfl ?_
    exact ⟨q, rfl, hq, hM2⟩
set_option maxHeartbeats 4000000 in
theorem aSk (w : World) (A : Option Addr) (n c : Nat) (xs : List Body) (R : Rd w 10 A n (xs.map aI)) (hb : ∀ b ∈ xs, Okb b) (hn : n ≤ 1048576) (G : Body → Int × Int) (hG : ∀ b ∈ xs, (-1152921504606846976 ≤ (G b).1 ∧ (G b).1 ≤ 1152921504606846976) ∧ -1152921504606846976 ≤ (G b).2 ∧ (G b).2 ≤ 1152921504606846976) (C : Option Addr) (cm : Nat) (RS : Rd w 2 C n ((xs.map G).map cI)) :
    Calls Tryz.prog 54 #[.slice A n c, .slice C n cm] w (fun ex w' => ∃ v, ex = .returned v ∧ (fun v w' => ∃ r : Row, v = .tuple #[.slice r.A r.n r.c, .bool (xs.any (fun b => aOn b (G b).1 (G b).2))] ∧ bA 40 10 r.A r.n r.c ((xs.map (fun b => aCr b (G b).1 (G b).2)).map aI) r.e ∧ Mem w [] [r.e] w') v w') := by
  refine aJ #[.tmp 4, .tmp 5] 13 Tryz.func54 rfl Tryz.results54 Tryz.ntmps54 rfl ?_
  have M0 := Mem.refl w
  refine aG (aB ?_)
  refine bL (.slice _ _ _) M0 rfl rfl rfl (fun b1 w1 M1 => ?_)
  refine aA (aE (.slice _ _ _) rfl) rfl rfl ?_
  refine aA (aE (.bool false) rfl) rfl rfl ?_
  refine aC (aF (aG (aB ?_)))
  refine aW aLa M1 rfl rfl (fun b2 w2 M2 => ?_)
  refine dX 1 (.bool false) oE M2 rfl rfl rfl rfl rfl rfl (fun w3 M3 => ?_)
  refine aC (aF (aG (aB ?_)))
  have M4 : Mem _ _ [_, _] _ := Mem.swap2 M3
  refine aA (aD (.slice _ _ _) rfl) rfl rfl ?_
  refine aA (cQ [] [.pointer _, .pointer _] rfl rfl) rfl rfl ?_
  refine aK aXq rfl rfl rfl ?_
  refine (aJd _ A n c xs (R.mem M4) hb hn b2 b1 G hG C cm (RS.mem M4) (M4.ownSeg 0 2) (M4.away 0 2 R (by simp)) (M4.away 0 2 RS (by simp))).mono ?_
  rintro _ w5 ⟨v5, rfl, ⟨r, rfl, hr, hM5⟩⟩
  refine ⟨_, rfl, ?_⟩
  have M5 : Mem _ _ [_, _, _] _ := M4.seg 0 2 hM5
  refine aA (aE (.slice _ _ _) rfl) rfl rfl ?_
  refine aC (aF (aG ?_))
  refine bS [(0, 0), (1, 1), (2, 0), (3, 0)] mixed rfl (by kernel_rfl) (fun w6 hb6 hh6 => ?_)
  have M6 := M5.drew hb6 hh6
  refine aU rfl rfl rfl (fun _ => aD (.slice _ _ _) rfl) ?_
  refine cB rfl rfl rfl (aQ 0 (.bool _) oE M6 rfl rfl rfl) ?_
  refine aU rfl rfl rfl (fun _ => aE (.slice _ _ _) rfl) ?_
  refine aU rfl rfl rfl (fun _ => aE (.bool _) rfl) ?_
  refine cF ?_
  refine aF (aR ?_)
  refine fZ (.slice _ _ _) (.bool _) rfl rfl ?_
  exact ⟨r, rfl, hr, M6.keep [false, false, true]⟩
end Go.Proofs.YtlmcphcgiclanaaGreatDoor

namespace Go.Proofs.YtlmcphcgiclanaaGreatDoor
open Go.Bil
open Go.RowKit (Below)
open Go.Proofs
set_option maxHeartbeats 4000000 in
theorem aJh (w : World) (bs : Nat) (vr lr : Row) (tt mm : Int) (cl : Bool) (A : Option Addr) (n c : Nat) (q : Row) (c2 : Bool) (hO : Own [(some bs, bc [.slice A n c, .slice vr.A vr.n vr.c, .slice lr.A lr.n lr.c, .int .i64 tt, .int .i64 mm, .bool cl] 84)] w) :
    Calls Tryz.prog 72 #[.pointer (some ⟨bs, 0, none⟩), .slice q.A q.n q.c, .bool c2] w (fun ex w' => ∃ v, ex = .returned v ∧ (fun v w' => v = .tuple #[] ∧ Mem w (bX [(some bs, bc [.slice A n c, .slice vr.A vr.n vr.c, .slice lr.A lr.n lr.c, .int .i64 tt, .int .i64 mm, .bool cl] 84)]) [(some bs, bc [.slice A n c, .slice q.A q.n q.c, .slice lr.A lr.n lr.c, .int .i64 tt, .int .i64 mm, .bool (cl || c2)] 84)] w') v w') := by
  refine aJ #[] 22 Tryz.func72 rfl Tryz.results72 Tryz.ntmps72 rfl ?_
  have M0 := hO.mem
  refine aG (aB ?_)
  refine aA (aD (.pointer _) rfl) rfl rfl ?_
  refine aA (aD (.slice _ _ _) rfl) rfl rfl ?_
  refine aA (aO rfl) rfl rfl ?_
  refine aA (aH 1 uT rfl) rfl rfl ?_
  refine dX 0 (.slice _ _ _) eX M0 rfl rfl rfl rfl rfl rfl (fun w1 M1 => ?_)
  refine aC (aF (aB ?_))
  refine aA (aD (.pointer _) rfl) rfl rfl ?_
  refine aA (aD (.pointer _) rfl) rfl rfl ?_
  refine aA (aO rfl) rfl rfl ?_
  refine aA (aH 3 oZ rfl) rfl rfl ?_
  refine aA (aH 2 uV rfl) rfl rfl ?_
  refine aA (aQ 0 (.bool _) oE M1 rfl rfl rfl) rfl rfl ?_
  refine aA (aD (.bool _) rfl) rfl rfl ?_
  refine mF 16 _ rfl (fun g16 => ?_) (fun g16 => ?_)
  · refine aS rfl rfl ?_
    refine aA (bN true (.bool true) rfl rfl) rfl rfl ?_
    refine aA (aO rfl) rfl rfl ?_
    refine aA (aH 3 oZ rfl) rfl rfl ?_
    refine aA (aH 2 uV rfl) rfl rfl ?_
    refine dX 0 (.bool true) oE M1 rfl rfl rfl rfl rfl rfl (fun w2 M2 => ?_)
    refine aC ?_
    refine iD ?_
    first | exact ⟨rfl, by rw [(by simp only [g16, Bool.true_or] : (cl || c2) = true)]; exact M2⟩ | exact ⟨rfl, by rw [(by simp only [g16, Bool.false_or] : (cl || c2) = c2)]; exact M2⟩
  · refine aA (aD (.bool _) rfl) rfl rfl ?_
    refine aA (bN false (.bool _) rfl rfl) rfl rfl ?_
    refine aA (aO rfl) rfl rfl ?_
    refine aA (aH 3 oZ rfl) rfl rfl ?_
    refine aA (aH 2 uV rfl) rfl rfl ?_
    refine dX 0 (.bool _) oE M1 rfl rfl rfl rfl rfl rfl (fun w3 M3 => ?_)
    refine aC ?_
    refine iD ?_
    first | exact ⟨rfl, by rw [(by simp only [g16, Bool.true_or] : (cl || c2) = true)]; exact M3⟩ | exact ⟨rfl, by rw [(by simp only [g16, Bool.false_or] : (cl || c2) = c2)]; exact M3⟩
set_option maxHeartbeats 4000000 in
theorem aUs (w : World) (F : Rd w 2 (some ⟨0, 0, none⟩) 1 [[.int .u32 73856093, .int .u32 19349663]]) (N : Rd w 4 (some ⟨3, 0, none⟩) 1 [dI jA]) (bs : Nat) (vr lr : Row) (tt mm : Int) (cl : Bool) (A : Option Addr) (n c : Nat) (xs : List Body) (R : Rd w 10 A n (xs.map aI)) (hb : ∀ b ∈ xs, Okb b) (hs : bW xs) (hn : n ≤ 4096) (hO : Own [(some bs, bc [.slice A n c, .slice vr.A vr.n vr.c, .slice lr.A lr.n lr.c, .int .i64 tt, .int .i64 mm, .bool cl] 84)] w) (hdA : 0 < n → ∀ q off, A = some ⟨q, off, none⟩ → q ∉ bX [(some bs, bc [.slice A n c, .slice vr.A vr.n vr.c, .slice lr.A lr.n lr.c, .int .i64 tt, .int .i64 mm, .bool cl] 84)]) (hdF : 0 < 1 → ∀ q off, (some ⟨0, 0, none⟩ : Option Addr) = some ⟨q, off, none⟩ → q ∉ bX [(some bs, bc [.slice A n c, .slice vr.A vr.n vr.c, .slice lr.A lr.n lr.c, .int .i64 tt, .int .i64 mm, .bool cl] 84)]) (hdN : 0 < 1 → ∀ q off, (some ⟨3, 0, none⟩ : Option Addr) = some ⟨q, off, none⟩ → q ∉ bX [(some bs, bc [.slice A n c, .slice vr.A vr.n vr.c, .slice lr.A lr.n lr.c, .int .i64 tt, .int .i64 mm, .bool cl] 84)]) :
    Calls Tryz.prog 40 #[.pointer (some ⟨bs, 0, none⟩)] w (fun ex w' => ∃ v, ex = .returned v ∧ (fun v w' => v = .tuple #[] ∧ ∃ (r : Row) (m : Nat), (kS xs).length ≤ m ∧ 2 * m ≤ xs.length * (xs.length - 1) ∧ bA 121 5 r.A r.n r.c ((mZ xs).map cJ) r.e ∧ Mem w (bX [(some bs, bc [.slice A n c, .slice vr.A vr.n vr.c, .slice lr.A lr.n lr.c, .int .i64 tt, .int .i64 mm, .bool cl] 84)]) [(some bs, bc [.slice A n c, .slice vr.A vr.n vr.c, .slice r.A r.n r.c, .int .i64 (m : Int), .int .i64 (r.n : Int), .bool cl] 84), r.e] w') v w') := by
  refine aJ #[] 26 Tryz.func40 rfl Tryz.results40 Tryz.ntmps40 rfl ?_
  have M0 := hO.mem
  refine aG (aB ?_)
  refine aA (aD (.pointer _) rfl) rfl rfl ?_
  refine aA (aD (.pointer _) rfl) rfl rfl ?_
  refine aA (aD (.pointer _) rfl) rfl rfl ?_
  refine aA (aO rfl) rfl rfl ?_
  refine aA (aH 0 aCy rfl) rfl rfl ?_
  refine aA (aQ 0 (.slice _ _ _) eX M0 rfl rfl rfl) rfl rfl ?_
  refine aK bDe rfl rfl rfl ?_
  refine (aBp _ (F.memY M0 hdF) (N.memY M0 hdN) A n c xs (R.memY M0 hdA) hb hs hn).mono ?_
  rintro _ w1 ⟨v1, rfl, ⟨r, m, rfl, hm1, hm2, hr, hM1⟩⟩
  refine ⟨_, rfl, ?_⟩
  have M1 : Mem _ _ [_, _] _ := M0.call0 hM1
  refine aA (aD (.tuple (List.toArray _)) rfl) rfl rfl ?_
  refine aA (bG (.slice _ _ _) rfl rfl) rfl rfl ?_
  refine aA (bG (.int _ _) rfl rfl) rfl rfl ?_
  refine aA (aO rfl) rfl rfl ?_
  refine aA (aH 2 uR rfl) rfl rfl ?_
  refine dX 0 (.slice _ _ _) oH M1 rfl rfl rfl rfl rfl rfl (fun w2 M2 => ?_)
  refine aA (aO rfl) rfl rfl ?_
  refine aA (aH 3 oZ rfl) rfl rfl ?_
  refine aA (aH 0 aWz rfl) rfl rfl ?_
  refine dX 0 (.int _ _) yB M2 rfl rfl rfl rfl rfl rfl (fun w3 M3 => ?_)
  refine aC (aF (aB ?_))
  refine aA (aD (.pointer _) rfl) rfl rfl ?_
  refine aA (aD (.pointer _) rfl) rfl rfl ?_
  refine aA (aO rfl) rfl rfl ?_
  refine aA (aH 2 uR rfl) rfl rfl ?_
  refine aA (aQ 0 (.slice _ _ _) oH M3 rfl rfl rfl) rfl rfl ?_
  refine aA (cT Tryz.underlying82 rfl) rfl rfl ?_
  refine aA (aO rfl) rfl rfl ?_
  refine aA (aH 3 oZ rfl) rfl rfl ?_
  refine aA (aH 1 aKu rfl) rfl rfl ?_
  refine dX 0 (.int _ _) yB M3 rfl rfl rfl rfl rfl rfl (fun w4 M4 => ?_)
  refine aC ?_
  refine iD ?_
  exact ⟨rfl, r, m, hm1, hm2, hr, M4⟩
set_option maxHeartbeats 4000000 in
theorem aVb (w : World) (bs : Nat) (vr lr : Row) (tt mm : Int) (cl : Bool) (A : Option Addr) (n c : Nat) (xs : List Body) (R : Rd w 10 A n (xs.map aI)) (hb : ∀ b ∈ xs, Okb b) (hn : n ≤ 1048576) (hO : Own [(some bs, bc [.slice A n c, .slice vr.A vr.n vr.c, .slice lr.A lr.n lr.c, .int .i64 tt, .int .i64 mm, .bool cl] 84)] w) (hdA : 0 < n → ∀ q off, A = some ⟨q, off, none⟩ → q ∉ bX [(some bs, bc [.slice A n c, .slice vr.A vr.n vr.c, .slice lr.A lr.n lr.c, .int .i64 tt, .int .i64 mm, .bool cl] 84)]) :
    Calls Tryz.prog 41 #[.pointer (some ⟨bs, 0, none⟩)] w (fun ex w' => ∃ v, ex = .returned v ∧ (fun v w' => v = .tuple #[] ∧ ∃ r : Row, bA 40 10 r.A r.n r.c ((pU xs).map aI) r.e ∧ Mem w (bX [(some bs, bc [.slice A n c, .slice vr.A vr.n vr.c, .slice lr.A lr.n lr.c, .int .i64 tt, .int .i64 mm, .bool cl] 84)]) [(some bs, bc [.slice A n c, .slice r.A r.n r.c, .slice lr.A lr.n lr.c, .int .i64 tt, .int .i64 mm, .bool (cl || xs.any oI)] 84), r.e] w') v w') := by
  refine aJ #[] 11 Tryz.func41 rfl Tryz.results41 Tryz.ntmps41 rfl ?_
  have M0 := hO.mem
  refine aB ?_
  refine aA (aD (.pointer _) rfl) rfl rfl ?_
  refine aA (aD (.pointer _) rfl) rfl rfl ?_
  refine aA (aO rfl) rfl rfl ?_
  refine aA (aH 0 aCy rfl) rfl rfl ?_
  refine aA (aQ 0 (.slice _ _ _) eX M0 rfl rfl rfl) rfl rfl ?_
  refine aK bCv rfl rfl rfl ?_
  refine (aEc _ A n c xs (R.memY M0 hdA) hb hn).mono ?_
  rintro _ w1 ⟨v1, rfl, ⟨r, rfl, hr, hM1⟩⟩
  refine ⟨_, rfl, ?_⟩
  have M1 : Mem _ _ [_, _] _ := M0.call0 hM1
  refine aA (bG (.slice _ _ _) rfl rfl) rfl rfl ?_
  refine aA (bG (.bool _) rfl rfl) rfl rfl ?_
  refine aK aTe rfl rfl rfl ?_
  refine (aJh _ bs vr lr tt mm cl A n c r _ (M1.ownSeg 0 1)).mono ?_
  rintro _ w2 ⟨v2, rfl, ⟨rfl, hM2⟩⟩
  refine ⟨_, rfl, ?_⟩
  have M2 : Mem _ _ [_, _] _ := M1.seg 0 1 hM2
  refine aC ?_
  refine iD ?_
  exact ⟨rfl, r, hr, M2⟩
set_option maxHeartbeats 4000000 in
theorem aQn (w : World) (bs : Nat) (vr lr : Row) (tt mm : Int) (cl : Bool) (A : Option Addr) (n c : Nat) (ys : List Body) (cs : List Con) (RV : Rd w 10 vr.A vr.n (ys.map aI)) (RL : Rd w 5 lr.A lr.n (cs.map cJ)) (hs : bW ys) (hb : ∀ b ∈ ys, Okb b) (hn : vr.n ≤ 1048576) (hcs : ∀ c ∈ cs, OkC ys c) (hmc : lr.n ≤ 8589934592) (hO : Own [(some bs, bc [.slice A n c, .slice vr.A vr.n vr.c, .slice lr.A lr.n lr.c, .int .i64 tt, .int .i64 mm, .bool cl] 84)] w) (hdV : 0 < vr.n → ∀ q off, vr.A = some ⟨q, off, none⟩ → q ∉ bX [(some bs, bc [.slice A n c, .slice vr.A vr.n vr.c, .slice lr.A lr.n lr.c, .int .i64 tt, .int .i64 mm, .bool cl] 84)]) (hdL : 0 < lr.n → ∀ q off, lr.A = some ⟨q, off, none⟩ → q ∉ bX [(some bs, bc [.slice A n c, .slice vr.A vr.n vr.c, .slice lr.A lr.n lr.c, .int .i64 tt, .int .i64 mm, .bool cl] 84)]) :
    Calls Tryz.prog 42 #[.pointer (some ⟨bs, 0, none⟩)] w (fun ex w' => ∃ v, ex = .returned v ∧ (fun v w' => v = .tuple #[] ∧ ∃ r : Row, bA 40 10 r.A r.n r.c (((gP ys cs 4).1).map aI) r.e ∧ Mem w (bX [(some bs, bc [.slice A n c, .slice vr.A vr.n vr.c, .slice lr.A lr.n lr.c, .int .i64 tt, .int .i64 mm, .bool cl] 84)]) [(some bs, bc [.slice A n c, .slice r.A r.n r.c, .slice lr.A lr.n lr.c, .int .i64 tt, .int .i64 mm, .bool (cl || (gP ys cs 4).2)] 84), r.e] w') v w') := by
  refine aJ #[] 15 Tryz.func42 rfl Tryz.results42 Tryz.ntmps42 rfl ?_
  have M0 := hO.mem
  refine bS [(0, 0), (1, 0), (2, 0), (3, 0), (4, 1), (5, 0), (6, 0), (7, 0), (8, 1), (9, 2), (10, 0), (11, 0), (12, 2)] mixed rfl (by kernel_rfl) (fun w1 hb1 hh1 => ?_)
  have M1 := M0.drew hb1 hh1
  refine aU rfl rfl rfl (fun _ => aD (.pointer _) rfl) ?_
  refine aU rfl rfl rfl (fun _ => aD (.pointer _) rfl) ?_
  refine aU rfl rfl rfl (fun _ => aO rfl) ?_
  refine aU rfl rfl rfl (fun _ => aH 1 uT rfl) ?_
  refine cB rfl rfl rfl (aQ 0 (.slice _ _ _) eX M1 rfl rfl rfl) ?_
  refine aU rfl rfl rfl (fun _ => aD (.pointer _) rfl) ?_
  refine aU rfl rfl rfl (fun _ => aO rfl) ?_
  refine aU rfl rfl rfl (fun _ => aH 2 uR rfl) ?_
  refine cB rfl rfl rfl (aQ 0 (.slice _ _ _) oH M1 rfl rfl rfl) ?_
  refine dU [true, true] rfl (by kernel_rfl) ?_
  refine aK bCn rfl rfl rfl ?_
  refine (aNa _ vr.A vr.n vr.c ys (RV.memY M1 hdV) hs hb hn lr.A lr.n lr.c cs (RL.memY M1 hdL) hcs hmc).mono ?_
  rintro _ w2 ⟨v2, rfl, ⟨r, rfl, hr, hM2⟩⟩
  refine ⟨_, rfl, ?_⟩
  have M2 : Mem _ _ [_, _] _ := M1.call0 hM2
  refine aC (aF ⟨dV, ?_⟩)
  refine aU rfl rfl rfl (fun _ => bG (.slice _ _ _) rfl rfl) ?_
  refine aU rfl rfl rfl (fun _ => bG (.bool _) rfl rfl) ?_
  refine dU [] rfl (by kernel_rfl) ?_
  refine aK aTe rfl rfl rfl ?_
  refine (aJh _ bs vr lr tt mm cl A n c r _ (M2.ownSeg 0 1)).mono ?_
  rintro _ w3 ⟨v3, rfl, ⟨rfl, hM3⟩⟩
  refine ⟨_, rfl, ?_⟩
  have M3 : Mem _ _ [_, _] _ := M2.seg 0 1 hM3
  refine aC (aF ⟨dV, ?_⟩)
  refine cF ?_
  refine iD ?_
  exact ⟨rfl, r, hr, M3⟩
set_option maxHeartbeats 4000000 in
theorem aUd (w : World) (bs : Nat) (vr lr : Row) (tt mm : Int) (cl : Bool) (A : Option Addr) (n c : Nat) (xs : List Body) (R : Rd w 10 A n (xs.map aI)) (ys : List Body) (cs : List Con) (RV : Rd w 10 vr.A vr.n (ys.map aI)) (RL : Rd w 5 lr.A lr.n (cs.map cJ)) (hs : bW xs) (hb : ∀ b ∈ xs, Okb b) (hb2 : ∀ b ∈ ys, Okb b) (hn : n ≤ 1048576) (hvn : vr.n = n) (hcs : ∀ c ∈ cs, OkC xs c) (hmc : lr.n ≤ 1073741824) (hsh : xs.map (iF xs cs) = ys.map (iF xs cs)) (hG : ∀ b ∈ ys, (-1152921504606846976 ≤ (iF xs cs b).1 ∧ (iF xs cs b).1 ≤ 1152921504606846976) ∧ -1152921504606846976 ≤ (iF xs cs b).2 ∧ (iF xs cs b).2 ≤ 1152921504606846976) (hO : Own [(some bs, bc [.slice A n c, .slice vr.A vr.n vr.c, .slice lr.A lr.n lr.c, .int .i64 tt, .int .i64 mm, .bool cl] 84)] w) (hdA : 0 < n → ∀ q off, A = some ⟨q, off, none⟩ → q ∉ bX [(some bs, bc [.slice A n c, .slice vr.A vr.n vr.c, .slice lr.A lr.n lr.c, .int .i64 tt, .int .i64 mm, .bool cl] 84)]) (hdV : 0 < vr.n → ∀ q off, vr.A = some ⟨q, off, none⟩ → q ∉ bX [(some bs, bc [.slice A n c, .slice vr.A vr.n vr.c, .slice lr.A lr.n lr.c, .int .i64 tt, .int .i64 mm, .bool cl] 84)]) (hdL : 0 < lr.n → ∀ q off, lr.A = some ⟨q, off, none⟩ → q ∉ bX [(some bs, bc [.slice A n c, .slice vr.A vr.n vr.c, .slice lr.A lr.n lr.c, .int .i64 tt, .int .i64 mm, .bool cl] 84)]) :
    Calls Tryz.prog 43 #[.pointer (some ⟨bs, 0, none⟩)] w (fun ex w' => ∃ v, ex = .returned v ∧ (fun v w' => v = .tuple #[] ∧ ∃ r : Row, bA 40 10 r.A r.n r.c ((aKz xs cs ys).map aI) r.e ∧ Mem w (bX [(some bs, bc [.slice A n c, .slice vr.A vr.n vr.c, .slice lr.A lr.n lr.c, .int .i64 tt, .int .i64 mm, .bool cl] 84)]) [(some bs, bc [.slice A n c, .slice r.A r.n r.c, .slice lr.A lr.n lr.c, .int .i64 tt, .int .i64 mm, .bool (cl || aSt xs cs ys)] 84), r.e] w') v w') := by
  have hlen : xs.length = n := by simpa using R.len
  refine aJ #[] 20 Tryz.func43 rfl Tryz.results43 Tryz.ntmps43 rfl ?_
  have M0 := hO.mem
  refine bS [(0, 0), (1, 0), (2, 0), (3, 0), (4, 1), (5, 0), (6, 0), (7, 0), (8, 1), (9, 0), (10, 0), (11, 0), (12, 1), (13, 2), (14, 2), (15, 0), (16, 0), (17, 2)] mixed rfl (by kernel_rfl) (fun w1 hb1 hh1 => ?_)
  have M1 := M0.drew hb1 hh1
  refine aU rfl rfl rfl (fun _ => aD (.pointer _) rfl) ?_
  refine aU rfl rfl rfl (fun _ => aD (.pointer _) rfl) ?_
  refine aU rfl rfl rfl (fun _ => aO rfl) ?_
  refine aU rfl rfl rfl (fun _ => aH 1 uT rfl) ?_
  refine cB rfl rfl rfl (aQ 0 (.slice _ _ _) eX M1 rfl rfl rfl) ?_
  refine aU rfl rfl rfl (fun _ => aD (.pointer _) rfl) ?_
  refine aU rfl rfl rfl (fun _ => aO rfl) ?_
  refine aU rfl rfl rfl (fun _ => aH 0 aCy rfl) ?_
  refine cB rfl rfl rfl (aQ 0 (.slice _ _ _) eX M1 rfl rfl rfl) ?_
  refine aU rfl rfl rfl (fun _ => aD (.pointer _) rfl) ?_
  refine aU rfl rfl rfl (fun _ => aO rfl) ?_
  refine aU rfl rfl rfl (fun _ => aH 2 uR rfl) ?_
  refine cB rfl rfl rfl (aQ 0 (.slice _ _ _) oH M1 rfl rfl rfl) ?_
  refine dU [true, true, false] rfl (by kernel_rfl) ?_
  refine aK bDo rfl rfl rfl ?_
  refine (aIk _ A n c xs (R.memY M1 hdA) hs hb hn lr.A lr.n lr.c cs (RL.memY M1 hdL) hcs hmc).mono ?_
  rintro _ w2 ⟨v2, rfl, ⟨⟨qA, qn, qc, qe⟩, rfl, hq, hM2⟩⟩
  refine ⟨_, rfl, ?_⟩
  have hqn : xs.length = qn := by simpa using hq.1
  obtain rfl : qn = vr.n := by omega
  rw [hsh] at hq
  have M2 : Mem _ _ [_, _] _ := M1.call0 hM2
  refine aC (aF ⟨(eS (bQ rfl (aQ 0 (.slice _ _ _) eX M2 rfl rfl rfl)) dV), ?_⟩)
  refine dU [true] rfl (by kernel_rfl) ?_
  refine aK bCj rfl rfl rfl ?_
  refine (aSk _ vr.A vr.n vr.c ys (RV.memY M2 hdV) hb2 (by omega) (iF xs cs) hG qA qc (hq.rd M2 (bB (i := 1) rfl))).mono ?_
  rintro _ w3 ⟨v3, rfl, ⟨r, rfl, hr, hM3⟩⟩
  refine ⟨_, rfl, ?_⟩
  have M3 : Mem _ _ [_, _, _] _ := M2.call0 hM3
  refine aC (aF ⟨dV, ?_⟩)
  refine aU rfl rfl rfl (fun _ => bG (.slice _ _ _) rfl rfl) ?_
  refine aU rfl rfl rfl (fun _ => bG (.bool _) rfl rfl) ?_
  refine dU [] rfl (by kernel_rfl) ?_
  refine aK aTe rfl rfl rfl ?_
  refine (aJh _ bs vr lr tt mm cl A n c r _ (M3.ownSeg 0 1)).mono ?_
  rintro _ w4 ⟨v4, rfl, ⟨rfl, hM4⟩⟩
  refine ⟨_, rfl, ?_⟩
  have M4 : Mem _ _ [_, _, _] _ := M3.seg 0 1 hM4
  refine aC (aF ⟨dV, ?_⟩)
  refine cF ?_
  refine iD ?_
  exact ⟨rfl, r, hr, M4.keep [true, false, true]⟩
end Go.Proofs.YtlmcphcgiclanaaGreatDoor

namespace Go.Proofs.YtlmcphcgiclanaaGreatDoor
open Go.Bil
open Go.RowKit (Below)
open Go.Proofs
theorem aLw {xs : List Body} {cs : List Con} {b b' : Body} (h : SameB b b') : iF xs cs b = iF xs cs b' := by
  unfold iF qQ wJ
  rw [h.key, h.mass]
theorem aFm {xs ys zs : List Body} {cs : List Con} (h : Like ys zs) : ys.map (iF xs cs) = zs.map (iF xs cs) := by
  apply List.ext_getElem?
  intro i
  rw [List.getElem?_map, List.getElem?_map]
  by_cases hi : i < ys.length
  · have h1 : ys[i]? = some ys[i] := List.getElem?_eq_getElem hi
    have h2 : zs[i]? = some (zs[i]'(by rw [h.len]; exact hi)) := List.getElem?_eq_getElem _
    rw [h1, h2]
    exact congrArg some (aLw (h.at_ i _ _ h1 h2)).symm
  · have hl := h.len
    rw [List.getElem?_eq_none (show ys.length ≤ i by omega), List.getElem?_eq_none (show zs.length ≤ i by omega)]
theorem aUp {xs : List Body} {cs : List Con} (hs : bW xs) (hb : ∀ b ∈ xs, Okb b) (hcs : ∀ c ∈ cs, OkC xs c) (hl : cs.length ≤ 1073741824) {zs : List Body} (h : Like xs zs) : ∀ b ∈ zs, (-1152921504606846976 ≤ (iF xs cs b).1 ∧ (iF xs cs b).1 ≤ 1152921504606846976) ∧ -1152921504606846976 ≤ (iF xs cs b).2 ∧ (iF xs cs b).2 ≤ 1152921504606846976 := fun b hbm => by
  have hm : iF xs cs b ∈ zs.map (iF xs cs) := List.mem_map_of_mem hbm
  rw [← aFm h] at hm
  obtain ⟨x, hx, e⟩ := List.mem_map.1 hm
  rw [← e]
  have := aCs hs hb hcs rfl hl cs.length hx
  rwa [List.take_of_length_le (Nat.le_refl _)] at this
set_option maxHeartbeats 16000000 in
theorem aMx (w : World) (F : Rd w 2 (some ⟨0, 0, none⟩) 1 [[.int .u32 73856093, .int .u32 19349663]]) (N : Rd w 4 (some ⟨3, 0, none⟩) 1 [dI jA]) (A : Option Addr) (n c : Nat) (xs : List Body) (R : Rd w 10 A n (xs.map aI)) (hb : ∀ b ∈ xs, Okb b) (hs : bW xs) (hn : n ≤ 4096) :
    Calls Tryz.prog 16 #[.slice A n c] w (fun ex w' => ∃ v, ex = .returned v ∧ (fun v w' => ∃ (r : Row) (t : Nat), v = .tuple #[.slice r.A r.n r.c, .agg [.int .i64 (t : Int), .int .i64 ((mZ xs).length : Int), .bool (aBf xs)].toArray] ∧ (mZ xs).length ≤ t ∧ 2 * t ≤ xs.length * (xs.length - 1) ∧ bA 40 10 r.A r.n r.c ((uB xs).map aI) r.e ∧ Mem w [] [r.e] w') v w') := by
  have hlen : xs.length = n := by simpa using R.len
  have hnn : xs.length * xs.length ≤ 4096 * 4096 := Nat.mul_le_mul (by omega) (by omega)
  have hcl := aDy xs
  have hsq := aWj (xs := xs)
  refine aJ #[.tmp 2, .cell 3 27] 26 Tryz.func16 rfl Tryz.results16 Tryz.ntmps16 rfl ?_
  have M0 := Mem.refl w
  refine aG (aB ?_)
  refine aA (aE (.slice _ _ _) rfl) rfl rfl ?_
  refine aW aBr M0 rfl rfl (fun b1 w1 M1 => ?_)
  refine aC (aF (aG (aB ?_)))
  refine aA (aD (.slice _ _ _) rfl) rfl rfl ?_
  refine aA (cN [(0, .slice _ _ _)] _ aPs rfl rfl) rfl rfl ?_
  refine bL (.agg (List.toArray _)) M1 rfl rfl rfl (fun b2 w2 M2 => ?_)
  refine aA (aE (.pointer _) rfl) rfl rfl ?_
  refine aC (aF (aG (aG (aB ?_))))
  refine aA (oK [.func _ _ _, .func _ _ _, .func _ _ _, .func _ _ _] aEa bBt rfl rfl (cW rfl)) rfl rfl ?_
  refine aA (aD (.int _ _) rfl) rfl rfl ?_
  refine aC (aF (aV ?_))
  refine lA 5 (gJ ?_)
  refine aG (aB ?_)
  refine aA (aP (.bool (decide _)) rfl rfl rfl) rfl rfl ?_
  refine aM 12 (.bool true) (bT (by first | decide | omega)).symm ?_
  refine aC (aF (aG ?_))
  refine cK rfl ?_
  refine aN (aF (aG (aV (aG (aB ?_)))))
  refine aA (sQ 0 (.func _ _ _) aEa aJx rfl rfl (by decide) (by decide) rfl rfl) rfl rfl ?_
  refine aA (aE (.func _ _ _) rfl) rfl rfl ?_
  refine aC (aF (aB ?_))
  refine aA (aD (.func _ _ _) rfl) rfl rfl ?_
  refine aA (aD (.pointer _) rfl) rfl rfl ?_
  refine aK bCt rfl rfl rfl ?_
  refine (aUs _ (F.mem M2) (N.mem M2) b2 iK iK 0 0 false A n c xs (R.mem M2) hb hs hn (M2.ownSeg 1 1) (M2.away 1 1 R (by simp)) (M2.away 1 1 F (by simp)) (M2.away 1 1 N (by simp))).mono ?_
  rintro _ w3 ⟨v3, rfl, ⟨rfl, r, tm, ht1, ht2, hr, hM3⟩⟩
  refine ⟨_, rfl, ?_⟩
  have M3 : Mem _ _ [_, _, _] _ := M2.seg 1 1 hM3
  have hrn : (mZ xs).length = r.n := by simpa using hr.1
  refine aC ?_
  refine dB ?_
  refine aF (aB ?_)
  refine aA (bM rfl rfl (by first | decide | omega) (by first | decide | omega)) rfl rfl ?_
  refine aM 17 (.int .i64 1) (iE (by first | decide | omega)) ?_
  refine aA (aD (.int _ _) rfl) rfl rfl ?_
  refine aC ?_
  refine aF (gJ ?_)
  refine aG (aB ?_)
  refine aA (aP (.bool (decide _)) rfl rfl rfl) rfl rfl ?_
  refine aM 12 (.bool true) (bT (by first | decide | omega)).symm ?_
  refine aC (aF (aG ?_))
  refine cK rfl ?_
  refine aN (aF (aG (aV (aG (aB ?_)))))
  refine aA (sQ 1 (.func _ _ _) aEa aJx rfl rfl (by decide) (by decide) rfl rfl) rfl rfl ?_
  refine aA (aE (.func _ _ _) rfl) rfl rfl ?_
  refine aC (aF (aB ?_))
  refine aA (aD (.func _ _ _) rfl) rfl rfl ?_
  refine aA (aD (.pointer _) rfl) rfl rfl ?_
  refine aK bDr rfl rfl rfl ?_
  refine (aVb _ b2 iK r (tm : Int) (r.n : Int) false A n c xs (R.mem M3) hb (by omega) (M3.ownSeg 1 1) (M3.away 1 1 R (by simp))).mono ?_
  rintro _ w4 ⟨v4, rfl, ⟨rfl, g, hg, hM4⟩⟩
  refine ⟨_, rfl, ?_⟩
  have M4 : Mem _ _ [_, _, _, _] _ := M3.seg 1 1 hM4
  have hgn : (pU xs).length = g.n := by simpa using hg.1
  have hgl := (mT xs).len
  refine aC ?_
  refine dB ?_
  refine aF (aB ?_)
  refine aA (bM rfl rfl (by first | decide | omega) (by first | decide | omega)) rfl rfl ?_
  refine aM 17 (.int .i64 2) (iE (by first | decide | omega)) ?_
  refine aA (aD (.int _ _) rfl) rfl rfl ?_
  refine aC ?_
  refine aF (gJ ?_)
  refine aG (aB ?_)
  refine aA (aP (.bool (decide _)) rfl rfl rfl) rfl rfl ?_
  refine aM 12 (.bool true) (bT (by first | decide | omega)).symm ?_
  refine aC (aF (aG ?_))
  refine cK rfl ?_
  refine aN (aF (aG (aV (aG (aB ?_)))))
  refine aA (sQ 2 (.func _ _ _) aEa aJx rfl rfl (by decide) (by decide) rfl rfl) rfl rfl ?_
  refine aA (aE (.func _ _ _) rfl) rfl rfl ?_
  refine aC (aF (aB ?_))
  refine aA (aD (.func _ _ _) rfl) rfl rfl ?_
  refine aA (aD (.pointer _) rfl) rfl rfl ?_
  refine aK bCi rfl rfl rfl ?_
  refine (aQn _ b2 g r (tm : Int) (r.n : Int) _ A n c (pU xs) (mZ xs) (hg.rd M4 (bB (i := 3) rfl)) (hr.rd M4 (bB (i := 2) rfl)) ((mT xs).sorted hs) (aCe hb) (by omega) (fun c h => (mT xs).okc (xQ hs hb c h)) (by omega) (M4.ownSeg 1 1) (hg.awayB M4 3 1 rfl rfl rfl) (hr.awayB M4 2 1 rfl rfl rfl)).mono ?_
  rintro _ w5 ⟨v5, rfl, ⟨rfl, s, hsv, hM5⟩⟩
  refine ⟨_, rfl, ?_⟩
  have M5 : Mem _ _ [_, _, _, _, _] _ := M4.seg 1 1 hM5
  have hsn : (lU xs).length = s.n := by have h := hsv.1; rwa [List.length_map] at h
  have hlk : Like xs (lU xs) := (mT xs).trans (jF _ _ 4)
  have hsl := hlk.len
  refine aC ?_
  refine dB ?_
  refine aF (aB ?_)
  refine aA (bM rfl rfl (by first | decide | omega) (by first | decide | omega)) rfl rfl ?_
  refine aM 17 (.int .i64 3) (iE (by first | decide | omega)) ?_
  refine aA (aD (.int _ _) rfl) rfl rfl ?_
  refine aC ?_
  refine aF (gJ ?_)
  refine aG (aB ?_)
  refine aA (aP (.bool (decide _)) rfl rfl rfl) rfl rfl ?_
  refine aM 12 (.bool true) (bT (by first | decide | omega)).symm ?_
  refine aC (aF (aG ?_))
  refine cK rfl ?_
  refine aN (aF (aG (aV (aG (aB ?_)))))
  refine aA (sQ 3 (.func _ _ _) aEa aJx rfl rfl (by decide) (by decide) rfl rfl) rfl rfl ?_
  refine aA (aE (.func _ _ _) rfl) rfl rfl ?_
  refine aC (aF (aB ?_))
  refine aA (aD (.func _ _ _) rfl) rfl rfl ?_
  refine aA (aD (.pointer _) rfl) rfl rfl ?_
  refine aK bEc rfl rfl rfl ?_
  refine (aUd _ b2 s r (tm : Int) (r.n : Int) _ A n c xs (R.mem M5) (lU xs) (mZ xs) (hsv.rd M5 (bB (i := 4) rfl)) (hr.rd M5 (bB (i := 2) rfl)) hs hb (rB (aCe hb) 4) (by omega) (by omega) (xQ hs hb) (by omega) (aFm hlk) (aUp hs hb (xQ hs hb) (by omega) hlk) (M5.ownSeg 1 1) (M5.away 1 1 R (by simp)) (hsv.awayB M5 4 1 rfl rfl rfl) (hr.awayB M5 2 1 rfl rfl rfl)).mono ?_
  rintro _ w6 ⟨v6, rfl, ⟨rfl, m, hm, hM6⟩⟩
  refine ⟨_, rfl, ?_⟩
  have M6 : Mem _ _ [_, _, _, _, _, _] _ := M5.seg 1 1 hM6
  refine aC ?_
  refine dB ?_
  refine aF (aB ?_)
  refine aA (bM rfl rfl (by first | decide | omega) (by first | decide | omega)) rfl rfl ?_
  refine aM 17 (.int .i64 4) (iE (by first | decide | omega)) ?_
  refine aA (aD (.int _ _) rfl) rfl rfl ?_
  refine aC ?_
  refine aF (gJ ?_)
  refine aG (aB ?_)
  refine aA (aP (.bool (decide _)) rfl rfl rfl) rfl rfl ?_
  refine aM 12 (.bool false) (bF (by first | decide | omega)).symm ?_
  refine aC (aF (aG ?_))
  refine cH rfl ?_
  refine cP ?_
  refine dA (dA ?_)
  refine eQ ?_
  refine aF (aG ?_)
  refine bS [(0, 0), (1, 0), (2, 0), (3, 1), (4, 0), (5, 0), (6, 0), (7, 1), (8, 0), (9, 2)] mixed rfl (by kernel_rfl) (fun w7 hb7 hh7 => ?_)
  have M7 := M6.drew hb7 hh7
  refine aU rfl rfl rfl (fun _ => aD (.pointer _) rfl) ?_
  refine aU rfl rfl rfl (fun _ => aO rfl) ?_
  refine aU rfl rfl rfl (fun _ => aH 1 uT rfl) ?_
  refine cB rfl rfl rfl (aQ 1 (.slice _ _ _) eX M7 rfl rfl rfl) ?_
  refine aU rfl rfl rfl (fun _ => aD (.pointer _) rfl) ?_
  refine aU rfl rfl rfl (fun _ => aO rfl) ?_
  refine aU rfl rfl rfl (fun _ => aH 3 oZ rfl) ?_
  refine cB rfl rfl rfl (qP 1 _ tS M7 rfl rfl rfl rfl) ?_
  refine aU rfl rfl rfl (fun _ => aE (.slice _ _ _) rfl) ?_
  refine dU [true, true] rfl (by kernel_rfl) ?_
  refine bH 0 _ tS M7 rfl rfl rfl rfl rfl (aY rfl) rfl (fun w8 M8 => ?_)
  refine aC (aF ⟨dV, ?_⟩)
  refine cF ?_
  refine aF (aR ?_)
  refine bCo (.slice _ _ _) 0 tS M8 rfl rfl rfl rfl ?_
  exact ⟨m, tm, zJ rfl (by rw [hrn]; show Value.agg _ = _; rw [show aBf xs = (((false || xs.any oI) || (gP (pU xs) (mZ xs) 4).2) || aSt xs (mZ xs) (lU xs)) by unfold aBf; rw [Bool.false_or]]; rfl), by omega, ht2, hm, M8.keep [false, false, false, false, false, true]⟩
end Go.Proofs.YtlmcphcgiclanaaGreatDoor

namespace Go.Proofs.YtlmcphcgiclanaaGreatDoor
open Go.Bil
open Go.RowKit (Below)
open Go.Proofs
end Go.Proofs.YtlmcphcgiclanaaGreatDoor

namespace Go.Proofs.YtlmcphcgiclanaaGreatDoor
open Go.Bil
open Go.RowKit (Below)
open Go.Proofs
end Go.Proofs.YtlmcphcgiclanaaGreatDoor

namespace Go.Proofs.YtlmcphcgiclanaaGreatDoor
open Go.Bil
open Go.RowKit (Below)
open Go.Proofs
end Go.Proofs.YtlmcphcgiclanaaGreatDoor

namespace Go.Proofs.YtlmcphcgiclanaaGreatDoor
open Go.Bil
open Go.RowKit (Below)
open Go.Proofs
end Go.Proofs.YtlmcphcgiclanaaGreatDoor

namespace Go.Proofs.YtlmcphcgiclanaaGreatDoor
open Go.Bil
open Go.RowKit (Below)
open Go.Proofs
end Go.Proofs.YtlmcphcgiclanaaGreatDoor

namespace Go.Proofs.YtlmcphcgiclanaaGreatDoor
open Go.Bil
open Go.RowKit (Below)
open Go.Proofs
end Go.Proofs.YtlmcphcgiclanaaGreatDoor

namespace Go.Proofs.YtlmcphcgiclanaaGreatDoor
open Go.Bil
open Go.RowKit (Below)
open Go.Proofs
end Go.Proofs.YtlmcphcgiclanaaGreatDoor

namespace Go.Proofs.YtlmcphcgiclanaaGreatDoor
open Go.Bil
open Go.RowKit (Below)
open Go.Proofs
end Go.Proofs.YtlmcphcgiclanaaGreatDoor
