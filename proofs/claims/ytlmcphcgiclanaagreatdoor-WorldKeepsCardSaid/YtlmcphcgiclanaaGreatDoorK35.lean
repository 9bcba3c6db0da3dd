/- Part of the proof of the laws of this seat: P22, W22a, W22b, W22c, R22a, D22, Aw22. No conditions. -/
import Derived.Test.YtlmcphcgiclanaaGreatDoorK5
import Derived.Test.YtlmcphcgiclanaaGreatDoorK31
import Derived.Test.YtlmcphcgiclanaaGreatDoorK28
import Derived.Test.YtlmcphcgiclanaaGreatDoorK34
import Derived.Test.YtlmcphcgiclanaaGreatDoorK32
import Derived.Test.YtlmcphcgiclanaaGreatDoorK23
set_option linter.unusedVariables false
set_option linter.unusedSimpArgs false
set_option linter.unnecessarySimpa false
namespace Go.Proofs.YtlmcphcgiclanaaGreatDoor
open Go.Bil
open Go.RowKit (Below)
open Go.Proofs
set_option maxHeartbeats 8000000 in
theorem aRy (w : World) (b : Body) (hb : Okb b) (j : Int × Int) (hj1 : -2147483648 ≤ j.1 ∧ j.1 ≤ 2147483647) (hj2 : -2147483648 ≤ j.2 ∧ j.2 ≤ 2147483647) :
    Calls Tryz.prog 87 #[(.agg (aI b).toArray), .agg [.int .i32 j.1, .int .i32 j.2].toArray] w (fun ex w' => ∃ v, ex = .returned v ∧ (fun v w' => (∃ g : Bool, v = .tuple #[(.agg (aI (mD b j)).toArray), .bool g]) ∧ Below w.heap.size w w') v w') := by
  have hv := hb.v
  have hm := hb.m
  have hp1 := bEd hj1 hm
  have hp2 := bEd hj2 hm
  refine aJ #[.cell 4 40, .tmp 5] 45 Tryz.func87 rfl Tryz.results87 Tryz.ntmps87 rfl ?_
  have M0 := Mem.refl w
  refine aG (aB ?_)
  refine bL (.agg (List.toArray _)) M0 rfl rfl rfl (fun b1 w1 M1 => ?_)
  refine bL (.agg (List.toArray _)) M1 rfl rfl rfl (fun b2 w2 M2 => ?_)
  refine aW gL M2 rfl rfl (fun b3 w3 M3 => ?_)
  refine aA (aE (.bool false) rfl) rfl rfl ?_
  refine aC (aF (aG (aB ?_)))
  refine aW aLa M3 rfl rfl (fun b4 w4 M4 => ?_)
  refine dX 3 (.bool false) oE M4 rfl rfl rfl rfl rfl rfl (fun w5 M5 => ?_)
  refine aC (aF (aG (aB ?_)))
  refine aA (aH 8 eN rfl) rfl rfl ?_
  refine aA (aH 0 dG rfl) rfl rfl ?_
  refine aA (aQ 0 (.int _ _) aX M5 rfl rfl rfl) rfl rfl ?_
  refine aA (bV fL Tryz.underlying2 rfl (jY _ (by omega) (by omega))) rfl rfl ?_
  refine aA (aH 0 dG rfl) rfl rfl ?_
  refine aA (aQ 1 (.int _ _) aX M5 rfl rfl rfl) rfl rfl ?_
  refine aA (bV fL Tryz.underlying2 rfl (jY _ (by omega) (by omega))) rfl rfl ?_
  refine aA (aH 4 eM rfl) rfl rfl ?_
  refine aA (aQ 0 (.int _ _) aX M5 rfl rfl rfl) rfl rfl ?_
  refine aA (bV fL Tryz.underlying2 rfl (jY _ (by omega) (by omega))) rfl rfl ?_
  refine aA (fR rfl rfl (by omega) (by omega)) rfl rfl ?_
  refine aA (gA rfl rfl (by decide)) rfl rfl ?_
  refine aM 20 (.int .i64 (j.1 * b.mass / 65536)) (iE (lV _)) ?_
  refine aA (bM rfl rfl (by omega) (by omega)) rfl rfl ?_
  refine aA (aE (.int _ _) rfl) rfl rfl ?_
  refine aC (aF (aG (aB ?_)))
  refine aA (aH 8 eN rfl) rfl rfl ?_
  refine aA (aH 1 dC rfl) rfl rfl ?_
  refine aA (aQ 0 (.int _ _) aX M5 rfl rfl rfl) rfl rfl ?_
  refine aA (bV fL Tryz.underlying2 rfl (jY _ (by omega) (by omega))) rfl rfl ?_
  refine aA (aH 1 dC rfl) rfl rfl ?_
  refine aA (aQ 1 (.int _ _) aX M5 rfl rfl rfl) rfl rfl ?_
  refine aA (bV fL Tryz.underlying2 rfl (jY _ (by omega) (by omega))) rfl rfl ?_
  refine aA (aH 4 eM rfl) rfl rfl ?_
  refine aA (aQ 0 (.int _ _) aX M5 rfl rfl rfl) rfl rfl ?_
  refine aA (bV fL Tryz.underlying2 rfl (jY _ (by omega) (by omega))) rfl rfl ?_
  refine aA (fR rfl rfl (by omega) (by omega)) rfl rfl ?_
  refine aA (gA rfl rfl (by decide)) rfl rfl ?_
  refine aM 33 (.int .i64 (j.2 * b.mass / 65536)) (iE (lV _)) ?_
  refine aA (bM rfl rfl (by omega) (by omega)) rfl rfl ?_
  refine aA (aE (.int _ _) rfl) rfl rfl ?_
  refine aC (aF (aG (aB ?_)))
  refine aA (aD (.int _ _) rfl) rfl rfl ?_
  refine cR [.pointer _] [[.pointer (some ⟨b4, 0, none⟩)]] rfl zN M5 rfl rfl rfl rfl (cW rfl) (by decide) (fun b6 w6 M6 => ?_)
  have hlit36 := jK (T := 133) (sz := 1) (b := b6) (nn := 1) [[.pointer (some ⟨b4, 0, none⟩)]] (by simp) rfl (by decide)
  refine aK aEx rfl rfl rfl ?_
  refine (jS _ (b.vx + j.1 * b.mass / 65536) 16777216 ⟨by decide, by decide⟩ b4 _ _ 1 (hlit36.rd M6 (bB (i := 4) rfl)) (hlit36.awayB M6 4 3 rfl rfl rfl) (M6.ownSeg 3 1)).mono ?_
  rintro _ w7 ⟨v7, rfl, ⟨rfl, hM7⟩⟩
  refine ⟨_, rfl, ?_⟩
  have M7 : Mem _ _ [_, _, _, _, _] _ := M6.seg 3 1 hM7
  refine aA (aD (.int _ _) rfl) rfl rfl ?_
  refine cR [.pointer _] [[.pointer (some ⟨b4, 0, none⟩)]] rfl zN M7 rfl rfl rfl rfl (cW rfl) (by decide) (fun b8 w8 M8 => ?_)
  have hlit39 := jK (T := 133) (sz := 1) (b := b8) (nn := 1) [[.pointer (some ⟨b4, 0, none⟩)]] (by simp) rfl (by decide)
  refine aK aEx rfl rfl rfl ?_
  refine (jS _ (b.vy + j.2 * b.mass / 65536) 16777216 ⟨by decide, by decide⟩ b4 _ _ 1 (hlit39.rd M8 (bB (i := 5) rfl)) (hlit39.awayB M8 5 3 rfl rfl rfl) (M8.ownSeg 3 1)).mono ?_
  rintro _ w9 ⟨v9, rfl, ⟨rfl, hM9⟩⟩
  refine ⟨_, rfl, ?_⟩
  have M9 : Mem _ _ [_, _, _, _, _, _] _ := M8.seg 3 1 hM9
  refine aA (cN [(0, .int _ _), (1, .int _ _)] _ eJ rfl rfl) rfl rfl ?_
  refine aA (aH 8 eN rfl) rfl rfl ?_
  refine aBw 0 _ bJ M9 rfl rfl rfl rfl rfl (aY rfl) (Nat.le_of_ble_eq_true rfl) (fun w10 M10 => ?_)
  refine aC (aF (aG ?_))
  refine bS [(0, 1), (1, 1), (2, 2), (3, 0)] mixed rfl (by kernel_rfl) (fun w11 hb11 hh11 => ?_)
  have M11 := M10.drew hb11 hh11
  refine cB rfl rfl rfl (bE 0 bO M11 rfl rfl rfl) ?_
  refine cB rfl rfl rfl (aQ 3 (.bool _) oE M11 rfl rfl rfl) ?_
  refine dU [false, true] rfl (by kernel_rfl) ?_
  refine bH 2 _ bO M11 rfl rfl rfl rfl rfl (aY rfl) rfl (fun w12 M12 => ?_)
  refine aC (aF ⟨(eS (bQ rfl (aQ 3 (.bool _) oE M12 rfl rfl rfl)) dV), ?_⟩)
  refine aU rfl rfl rfl (fun _ => aE (.bool _) rfl) ?_
  refine cF ?_
  refine aF (aR ?_)
  refine zO (v2 := .bool _) 2 bO M12 rfl rfl rfl rfl ?_
  exact ⟨⟨_, rfl⟩, M12.below⟩
end Go.Proofs.YtlmcphcgiclanaaGreatDoor

namespace Go.Proofs.YtlmcphcgiclanaaGreatDoor
open Go.Bil
open Go.RowKit (Below)
open Go.Proofs
set_option maxHeartbeats 4000000 in
theorem yI (w : World) (b : Nat) :
    Calls Tryz.prog 65 #[.pointer (some ⟨b, 0, none⟩)] w (fun ex w' => ∃ v, ex = .returned v ∧ (fun v w' => v = .pointer (some ⟨b, 0, none⟩) ∧ Below w.heap.size w w') v w') := by
  refine aJ #[.tmp 2] 8 Tryz.func65 rfl Tryz.results65 Tryz.ntmps65 rfl ?_
  have M0 := Mem.refl w
  refine aG (aB ?_)
  refine aA (aE (.pointer _) rfl) rfl rfl ?_
  refine aC (aF (aG (aG (aB ?_))))
  refine aA (aD (.pointer _) rfl) rfl rfl ?_
  refine aA (eC false Tryz.underlying63 rfl rfl) rfl rfl ?_
  refine aC (aF ?_)
  refine cH rfl ?_
  refine aN (aF (aG (aB ?_)))
  refine aA (aD (.pointer _) rfl) rfl rfl ?_
  refine aA (aO rfl) rfl rfl ?_
  refine aA (aH 0 rD rfl) rfl rfl ?_
  refine aA (aE (.pointer _) rfl) rfl rfl ?_
  refine aC (aF (aR ?_))
  refine bY (.pointer _) rfl ?_
  exact ⟨rfl, M0.below⟩
set_option maxHeartbeats 4000000 in
theorem aGj (w : World) :
    Calls Tryz.prog 65 #[.pointer none] w (fun ex w' => ∃ v, ex = .returned v ∧ (fun v w' => v = .pointer none ∧ Below w.heap.size w w') v w') := by
  refine aJ #[.tmp 2] 8 Tryz.func65 rfl Tryz.results65 Tryz.ntmps65 rfl ?_
  have M0 := Mem.refl w
  refine aG (aB ?_)
  refine aA (aE (.pointer _) rfl) rfl rfl ?_
  refine aC (aF (aG (aG (aB ?_))))
  refine aA (aD (.pointer _) rfl) rfl rfl ?_
  refine aA (eC true Tryz.underlying63 rfl rfl) rfl rfl ?_
  refine aC (aF ?_)
  refine cK rfl ?_
  refine aG (aB ?_)
  refine aA (aE (.pointer _) rfl) rfl rfl ?_
  refine aC (aF (aR (cC ?_)))
  refine bY (.pointer _) rfl ?_
  exact ⟨rfl, M0.below⟩
set_option maxHeartbeats 4000000 in
theorem aCl (w : World) (x : Body) :
    Calls Tryz.prog 32 #[.pointer none, (.agg (aI x).toArray)] w (fun ex w' => ∃ v, ex = .returned v ∧ (fun v w' => v = .int .i64 1 ∧ Below w.heap.size w w') v w') := by
  refine aJ #[.tmp 4] 15 Tryz.func32 rfl Tryz.results32 Tryz.ntmps32 rfl ?_
  have M0 := Mem.refl w
  refine aG (aB ?_)
  refine bL (.agg (List.toArray _)) M0 rfl rfl rfl (fun b1 w1 M1 => ?_)
  refine aA (aE (.int _ _) rfl) rfl rfl ?_
  refine aC (aF (aG (aG (aB ?_))))
  refine aA (aD (.pointer _) rfl) rfl rfl ?_
  refine aK aKg rfl rfl rfl ?_
  refine (aGj _).mono ?_
  rintro _ w2 ⟨v2, rfl, ⟨rfl, hb2⟩⟩
  refine ⟨_, rfl, ?_⟩
  have M2 := M1.callB hb2
  refine aA (aE (.pointer _) rfl) rfl rfl ?_
  refine aC (aF (aG (aB ?_)))
  refine aA (aD (.pointer _) rfl) rfl rfl ?_
  refine aA (nH false Tryz.underlying107 rfl rfl) rfl rfl ?_
  refine aC (aF ?_)
  refine cH rfl ?_
  refine aN (aF (aG (aB ?_)))
  refine aA (aE (.int _ _) rfl) rfl rfl ?_
  refine aC (aF (aR ?_))
  refine bY (.int _ _) rfl ?_
  exact ⟨rfl, M2.below⟩
set_option maxHeartbeats 4000000 in
theorem zD (w : World) :
    Calls Tryz.prog 31 #[.pointer none] w (fun ex w' => ∃ v, ex = .returned v ∧ (fun v w' => v = .slice none 0 0 ∧ Below w.heap.size w w') v w') := by
  refine aJ #[.tmp 2] 10 Tryz.func31 rfl Tryz.results31 Tryz.ntmps31 rfl ?_
  have M0 := Mem.refl w
  refine aG (aB ?_)
  refine aA (aE (.slice _ _ _) rfl) rfl rfl ?_
  refine aC (aF (aG (aG (aB ?_))))
  refine aA (aD (.pointer _) rfl) rfl rfl ?_
  refine aA (eC true Tryz.underlying63 rfl rfl) rfl rfl ?_
  refine aC (aF ?_)
  refine cK rfl ?_
  refine aG (aB ?_)
  refine aA (aE (.slice _ _ _) rfl) rfl rfl ?_
  refine aC (aF (aR (cC ?_)))
  refine bY (.slice _ _ _) rfl ?_
  exact ⟨rfl, M0.below⟩
set_option maxHeartbeats 4000000 in
theorem tA (w : World) (b : Nat) (r : StV) (vs : List Body) (hW : eF 40 r vs) (hO : Own [(some b, bc [.slice r.A r.n r.c, .map r.p] 56), r.er, r.em] w) (x : Body) (hx : InB x) :
    Calls Tryz.prog 32 #[.pointer (some ⟨b, 0, none⟩), (.agg (aI x).toArray)] w (fun ex w' => ∃ v, ex = .returned v ∧ (fun v w' => ∃ r' : StV, v = .int .i64 (kV vs x).2 ∧ eF 40 r' ((kV vs x).1) ∧ Mem w (bX [(some b, bc [.slice r.A r.n r.c, .map r.p] 56), r.er, r.em]) [(some b, bc [.slice r'.A r'.n r'.c, .map r'.p] 56), r'.er, r'.em] w') v w') := by
  obtain ⟨hG, m, hs, hR⟩ := hW
  refine aJ #[.tmp 4] 15 Tryz.func32 rfl Tryz.results32 Tryz.ntmps32 rfl ?_
  have M0 := hO.mem
  refine aG (aB ?_)
  refine bL (.agg (List.toArray _)) M0 rfl rfl rfl (fun b1 w1 M1 => ?_)
  refine aA (aE (.int _ _) rfl) rfl rfl ?_
  refine aC (aF (aG (aG (aB ?_))))
  refine aA (aD (.pointer _) rfl) rfl rfl ?_
  refine aK aKg rfl rfl rfl ?_
  refine (yI _ b).mono ?_
  rintro _ w2 ⟨v2, rfl, ⟨rfl, hb2⟩⟩
  refine ⟨_, rfl, ?_⟩
  have M2 := M1.callB hb2
  refine aA (aE (.pointer _) rfl) rfl rfl ?_
  refine aC (aF (aG (aB ?_)))
  refine aA (aD (.pointer _) rfl) rfl rfl ?_
  refine aA (nH true Tryz.underlying107 rfl rfl) rfl rfl ?_
  refine aC (aF ?_)
  refine cK rfl ?_
  refine aG ?_
  refine bS [(0, 0), (1, 0), (2, 0), (3, 1), (4, 2), (5, 0)] mixed rfl (by kernel_rfl) (fun w3 hb3 hh3 => ?_)
  have M3 := M2.drew hb3 hh3
  refine aU rfl rfl rfl (fun _ => aD (.pointer _) rfl) ?_
  refine aU rfl rfl rfl (fun _ => aO rfl) ?_
  refine aU rfl rfl rfl (fun _ => aH 0 pC rfl) ?_
  refine cB rfl rfl rfl (bE 3 bO M3 rfl rfl rfl) ?_
  refine dU [true] rfl (by kernel_rfl) ?_
  refine aK aYe rfl rfl rfl ?_
  refine (aJy _ _ _ _ _ _ _ _ _ hs (M3.ownSeg 0 3) x).mono ?_
  rintro _ w4 ⟨v4, rfl, ⟨rfl, A4, n4, c4, p4, er4, em4, hs4, hM4⟩⟩
  refine ⟨_, rfl, ?_⟩
  have M4 : Mem _ _ [_, _, _, _] _ := M3.seg 0 3 hM4
  refine aC (aF ⟨dV, ?_⟩)
  refine aU rfl rfl rfl (fun _ => aE (.int _ _) rfl) ?_
  refine cF ?_
  refine aF (aR (cC ?_))
  refine bY (.int _ _) rfl ?_
  obtain ⟨q1, q2⟩ := hR.add x
  exact ⟨⟨A4, n4, c4, p4, er4, em4⟩, by rw [q2], vB hs4 q1 (aVx (hG.inm hR) hx), M4.keep [true, true, true, false]⟩
set_option maxHeartbeats 4000000 in
theorem aDc (w : World) (b : Nat) (r : StV) (vs : List Body) (hW : eF 40 r vs) (hO : Own [(some b, bc [.slice r.A r.n r.c, .map r.p] 56), r.er, r.em] w) (key : Int) :
    Calls Tryz.prog 58 #[.pointer (some ⟨b, 0, none⟩), .int .u32 key] w (fun ex w' => ∃ v, ex = .returned v ∧ (fun v w' => ∃ r' : StV, v = .int .i64 (oW vs key).2 ∧ eF 40 r' ((oW vs key).1) ∧ Mem w (bX [(some b, bc [.slice r.A r.n r.c, .map r.p] 56), r.er, r.em]) [(some b, bc [.slice r'.A r'.n r'.c, .map r'.p] 56), r'.er, r'.em] w') v w') := by
  obtain ⟨hG, m, hs, hR⟩ := hW
  refine aJ #[.tmp 4] 15 Tryz.func58 rfl Tryz.results58 Tryz.ntmps58 rfl ?_
  have M0 := hO.mem
  refine aG (aB ?_)
  refine aA (aE (.int _ _) rfl) rfl rfl ?_
  refine aC (aF (aG (aG (aB ?_))))
  refine aA (aD (.pointer _) rfl) rfl rfl ?_
  refine aK aKg rfl rfl rfl ?_
  refine (yI _ b).mono ?_
  rintro _ w1 ⟨v1, rfl, ⟨rfl, hb1⟩⟩
  refine ⟨_, rfl, ?_⟩
  have M1 := M0.callB hb1
  refine aA (aE (.pointer _) rfl) rfl rfl ?_
  refine aC (aF (aG (aB ?_)))
  refine aA (aD (.pointer _) rfl) rfl rfl ?_
  refine aA (nH true Tryz.underlying107 rfl rfl) rfl rfl ?_
  refine aC (aF ?_)
  refine cK rfl ?_
  refine aG (aB ?_)
  refine aA (aD (.pointer _) rfl) rfl rfl ?_
  refine aA (aO rfl) rfl rfl ?_
  refine aA (aH 0 pC rfl) rfl rfl ?_
  refine aA (aD (.int _ _) rfl) rfl rfl ?_
  refine aK bDm rfl rfl rfl ?_
  refine (aHa _ _ _ _ _ _ _ _ _ hs (M1.ownSeg 0 3) key).mono ?_
  rintro _ w2 ⟨v2, rfl, ⟨rfl, A2, n2, c2, p2, er2, em2, hs2, hM2⟩⟩
  refine ⟨_, rfl, ?_⟩
  have M2 : Mem _ _ [_, _, _] _ := M1.seg 0 3 hM2
  refine aA (aE (.int _ _) rfl) rfl rfl ?_
  refine aC (aF (aR (cC ?_)))
  refine bY (.int _ _) rfl ?_
  obtain ⟨q1, q2⟩ := hR.remove key
  exact ⟨⟨A2, n2, c2, p2, er2, em2⟩, by rw [q2], vB hs2 q1 (aHh hs.keys (hG.inm hR)), M2.keep [true, true, true]⟩
set_option maxHeartbeats 4000000 in
theorem aAh (w : World) (b : Nat) (r : StV) (vs : List Body) (hW : eF 40 r vs) (hO : Own [(some b, bc [.slice r.A r.n r.c, .map r.p] 56), r.er, r.em] w) (key : Int) :
    Calls Tryz.prog 37 #[.pointer (some ⟨b, 0, none⟩), .int .u32 key] w (fun ex w' => ∃ v, ex = .returned v ∧ (fun v w' => v = .tuple #[(.agg (aI (pN vs key).body).toArray), .int .i64 (pN vs key).err] ∧ Mem w (bX [(some b, bc [.slice r.A r.n r.c, .map r.p] 56), r.er, r.em]) [(some b, bc [.slice r.A r.n r.c, .map r.p] 56), r.er, r.em] w') v w') := by
  obtain ⟨hG, m, hs, hR⟩ := hW
  refine aJ #[.cell 4 40, .tmp 5] 19 Tryz.func37 rfl Tryz.results37 Tryz.ntmps37 rfl ?_
  have M0 := hO.mem
  refine aG (aB ?_)
  refine aW gL M0 rfl rfl (fun b1 w1 M1 => ?_)
  refine aA (aE (.int _ _) rfl) rfl rfl ?_
  refine aC (aF (aG (aG (aB ?_))))
  refine aA (aD (.pointer _) rfl) rfl rfl ?_
  refine aK aKg rfl rfl rfl ?_
  refine (yI _ b).mono ?_
  rintro _ w2 ⟨v2, rfl, ⟨rfl, hb2⟩⟩
  refine ⟨_, rfl, ?_⟩
  have M2 := M1.callB hb2
  refine aA (aE (.pointer _) rfl) rfl rfl ?_
  refine aC (aF (aG (aB ?_)))
  refine aA (aD (.pointer _) rfl) rfl rfl ?_
  refine aA (nH true Tryz.underlying107 rfl rfl) rfl rfl ?_
  refine aC (aF ?_)
  refine cK rfl ?_
  refine aG (aB ?_)
  refine aA (aD (.pointer _) rfl) rfl rfl ?_
  refine aA (aO rfl) rfl rfl ?_
  refine aA (aH 0 pC rfl) rfl rfl ?_
  refine aA (aD (.int _ _) rfl) rfl rfl ?_
  refine aK bCw rfl rfl rfl ?_
  refine (aUa _ _ _ _ _ _ _ _ _ hs (M2.ownSeg 0 3) key).mono ?_
  rintro _ w3 ⟨v3, rfl, ⟨⟨x3, rfl, hx3⟩, hM3⟩⟩
  refine ⟨_, rfl, ?_⟩
  have M3 : Mem _ _ [_, _, _, _] _ := M2.seg 0 3 hM3
  have hge := aUx hR key
  obtain rfl : x3 = (pN vs key).body := by rw [hx3, hge]
  have hge2 : (wL m key).2 = (pN vs key).err := by rw [hge]
  refine aA (bG (.agg (List.toArray _)) rfl rfl) rfl rfl ?_
  refine aA (bG (.int _ _) rfl rfl) rfl rfl ?_
  refine aM 17 (.int .i64 (pN vs key).err) (iE hge2) ?_
  refine bH 3 _ bO M3 rfl rfl rfl rfl rfl (aY rfl) rfl (fun w4 M4 => ?_)
  refine aA (aE (.int _ _) rfl) rfl rfl ?_
  refine aC (aF (aR (cC ?_)))
  refine zO (v2 := .int _ _) 3 bO M4 rfl rfl rfl rfl ?_
  exact ⟨rfl, M4.keep [true, true, true, false]⟩
end Go.Proofs.YtlmcphcgiclanaaGreatDoor

namespace Go.Proofs.YtlmcphcgiclanaaGreatDoor
open Go.Bil
open Go.RowKit (Below)
open Go.Proofs
set_option maxHeartbeats 4000000 in
theorem jG (w : World) (b : Nat) (r : StV) (vs : List Body) (hW : eF 40 r vs) (hO : Own [(some b, bc [.slice r.A r.n r.c, .map r.p] 56), r.er, r.em] w) :
    Calls Tryz.prog 31 #[.pointer (some ⟨b, 0, none⟩)] w (fun ex w' => ∃ v, ex = .returned v ∧ (fun v w' => ∃ q : Row, v = .slice q.A q.n q.c ∧ bA 40 10 q.A q.n q.c ((vs).map aI) q.e ∧ Mem w (bX [(some b, bc [.slice r.A r.n r.c, .map r.p] 56), r.er, r.em]) [(some b, bc [.slice r.A r.n r.c, .map r.p] 56), r.er, r.em, q.e] w') v w') := by
  have hW' := hW
  obtain ⟨hG, m, hs, hR⟩ := hW
  refine aJ #[.tmp 2] 10 Tryz.func31 rfl Tryz.results31 Tryz.ntmps31 rfl ?_
  have M0 := hO.mem
  refine aG (aB ?_)
  refine aA (aE (.slice _ _ _) rfl) rfl rfl ?_
  refine aC (aF (aG (aG (aB ?_))))
  refine aA (aD (.pointer _) rfl) rfl rfl ?_
  refine aA (eC false Tryz.underlying63 rfl rfl) rfl rfl ?_
  refine aC (aF ?_)
  refine cH rfl ?_
  refine aN (aF (aG (aB ?_)))
  refine aA (aD (.pointer _) rfl) rfl rfl ?_
  refine aA (aO rfl) rfl rfl ?_
  refine aA (aH 0 rD rfl) rfl rfl ?_
  refine aA (aH 0 pC rfl) rfl rfl ?_
  refine aK bDt rfl rfl rfl ?_
  refine (aJa _ _ _ _ _ _ _ _ _ hs (M0.ownSeg 0 3)).mono ?_
  rintro _ w1 ⟨v1, rfl, ⟨A1, n1, c1, e1, rfl, hR1, hM1⟩⟩
  refine ⟨_, rfl, ?_⟩
  have M1 : Mem _ _ [_, _, _, _] _ := M0.seg 0 3 hM1
  rw [hR.eq] at hR1
  refine aA (aE (.slice _ _ _) rfl) rfl rfl ?_
  refine aC (aF (aR ?_))
  refine bY (.slice _ _ _) rfl ?_
  exact ⟨⟨A1, n1, c1, e1⟩, rfl, hR1, M1⟩
set_option maxHeartbeats 4000000 in
theorem oR (w : World) (b : Nat) (r : StV) (vs : List Body) (hW : eF 40 r vs) (hO : Own [(some b, bc [.slice r.A r.n r.c, .map r.p] 56), r.er, r.em] w) :
    Calls Tryz.prog 34 #[.pointer (some ⟨b, 0, none⟩)] w (fun ex w' => ∃ v, ex = .returned v ∧ (fun v w' => ∃ q : Row, v = .slice q.A q.n q.c ∧ bA 5 1 q.A q.n q.c ((kR vs).map cD) q.e ∧ Mem w (bX [(some b, bc [.slice r.A r.n r.c, .map r.p] 56), r.er, r.em]) [(some b, bc [.slice r.A r.n r.c, .map r.p] 56), r.er, r.em, q.e] w') v w') := by
  have hW' := hW
  obtain ⟨hG, m, hs, hR⟩ := hW
  refine aJ #[.tmp 2] 14 Tryz.func34 rfl Tryz.results34 Tryz.ntmps34 rfl ?_
  have M0 := hO.mem
  refine aG (aB ?_)
  refine aA (aE (.slice _ _ _) rfl) rfl rfl ?_
  refine aC (aF (aG (aG (aB ?_))))
  refine aA (aD (.pointer _) rfl) rfl rfl ?_
  refine aA (eC false Tryz.underlying63 rfl rfl) rfl rfl ?_
  refine aC (aF ?_)
  refine cH rfl ?_
  refine aN (aF (aG (aB ?_)))
  refine aA (aD (.pointer _) rfl) rfl rfl ?_
  refine aK wV rfl rfl rfl ?_
  refine (jG _ _ r _ hW' (M0.ownSeg 0 3)).mono ?_
  rintro _ w1 ⟨v1, rfl, ⟨q, rfl, hq, hM1⟩⟩
  refine ⟨_, rfl, ?_⟩
  have M1 : Mem _ _ [_, _, _, _] _ := M0.seg 0 3 hM1
  have hqn : vs.length = q.n := by simpa using hq.1
  have hvl := hG.len
  refine aK bDi rfl rfl rfl ?_
  refine (aDe _ _ _ _ vs (hq.rd M1 (bB (i := 3) rfl)) (by omega) hG.chk hG.inb).mono ?_
  rintro _ w2 ⟨v2, rfl, ⟨z, rfl, hz, hM2⟩⟩
  refine ⟨_, rfl, ?_⟩
  have M2 : Mem _ _ [_, _, _, _, _] _ := M1.call0 hM2
  refine aA (aD (.tuple (List.toArray _)) rfl) rfl rfl ?_
  refine aA (bG (.slice _ _ _) rfl rfl) rfl rfl ?_
  refine aA (bG (.int _ _) rfl rfl) rfl rfl ?_
  refine aA (aE (.slice _ _ _) rfl) rfl rfl ?_
  refine aA (aE (.int _ _) rfl) rfl rfl ?_
  refine aC (aF (aG (aB ?_)))
  refine aA (aD (.slice _ _ _) rfl) rfl rfl ?_
  refine aA (aE (.slice _ _ _) rfl) rfl rfl ?_
  refine aC (aF (aR ?_))
  refine bY (.slice _ _ _) rfl ?_
  exact ⟨z, rfl, hz, M2.keep [true, true, true, false, true]⟩
set_option maxHeartbeats 8000000 in
theorem zH (w : World) (b : Nat) (r : StV) (vs : List Body) (hW : eF 40 r vs) (hO : Own [(some b, bc [.slice r.A r.n r.c, .map r.p] 56), r.er, r.em] w) (key : Int) (j : Int × Int) (hj1 : -2147483648 ≤ j.1 ∧ j.1 ≤ 2147483647) (hj2 : -2147483648 ≤ j.2 ∧ j.2 ≤ 2147483647) :
    Calls Tryz.prog 56 #[.pointer (some ⟨b, 0, none⟩), .int .u32 key, .agg [.int .i32 j.1, .int .i32 j.2].toArray] w (fun ex w' => ∃ v, ex = .returned v ∧ (fun v w' => ∃ r' : StV, v = .int .i64 (yV vs key j).2 ∧ eF 40 r' ((yV vs key j).1) ∧ Mem w (bX [(some b, bc [.slice r.A r.n r.c, .map r.p] 56), r.er, r.em]) [(some b, bc [.slice r'.A r'.n r'.c, .map r'.p] 56), r'.er, r'.em] w') v w') := by
  have hW' := hW
  obtain ⟨hG, m, hs, hR⟩ := hW
  refine aJ #[.tmp 6] 30 Tryz.func56 rfl Tryz.results56 Tryz.ntmps56 rfl ?_
  have M0 := hO.mem
  refine aG (aB ?_)
  refine bL (.agg (List.toArray _)) M0 rfl rfl rfl (fun b1 w1 M1 => ?_)
  refine aA (aE (.int _ _) rfl) rfl rfl ?_
  refine aC (aF (aG (aB ?_)))
  refine aA (aD (.pointer _) rfl) rfl rfl ?_
  refine aA (aD (.int _ _) rfl) rfl rfl ?_
  refine aK aYf rfl rfl rfl ?_
  refine (aAh _ _ r vs hW' (M1.ownSeg 0 3) key).mono ?_
  rintro _ w2 ⟨v2, rfl, ⟨rfl, hM2⟩⟩
  refine ⟨_, rfl, ?_⟩
  have M2 : Mem _ _ [_, _, _, _] _ := M1.seg 0 3 hM2
  refine aA (aD (.tuple (List.toArray _)) rfl) rfl rfl ?_
  refine aA (bG (.agg (List.toArray _)) rfl rfl) rfl rfl ?_
  refine aA (bG (.int _ _) rfl rfl) rfl rfl ?_
  refine aW gL M2 rfl rfl (fun b3 w3 M3 => ?_)
  refine bH 4 _ bO M3 rfl rfl rfl rfl rfl (aY rfl) rfl (fun w4 M4 => ?_)
  refine aA (aE (.int _ _) rfl) rfl rfl ?_
  refine aC (aF (aG (aG (aB ?_))))
  refine aA (aD (.int _ _) rfl) rfl rfl ?_
  refine aA (aP (.bool (decide _)) rfl rfl rfl) rfl rfl ?_
  refine aC (aF ?_)
  refine aZ rfl (fun h16 => ?_) (fun h16 => ?_)
  · refine aG (aB ?_)
    refine aA (aD (.int _ _) rfl) rfl rfl ?_
    refine aA (aE (.int _ _) rfl) rfl rfl ?_
    refine aC (aF (aR (cC ?_)))
    refine bY (.int _ _) rfl ?_
    have hf : cE key vs < 0 := Decidable.byContradiction fun h => h16 (by unfold pN; rw [if_neg h]; rfl)
    exact ⟨r, by rw [aDv j hf]; unfold pN; rw [if_pos hf], by rw [aDv j hf]; exact hW', M4.keep [true, true, true, false, false]⟩
  · have hf : ¬ cE key vs < 0 := fun h => h16 (by unfold pN; rw [if_pos h]; decide)
    obtain ⟨i, bb, hbi, _, hfi⟩ := (dE key vs).resolve_left (fun h => hf (by omega))
    have hgb : (pN vs key).body = bb := by unfold pN; rw [if_neg hf]; exact xI hfi hbi
    obtain ⟨z1, z2, z3, z4⟩ := aVu hR hG j hfi hbi
    have hbo := hG.okb bb (List.mem_of_getElem? hbi)
    refine aN (aF (aG (aB ?_)))
    refine aA (bE 4 bO M4 rfl rfl rfl) rfl rfl ?_
    refine aM 19 ((.agg (aI bb).toArray)) (congrArg (fun x => Value.agg (aI x).toArray) hgb) ?_
    refine aA (bE 3 bJ M4 rfl rfl rfl) rfl rfl ?_
    refine aK bCy rfl rfl rfl ?_
    refine (aRy _ bb hbo j hj1 hj2).mono ?_
    rintro _ w5 ⟨v5, rfl, ⟨⟨gg, rfl⟩, hb5⟩⟩
    refine ⟨_, rfl, ?_⟩
    have M5 := M4.callB hb5
    refine aA (aD (.tuple (List.toArray _)) rfl) rfl rfl ?_
    refine aA (bG (.agg (List.toArray _)) rfl rfl) rfl rfl ?_
    refine aA (bG (.bool _) rfl rfl) rfl rfl ?_
    refine bH 4 _ bO M5 rfl rfl rfl rfl rfl (aY rfl) rfl (fun w6 M6 => ?_)
    refine aC (aF (aG ?_))
    refine bS [(0, 0), (1, 0), (2, 0), (3, 0), (4, 1), (5, 2), (6, 0)] mixed rfl (by kernel_rfl) (fun w7 hb7 hh7 => ?_)
    have M7 := M6.drew hb7 hh7
    refine aU rfl rfl rfl (fun _ => aD (.pointer _) rfl) ?_
    refine aU rfl rfl rfl (fun _ => aO rfl) ?_
    refine aU rfl rfl rfl (fun _ => aH 0 rD rfl) ?_
    refine aU rfl rfl rfl (fun _ => aH 0 pC rfl) ?_
    refine cB rfl rfl rfl (bE 4 bO M7 rfl rfl rfl) ?_
    refine dU [true] rfl (by kernel_rfl) ?_
    refine aK bCp rfl rfl rfl ?_
    refine (aUv _ _ _ _ _ _ _ _ _ hs (M7.ownSeg 0 3) (mD bb j)).mono ?_
    rintro _ w8 ⟨v8, rfl, ⟨rfl, A8, n8, c8, p8, er8, em8, hs8, hM8⟩⟩
    refine ⟨_, rfl, ?_⟩
    have M8 : Mem _ _ [_, _, _, _, _] _ := M7.seg 0 3 hM8
    refine aC (aF ⟨dV, ?_⟩)
    refine aU rfl rfl rfl (fun _ => aE (.int _ _) rfl) ?_
    refine cF ?_
    refine aF (aR ?_)
    refine bY (.int _ _) rfl ?_
    exact ⟨⟨A8, n8, c8, p8, er8, em8⟩, by rw [z3, z2], vB hs8 z1 (aWn (hG.inm hR) (aXb (hG.inb bb (List.mem_of_getElem? hbi)) j)), M8.keep [true, true, true, false, false]⟩
set_option maxHeartbeats 8000000 in
theorem pT (w : World) (b : Nat) (r : StV) (vs : List Body) (hW : eF 40 r vs) (hO : Own [(some b, bc [.slice r.A r.n r.c, .map r.p] 56), r.er, r.em] w) (A : Option Addr) (n c : Nat) (xs : List Body) (RA : Rd w 10 A n (xs.map aI)) (hX : GoodV xs) (hdA : 0 < n → ∀ q off, A = some ⟨q, off, none⟩ → q ∉ bX [(some b, bc [.slice r.A r.n r.c, .map r.p] 56), r.er, r.em]) :
    Calls Tryz.prog 69 #[.pointer (some ⟨b, 0, none⟩), .slice A n c] w (fun ex w' => ∃ v, ex = .returned v ∧ (fun v w' => ∃ r' : StV, v = .tuple #[] ∧ eF 40 r' (xs) ∧ Mem w (bX [(some b, bc [.slice r.A r.n r.c, .map r.p] 56), r.er, r.em]) [(some b, bc [.slice r'.A r'.n r'.c, .map r'.p] 56), r'.er, r'.em] w') v w') := by
  have hlen : xs.length = n := by simpa using RA.len
  have hbd := RA.bound
  have hxl := hX.len
  refine aJ #[] 23 Tryz.func69 rfl Tryz.results69 Tryz.ntmps69 rfl ?_
  have M0 := hO.mem
  refine aG (aB ?_)
  refine aA (aD (.pointer _) rfl) rfl rfl ?_
  refine aA (cN [] _ aSg rfl rfl) rfl rfl ?_
  refine aA (aO rfl) rfl rfl ?_
  refine aA (aH 0 rD rfl) rfl rfl ?_
  refine bH 0 _ bEg M0 rfl rfl rfl rfl rfl (aY rfl) rfl (fun w1 M1 => ?_)
  refine aC (aF (aG (aB ?_)))
  have M2 : Mem _ _ [_, _, _] _ := (((M1.keep [true, false, false]).dummy default).dummy default)
  refine aA (aD (.slice _ _ _) rfl) rfl rfl ?_
  refine aA (cT Tryz.underlying22 rfl) rfl rfl ?_
  refine aA (aD (.int _ _) rfl) rfl rfl ?_
  refine aC (aF (aV ?_))
  refine dK (σ := Nat × StV) [0, 10, 11] (fun (k, r2) => [(12, .int .i64 (k : Int))]) (fun (k, r2) w' => (k ≤ n ∧ StoreIs 40 r2.A r2.n r2.c r2.p r2.er r2.em (xs.take k)) ∧ Mem w (bX [(some b, bc [.slice r.A r.n r.c, .map r.p] 56), r.er, r.em]) [(some b, bc [.slice r2.A r2.n r2.c, .map r2.p] 56), r2.er, r2.em] w') (fun (k, r2) => n - k) (0, ⟨none, 0, 0, none, (none, default), (none, default)⟩) (bK rfl eO) (⟨⟨by omega, (StoreIs.nil 40 default default)⟩, M2⟩) ?_
  rintro ⟨k, r2⟩ ρ3 w3 ⟨⟨hk, hr⟩, hM3⟩
  refine aG (aB ?_)
  refine aA (aP (.bool (decide _)) rfl rfl rfl) rfl rfl ?_
  refine aC (aF (aG ?_))
  refine aZ rfl (fun h13 => ?_) (fun h13 => ?_)
  · obtain ⟨xb, hxb⟩ := cL (xs := xs) (k := k) hlen (by omega)
    refine aN (aF (aG (aV (aG (aB ?_)))))
    refine aA (bU (k) dO rfl rfl rfl ((RA.memY hM3 hdA).below_len (aL aI hxb)) ((RA.memY hM3 hdA).someK (aL aI hxb))) rfl rfl ?_
    refine aA (dS _ bO (RA.memY hM3 hdA) (aL aI hxb) rfl) rfl rfl ?_
    refine aW gL hM3 rfl rfl (fun b4 w4 M4 => ?_)
    refine bH 3 _ bO M4 rfl rfl rfl rfl rfl (aY rfl) rfl (fun w5 M5 => ?_)
    refine aC (aF ?_)
    refine bS [(0, 0), (1, 0), (2, 0), (3, 0), (4, 1), (5, 2)] mixed rfl (by kernel_rfl) (fun w6 hb6 hh6 => ?_)
    have M6 := M5.drew hb6 hh6
    refine aU rfl rfl rfl (fun _ => aD (.pointer _) rfl) ?_
    refine aU rfl rfl rfl (fun _ => aO rfl) ?_
    refine aU rfl rfl rfl (fun _ => aH 0 rD rfl) ?_
    refine aU rfl rfl rfl (fun _ => aH 0 pC rfl) ?_
    refine cB rfl rfl rfl (bE 3 bO M6 rfl rfl rfl) ?_
    refine dU [true] rfl (by kernel_rfl) ?_
    refine aK aYe rfl rfl rfl ?_
    refine (aJy _ _ _ _ _ _ _ _ _ hr (M6.ownSeg 0 3) xb).mono ?_
    rintro _ w7 ⟨v7, rfl, ⟨rfl, A7, n7, c7, p7, er7, em7, hs7, hM7⟩⟩
    refine ⟨_, rfl, ?_⟩
    have M7 : Mem _ _ [_, _, _, _] _ := M6.seg 0 3 hM7
    refine aC (aF ⟨dV, ?_⟩)
    refine cF ?_
    refine dB ?_
    refine aF (aB ?_)
    refine aA (bM rfl rfl (by omega) (by omega)) rfl rfl ?_
    refine aA (aD (.int _ _) rfl) rfl rfl ?_
    refine aC ?_
    refine cO (k + 1, ⟨A7, n7, c7, p7, er7, em7⟩) (bK rfl eO) (cS rfl (cS rfl (cS rfl jB))) ?_ ?_
    · exact ⟨⟨by omega, by rw [← aGe hX (k + 1) (by omega), xX hxb, aGe hX k (by omega)]; exact hs7⟩, M7.keep [true, true, true, false]⟩
    · (show n - (k + 1) < n - k; omega)
  · obtain rfl : k = n := by omega
    rw [List.take_of_length_le (by omega)] at hr
    refine cP ?_
    refine dA ?_
    refine cZ ?_
    refine eQ ?_
    refine iD ?_
    exact ⟨r2, rfl, ⟨hX, xs, hr, aSo hX.s⟩, hM3⟩
end Go.Proofs.YtlmcphcgiclanaaGreatDoor

namespace Go.Proofs.YtlmcphcgiclanaaGreatDoor
open Go.Bil
open Go.RowKit (Below)
open Go.Proofs
set_option maxHeartbeats 8000000 in
theorem aHb (w : World) (F : Rd w 2 (some ⟨0, 0, none⟩) 1 [[.int .u32 73856093, .int .u32 19349663]]) (N : Rd w 4 (some ⟨3, 0, none⟩) 1 [dI jA]) (b : Nat) (r : StV) (vs : List Body) (hW : eF 40 r vs) (hO : Own [(some b, bc [.slice r.A r.n r.c, .map r.p] 56), r.er, r.em] w) (hdF : 0 < 1 → ∀ q off, (some ⟨0, 0, none⟩ : Option Addr) = some ⟨q, off, none⟩ → q ∉ bX [(some b, bc [.slice r.A r.n r.c, .map r.p] 56), r.er, r.em]) (hdN : 0 < 1 → ∀ q off, (some ⟨3, 0, none⟩ : Option Addr) = some ⟨q, off, none⟩ → q ∉ bX [(some b, bc [.slice r.A r.n r.c, .map r.p] 56), r.er, r.em]) :
    Calls Tryz.prog 57 #[.pointer (some ⟨b, 0, none⟩)] w (fun ex w' => ∃ v, ex = .returned v ∧ (fun v w' => ∃ (r' : StV) (t : Nat), v = .agg [.int .i64 (t : Int), .int .i64 ((mZ vs).length : Int), .bool (aBf vs)].toArray ∧ eF 40 r' (uB vs) ∧ Mem w (bX [(some b, bc [.slice r.A r.n r.c, .map r.p] 56), r.er, r.em]) [(some b, bc [.slice r'.A r'.n r'.c, .map r'.p] 56), r'.er, r'.em] w') v w') := by
  have hW' := hW
  obtain ⟨hG, m, hs, hR⟩ := hW
  have hvl := hG.len
  refine aJ #[.cell 2 27] 18 Tryz.func57 rfl Tryz.results57 Tryz.ntmps57 rfl ?_
  have M0 := hO.mem
  refine aG (aB ?_)
  refine aW aBr M0 rfl rfl (fun b1 w1 M1 => ?_)
  refine aC (aF (aG (aG (aB ?_))))
  refine aA (aD (.pointer _) rfl) rfl rfl ?_
  refine aA (eC false Tryz.underlying63 rfl rfl) rfl rfl ?_
  refine aC (aF ?_)
  refine cH rfl ?_
  refine aN (aF (aG (aB ?_)))
  refine aA (aD (.pointer _) rfl) rfl rfl ?_
  refine aK wV rfl rfl rfl ?_
  refine (jG _ _ r _ hW' (M1.ownSeg 0 3)).mono ?_
  rintro _ w2 ⟨v2, rfl, ⟨q, rfl, hq, hM2⟩⟩
  refine ⟨_, rfl, ?_⟩
  have M2 : Mem _ _ [_, _, _, _, _] _ := M1.seg 0 3 hM2
  have hqn : vs.length = q.n := by simpa using hq.1
  refine aK bDw rfl rfl rfl ?_
  refine (aMx _ (F.memY M2 hdF) (N.memY M2 hdN) _ _ _ vs (hq.rd M2 (bB (i := 4) rfl)) hG.okb hG.s (by omega)).mono ?_
  rintro _ w3 ⟨v3, rfl, ⟨ra, ta, rfl, h1ta, h2ta, hra, hM3⟩⟩
  refine ⟨_, rfl, ?_⟩
  have M3 : Mem _ _ [_, _, _, _, _, _] _ := M2.call0 hM3
  refine aA (aD (.tuple (List.toArray _)) rfl) rfl rfl ?_
  refine aA (bG (.slice _ _ _) rfl rfl) rfl rfl ?_
  refine aA (bG (.agg (List.toArray _)) rfl rfl) rfl rfl ?_
  refine aW aBr M3 rfl rfl (fun b4 w4 M4 => ?_)
  refine aA (aE (.slice _ _ _) rfl) rfl rfl ?_
  refine bH 6 _ tS M4 rfl rfl rfl rfl rfl (aY rfl) rfl (fun w5 M5 => ?_)
  refine aC (aF (aG (aB ?_)))
  refine aA (aD (.pointer _) rfl) rfl rfl ?_
  refine aA (aD (.slice _ _ _) rfl) rfl rfl ?_
  refine aK aXk rfl rfl rfl ?_
  refine (pT _ _ r _ hW' (M5.ownSeg 0 3) ra.A ra.n ra.c (uB vs) (hra.rd M5 (bB (i := 5) rfl)) hG.step (hra.awayS M5 0 3 5 rfl rfl)).mono ?_
  rintro _ w6 ⟨v6, rfl, ⟨r2, rfl, hw2, hM6⟩⟩
  refine ⟨_, rfl, ?_⟩
  have M6 : Mem _ _ [_, _, _, _, _, _, _] _ := M5.seg 0 3 hM6
  refine aC (aF (aG (aB ?_)))
  refine aA (bE 6 tS M6 rfl rfl rfl) rfl rfl ?_
  refine bH 3 _ tS M6 rfl rfl rfl rfl rfl (aY rfl) rfl (fun w7 M7 => ?_)
  refine aC (aF (aR ?_))
  refine iX 3 tS M7 rfl rfl rfl ?_
  exact ⟨r2, ta, rfl, hw2, M7.keep [true, true, true, false, false, false, false]⟩
set_option maxHeartbeats 8000000 in
theorem pW (w : World) (b : Nat) (r : StV) (vs : List Body) (hW : eF 40 r vs) (hO : Own [(some b, bc [.slice r.A r.n r.c, .map r.p] 56), r.er, r.em] w) (BA : Option Addr) (nn cc : Nat) (ls : List Int) (RS : Rd w 1 BA nn (ls.map cD)) (hB : jD ls) (hcap : nn ≤ cc) (hnn : nn ≤ 1000000) (hdB : 0 < nn → ∀ q off, BA = some ⟨q, off, none⟩ → q ∉ bX [(some b, bc [.slice r.A r.n r.c, .map r.p] 56), r.er, r.em]) :
    Calls Tryz.prog 35 #[.pointer (some ⟨b, 0, none⟩), .slice BA nn cc] w (fun ex w' => ∃ v, ex = .returned v ∧ (fun v w' => ∃ r' : StV, v = .int .i64 (kU ls).2 ∧ eF 40 r' (vM vs ls) ∧ Mem w (bX [(some b, bc [.slice r.A r.n r.c, .map r.p] 56), r.er, r.em]) [(some b, bc [.slice r'.A r'.n r'.c, .map r'.p] 56), r'.er, r'.em] w') v w') := by
  have hW' := hW
  obtain ⟨hG, m, hs, hR⟩ := hW
  have hlen : ls.length = nn := by simpa using RS.len
  refine aJ #[.tmp 4] 20 Tryz.func35 rfl Tryz.results35 Tryz.ntmps35 rfl ?_
  have M0 := hO.mem
  refine aG (aB ?_)
  refine aA (aE (.int _ _) rfl) rfl rfl ?_
  refine aC (aF (aG (aG (aB ?_))))
  refine aA (aD (.pointer _) rfl) rfl rfl ?_
  refine aA (eC false Tryz.underlying63 rfl rfl) rfl rfl ?_
  refine aC (aF ?_)
  refine cH rfl ?_
  refine aN (aF (aG (aB ?_)))
  refine aA (aD (.slice _ _ _) rfl) rfl rfl ?_
  refine aK bCx rfl rfl rfl ?_
  refine (aDj _ BA nn cc ls (RS.memY M0 hdB) hB hcap (by omega)).mono ?_
  rintro _ w1 ⟨v1, rfl, ⟨q, rfl, hq, hM1⟩⟩
  refine ⟨_, rfl, ?_⟩
  have M1 : Mem _ _ [_, _, _, _] _ := M0.call0 hM1
  refine aA (aD (.tuple (List.toArray _)) rfl) rfl rfl ?_
  refine aA (bG (.slice _ _ _) rfl rfl) rfl rfl ?_
  refine aA (bG (.int _ _) rfl rfl) rfl rfl ?_
  refine aA (aE (.slice _ _ _) rfl) rfl rfl ?_
  refine aA (aE (.int _ _) rfl) rfl rfl ?_
  refine aC (aF (aG (aG (aB ?_))))
  refine aA (aD (.int _ _) rfl) rfl rfl ?_
  refine aA (aP (.bool (decide _)) rfl rfl rfl) rfl rfl ?_
  refine aC (aF ?_)
  refine aZ rfl (fun h15 => ?_) (fun h15 => ?_)
  · refine aB ?_
    refine aA (aD (.pointer _) rfl) rfl rfl ?_
    refine aA (aD (.slice _ _ _) rfl) rfl rfl ?_
    refine aK aXk rfl rfl rfl ?_
    refine (pT _ _ r _ hW' (M1.ownSeg 0 3) q.A q.n q.c (kU ls).1 (hq.rd M1 (bB (i := 3) rfl)) (GoodV.dec hB (by omega) h15) (hq.awayS M1 0 3 3 rfl rfl)).mono ?_
    rintro _ w2 ⟨v2, rfl, ⟨r2, rfl, hw2, hM2⟩⟩
    refine ⟨_, rfl, ?_⟩
    have M2 : Mem _ _ [_, _, _, _] _ := M1.seg 0 3 hM2
    refine aC (aF (aG (aB ?_)))
    refine aA (aD (.int _ _) rfl) rfl rfl ?_
    refine aA (aE (.int _ _) rfl) rfl rfl ?_
    refine aC (aF (aR ?_))
    refine bY (.int _ _) rfl ?_
    exact ⟨r2, rfl, by unfold vM; rw [if_pos h15]; exact hw2, M2.keep [true, true, true, false]⟩
  · refine aN (aF (aG (aB ?_)))
    refine aA (aD (.int _ _) rfl) rfl rfl ?_
    refine aA (aE (.int _ _) rfl) rfl rfl ?_
    refine aC (aF (aR ?_))
    refine bY (.int _ _) rfl ?_
    exact ⟨r, rfl, by unfold vM; rw [if_neg h15]; exact hW', M1.keep [true, true, true, false]⟩
end Go.Proofs.YtlmcphcgiclanaaGreatDoor

namespace Go.Proofs.YtlmcphcgiclanaaGreatDoor
open Go.Bil
open Go.RowKit (Below)
open Go.Proofs
end Go.Proofs.YtlmcphcgiclanaaGreatDoor

namespace Go.Proofs.YtlmcphcgiclanaaGreatDoor
open Go.Bil
open Go.RowKit (Below)
open Go.Proofs
end Go.Proofs.YtlmcphcgiclanaaGreatDoor

namespace Go.Proofs.YtlmcphcgiclanaaGreatDoor
open Go.Bil
open Go.RowKit (Below)
open Go.Proofs
theorem aRf : kV ([] : List Body) ⟨5, 65536, 0, 0, 65536, 0, 0, 0, 0, 0⟩ = (([⟨5, 65536, 0, 0, 65536, 0, 0, 0, 0, 0⟩] : List Body), 0) := by decide
theorem aRh : kV ([⟨5, 65536, 0, 0, 65536, 0, 0, 0, 0, 0⟩] : List Body) ⟨2, 65536, 0, 0, 0, 0, 200000, 0, 0, 0⟩ = (([⟨2, 65536, 0, 0, 0, 0, 200000, 0, 0, 0⟩, ⟨5, 65536, 0, 0, 65536, 0, 0, 0, 0, 0⟩] : List Body), 0) := by decide
theorem aRk : yV ([⟨2, 65536, 0, 0, 0, 0, 200000, 0, 0, 0⟩, ⟨5, 65536, 0, 0, 65536, 0, 0, 0, 0, 0⟩] : List Body) 5 (64, 1024) = (([⟨2, 65536, 0, 0, 0, 0, 200000, 0, 0, 0⟩, ⟨5, 65536, 0, 0, 65536, 0, 0, 0, 64, 1024⟩] : List Body), 0) := by decide
theorem aIv : mZ ([⟨2, 65536, 0, 0, 0, 0, 200000, 0, 0, 0⟩, ⟨5, 65536, 0, 0, 65536, 0, 0, 0, 64, 1024⟩] : List Body) = [] := by decide +kernel
theorem bBm : uB ([⟨2, 65536, 0, 0, 0, 0, 200000, 0, 0, 0⟩, ⟨5, 65536, 0, 0, 65536, 0, 0, 0, 64, 1024⟩] : List Body) = ([⟨2, 65536, 0, 0, 0, 0, 200000, 0, 0, 0⟩, ⟨5, 65536, 0, 0, 65536, 0, 1, 0, 64, 0⟩] : List Body) := by
  unfold uB lU
  rw [aIv]
  decide +kernel
theorem aYq : aBf ([⟨2, 65536, 0, 0, 0, 0, 200000, 0, 0, 0⟩, ⟨5, 65536, 0, 0, 65536, 0, 0, 0, 64, 1024⟩] : List Body) = false := by
  unfold aBf lU
  rw [aIv]
  decide +kernel
theorem aQh : pN ([⟨2, 65536, 0, 0, 0, 0, 200000, 0, 0, 0⟩, ⟨5, 65536, 0, 0, 65536, 0, 1, 0, 64, 0⟩] : List Body) 5 = ⟨0, ⟨5, 65536, 0, 0, 65536, 0, 1, 0, 64, 0⟩, [], 0, false⟩ := by unfold pN; rw [if_neg (by decide)]; rfl
theorem aSx : kU gE = ([], 13) := uO (fun h => by have := h.1; revert this; decide)
theorem aZj : vM ([⟨2, 65536, 0, 0, 0, 0, 200000, 0, 0, 0⟩, ⟨5, 65536, 0, 0, 65536, 0, 1, 0, 64, 0⟩] : List Body) gE = ([⟨2, 65536, 0, 0, 0, 0, 200000, 0, 0, 0⟩, ⟨5, 65536, 0, 0, 65536, 0, 1, 0, 64, 0⟩] : List Body) := by unfold vM; rw [if_neg (by rw [aSx]; decide)]
theorem aTa : oW ([⟨2, 65536, 0, 0, 0, 0, 200000, 0, 0, 0⟩, ⟨5, 65536, 0, 0, 65536, 0, 1, 0, 64, 0⟩] : List Body) 7 = (([⟨2, 65536, 0, 0, 0, 0, 200000, 0, 0, 0⟩, ⟨5, 65536, 0, 0, 65536, 0, 1, 0, 64, 0⟩] : List Body), 11) := by decide
theorem aYy : jD gE := by decide
set_option maxHeartbeats 100000000 in
theorem bDj (w : World) (F : Rd w 2 (some ⟨0, 0, none⟩) 1 [[.int .u32 73856093, .int .u32 19349663]]) (N : Rd w 4 (some ⟨3, 0, none⟩) 1 [dI jA]) :
    Calls Tryz.prog 25 #[] w (fun ex w' => ∃ v, ex = .returned v ∧ (fun v w' => v = .bool true ∧ Below w.heap.size w w') v w') := by
  refine aJ #[.tmp 0] 93 Tryz.func25 rfl Tryz.results25 Tryz.ntmps25 rfl ?_
  have M0 := Mem.refl w
  refine aG (aB ?_)
  refine aA (aE (.bool false) rfl) rfl rfl ?_
  refine aC (aF (aG (aB ?_)))
  refine aW aGz M0 rfl rfl (fun b1 w1 M1 => ?_)
  have M2 := (M1.dummy default).dummy default
  refine aC (aF (aG (aB ?_)))
  refine aA (aE (.pointer _) rfl) rfl rfl ?_
  refine aC (aF (aG (aB ?_)))
  refine aA (cN [(0, .int _ _), (1, .int _ _), (3, .int _ _)] _ oJ rfl rfl) rfl rfl ?_
  refine aK aKj rfl rfl rfl ?_
  refine (tA _ _ ⟨none, 0, 0, none, (none, default), (none, default)⟩ _ (eF.new 40 default default) (M2.ownSeg 0 3) ⟨5, 65536, 0, 0, 65536, 0, 0, 0, 0, 0⟩ ⟨by decide, by decide, by decide, by decide, by decide, by decide, by decide, by decide, by decide, by decide⟩).mono ?_
  rintro _ w3 ⟨v3, rfl, ⟨r1, rfl, hr1, hM3⟩⟩
  refine ⟨_, rfl, ?_⟩
  have M3 : Mem _ _ [_, _, _] _ := M2.seg 0 3 hM3
  rw [aRf] at hr1
  refine aM 12 (.int .i64 0) (iE (by rw [aRf])) ?_
  refine aA (aE (.int _ _) rfl) rfl rfl ?_
  refine aC (aF (aG (aB ?_)))
  refine aA (cN [(0, .int _ _)] _ eJ rfl rfl) rfl rfl ?_
  refine aA (cN [(0, .int _ _), (1, .int _ _), (5, .agg (List.toArray _))] _ oJ rfl rfl) rfl rfl ?_
  refine aK aKj rfl rfl rfl ?_
  refine (tA _ _ r1 _ hr1 (M3.ownSeg 0 3) ⟨2, 65536, 0, 0, 0, 0, 200000, 0, 0, 0⟩ ⟨by decide, by decide, by decide, by decide, by decide, by decide, by decide, by decide, by decide, by decide⟩).mono ?_
  rintro _ w4 ⟨v4, rfl, ⟨r2, rfl, hr2, hM4⟩⟩
  refine ⟨_, rfl, ?_⟩
  have M4 : Mem _ _ [_, _, _] _ := M3.seg 0 3 hM4
  rw [aRh] at hr2
  refine aM 15 (.int .i64 0) (iE (by rw [aRh])) ?_
  refine aA (aE (.int _ _) rfl) rfl rfl ?_
  refine aC (aF (aG (aB ?_)))
  refine aA (cN [(0, .int _ _), (1, .int _ _)] _ eJ rfl rfl) rfl rfl ?_
  refine aK bDs rfl rfl rfl ?_
  refine (zH _ _ r2 _ hr2 (M4.ownSeg 0 3) 5 (64, 1024) (by decide) (by decide)).mono ?_
  rintro _ w5 ⟨v5, rfl, ⟨r3, rfl, hr3, hM5⟩⟩
  refine ⟨_, rfl, ?_⟩
  have M5 : Mem _ _ [_, _, _] _ := M4.seg 0 3 hM5
  rw [aRk] at hr3
  refine aM 17 (.int .i64 0) (iE (by rw [aRk])) ?_
  refine aA (aE (.int _ _) rfl) rfl rfl ?_
  refine aC (aF (aG (aB ?_)))
  refine aK bDa rfl rfl rfl ?_
  refine (aHb _ (F.mem M5) (N.mem M5) _ r3 _ hr3 (M5.ownSeg 0 3) (M5.away 0 3 F (by simp)) (M5.away 0 3 N (by simp))).mono ?_
  rintro _ w6 ⟨v6, rfl, ⟨r4, ts, rfl, hr4, hM6⟩⟩
  refine ⟨_, rfl, ?_⟩
  have M6 : Mem _ _ [_, _, _] _ := M5.seg 0 3 hM6
  rw [bBm] at hr4
  refine aM 18 (.agg [.int .i64 (ts : Int), .int .i64 0, .bool false].toArray) (congrArg Value.agg (by rw [aIv, aYq]; rfl)) ?_
  refine aW aBr M6 rfl rfl (fun b7 w7 M7 => ?_)
  refine bH 3 _ tS M7 rfl rfl rfl rfl rfl (aY rfl) rfl (fun w8 M8 => ?_)
  refine aC (aF (aG (aB ?_)))
  refine aK aYf rfl rfl rfl ?_
  refine (aAh _ _ r4 _ hr4 (M8.ownSeg 0 3) 5).mono ?_
  rintro _ w9 ⟨v9, rfl, ⟨rfl, hM9⟩⟩
  refine ⟨_, rfl, ?_⟩
  have M9 : Mem _ _ [_, _, _, _] _ := M8.seg 0 3 hM9
  refine aA (aD (.tuple (List.toArray _)) rfl) rfl rfl ?_
  refine aA (bG (.agg (List.toArray _)) rfl rfl) rfl rfl ?_
  refine aM 21 ((.agg (aI (⟨5, 65536, 0, 0, 65536, 0, 1, 0, 64, 0⟩ : Body)).toArray)) (congrArg (fun x : ResI => Value.agg (aI x.body).toArray) aQh) ?_
  refine aA (bG (.int _ _) rfl rfl) rfl rfl ?_
  refine aM 22 (.int .i64 0) (iE (by rw [aQh])) ?_
  refine aW gL M9 rfl rfl (fun b10 w10 M10 => ?_)
  refine bH 4 _ bO M10 rfl rfl rfl rfl rfl (aY rfl) rfl (fun w11 M11 => ?_)
  refine aA (aE (.int _ _) rfl) rfl rfl ?_
  refine aC (aF (aG (aB ?_)))
  refine cR [.int _ _, .int _ _, .int _ _, .int _ _] (gE.map cD) rfl lN M11 rfl rfl rfl rfl (cW rfl) (by decide) (fun b12 w12 M12 => ?_)
  have hlit23 := jK (T := 5) (b := b12) (gE.map cD) (vU _) rfl (by decide)
  refine aJu 5 Tryz.underlying57 Tryz.underlying5 M12 rfl rfl rfl rfl hlit23 (by decide) (fun e13 w13 M13 hR13 => ?_)
  refine aK aYj rfl rfl rfl ?_
  refine (pW _ _ r4 _ hr4 (M13.ownSeg 0 3) _ 4 4 gE (hR13.rd M13 (bB (i := 5) rfl)) aYy (by decide) (by decide) (hR13.awayS M13 0 3 5 rfl rfl)).mono ?_
  rintro _ w14 ⟨v14, rfl, ⟨r5, rfl, hr5, hM14⟩⟩
  refine ⟨_, rfl, ?_⟩
  have M14 : Mem _ _ [_, _, _, _, _, _] _ := M13.seg 0 3 hM14
  rw [aZj] at hr5
  refine aM 25 (.int .i64 13) (iE (by rw [aSx])) ?_
  refine aA (aE (.int _ _) rfl) rfl rfl ?_
  refine aC (aF (aG (aB ?_)))
  refine aK bCh rfl rfl rfl ?_
  refine (aDc _ _ r5 _ hr5 (M14.ownSeg 0 3) 7).mono ?_
  rintro _ w15 ⟨v15, rfl, ⟨r6, rfl, hr6, hM15⟩⟩
  refine ⟨_, rfl, ?_⟩
  have M15 : Mem _ _ [_, _, _, _, _, _] _ := M14.seg 0 3 hM15
  rw [aTa] at hr6
  refine aM 26 (.int .i64 11) (iE (by rw [aTa])) ?_
  refine aA (aE (.int _ _) rfl) rfl rfl ?_
  refine aC (aF (aG (aB ?_)))
  refine aA (aD (.int _ _) rfl) rfl rfl ?_
  refine aA (aP (.bool (decide _)) rfl rfl rfl) rfl rfl ?_
  refine aM 28 (.bool true) (bT (by first | decide | omega)).symm ?_
  refine aA (aD (.bool true) rfl) rfl rfl ?_
  refine aA (aD (.int _ _) rfl) rfl rfl ?_
  refine aA (aP (.bool (decide _)) rfl rfl rfl) rfl rfl ?_
  refine aM 31 (.bool true) (bT (by first | decide | omega)).symm ?_
  refine aA (bN true (.bool true) rfl rfl) rfl rfl ?_
  refine aA (aD (.bool true) rfl) rfl rfl ?_
  refine aA (aD (.int _ _) rfl) rfl rfl ?_
  refine aA (aP (.bool (decide _)) rfl rfl rfl) rfl rfl ?_
  refine aM 35 (.bool true) (bT (by first | decide | omega)).symm ?_
  refine aA (bN true (.bool true) rfl rfl) rfl rfl ?_
  refine aA (aD (.bool true) rfl) rfl rfl ?_
  refine aA (aH 2 uV rfl) rfl rfl ?_
  refine aA (aQ 3 (.bool false) oE M15 rfl rfl rfl) rfl rfl ?_
  refine aA (iZ true rfl rfl) rfl rfl ?_
  refine aA (bN true (.bool true) rfl rfl) rfl rfl ?_
  refine aA (aD (.bool true) rfl) rfl rfl ?_
  refine aA (aH 1 aKu rfl) rfl rfl ?_
  refine aA (aQ 3 (.int _ _) yB M15 rfl rfl rfl) rfl rfl ?_
  refine aA (aP (.bool (decide _)) rfl rfl rfl) rfl rfl ?_
  refine aM 45 (.bool true) (bT rfl).symm ?_
  refine aA (bN true (.bool true) rfl rfl) rfl rfl ?_
  refine aA (aD (.bool true) rfl) rfl rfl ?_
  refine aA (aH 6 fG rfl) rfl rfl ?_
  refine aA (qP 4 _ bJ M15 rfl rfl rfl rfl) rfl rfl ?_
  refine aA (cN [(0, .int _ _)] _ eJ rfl rfl) rfl rfl ?_
  refine aA (aXt (aXh _ _ _ _) rfl rfl) rfl rfl ?_
  refine aM 51 (.bool true) (bT (by decide)).symm ?_
  refine aA (bN true (.bool true) rfl rfl) rfl rfl ?_
  refine aA (aD (.bool true) rfl) rfl rfl ?_
  refine aA (aH 8 eN rfl) rfl rfl ?_
  refine aA (qP 4 _ bJ M15 rfl rfl rfl rfl) rfl rfl ?_
  refine aA (cN [(0, .int _ _)] _ eJ rfl rfl) rfl rfl ?_
  refine aA (aXt (aXh _ _ _ _) rfl rfl) rfl rfl ?_
  refine aM 57 (.bool true) (bT (by decide)).symm ?_
  refine aA (bN true (.bool true) rfl rfl) rfl rfl ?_
  refine aA (aD (.bool true) rfl) rfl rfl ?_
  refine aA (aD (.int _ _) rfl) rfl rfl ?_
  refine aA (aP (.bool (decide _)) rfl rfl rfl) rfl rfl ?_
  refine aM 61 (.bool true) (bT (by first | decide | omega)).symm ?_
  refine aA (bN true (.bool true) rfl rfl) rfl rfl ?_
  refine aA (aD (.bool true) rfl) rfl rfl ?_
  refine aA (aD (.int _ _) rfl) rfl rfl ?_
  refine aA (aP (.bool (decide _)) rfl rfl rfl) rfl rfl ?_
  refine aM 65 (.bool true) (bT (by first | decide | omega)).symm ?_
  refine aA (bN true (.bool true) rfl rfl) rfl rfl ?_
  refine aA (aD (.bool true) rfl) rfl rfl ?_
  refine aA (aD (.int _ _) rfl) rfl rfl ?_
  refine aA (aP (.bool (decide _)) rfl rfl rfl) rfl rfl ?_
  refine aM 69 (.bool true) (bT (by first | decide | omega)).symm ?_
  refine aA (bN true (.bool true) rfl rfl) rfl rfl ?_
  refine aA (aD (.bool true) rfl) rfl rfl ?_
  refine aK aXl rfl rfl rfl ?_
  refine (oR _ _ r6 _ hr6 (M15.ownSeg 0 3)).mono ?_
  rintro _ w16 ⟨v16, rfl, ⟨pb, rfl, hpb, hM16⟩⟩
  refine ⟨_, rfl, ?_⟩
  have M16 : Mem _ _ [_, _, _, _, _, _, _] _ := M15.seg 0 3 hM16
  have hsn : 88 = pb.n := by have h := hpb.1; rwa [List.length_map, yK] at h
  refine aA (cT Tryz.underlying57 rfl) rfl rfl ?_
  refine aA (aP (.bool (decide _)) rfl rfl rfl) rfl rfl ?_
  refine aM 74 (.bool true) (bT (by omega)).symm ?_
  refine aA (bN true (.bool true) rfl rfl) rfl rfl ?_
  refine aA (aD (.bool true) rfl) rfl rfl ?_
  refine aK wV rfl rfl rfl ?_
  refine (jG _ _ r6 _ hr6 (M16.ownSeg 0 3)).mono ?_
  rintro _ w17 ⟨v17, rfl, ⟨qv, rfl, hqv, hM17⟩⟩
  refine ⟨_, rfl, ?_⟩
  have M17 : Mem _ _ [_, _, _, _, _, _, _, _] _ := M16.seg 0 3 hM17
  have hqv2 : 2 = qv.n := by simpa using hqv.1
  refine aA (cT Tryz.underlying22 rfl) rfl rfl ?_
  refine aA (aP (.bool (decide _)) rfl rfl rfl) rfl rfl ?_
  refine aM 79 (.bool true) (bT (by omega)).symm ?_
  refine aA (bN true (.bool true) rfl rfl) rfl rfl ?_
  refine aA (aD (.bool true) rfl) rfl rfl ?_
  refine aA (aD (.pointer _) rfl) rfl rfl ?_
  refine aA (cN [] _ oJ rfl rfl) rfl rfl ?_
  refine aK aKj rfl rfl rfl ?_
  refine (aCl _ ⟨0, 0, 0, 0, 0, 0, 0, 0, 0, 0⟩).mono ?_
  rintro _ w18 ⟨v18, rfl, ⟨rfl, hb18⟩⟩
  refine ⟨_, rfl, ?_⟩
  have M18 := M17.callB hb18
  refine aA (aP (.bool (decide _)) rfl rfl rfl) rfl rfl ?_
  refine aM 85 (.bool true) (bT (by first | decide | omega)).symm ?_
  refine aA (bN true (.bool true) rfl rfl) rfl rfl ?_
  refine aA (aD (.bool true) rfl) rfl rfl ?_
  refine aA (aD (.pointer _) rfl) rfl rfl ?_
  refine aK wV rfl rfl rfl ?_
  refine (zD _).mono ?_
  rintro _ w19 ⟨v19, rfl, ⟨rfl, hb19⟩⟩
  refine ⟨_, rfl, ?_⟩
  have M19 := M18.callB hb19
  refine aA (cT Tryz.underlying22 rfl) rfl rfl ?_
  refine aA (aP (.bool (decide _)) rfl rfl rfl) rfl rfl ?_
  refine aM 91 (.bool true) (bT rfl).symm ?_
  refine aA (bN true (.bool true) rfl rfl) rfl rfl ?_
  refine aA (aE (.bool true) rfl) rfl rfl ?_
  refine aC (aF (aR ?_))
  refine bY (.bool true) rfl ?_
  exact ⟨rfl, M19.below⟩
end Go.Proofs.YtlmcphcgiclanaaGreatDoor
