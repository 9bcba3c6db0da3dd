/- Part of the proof of the laws of this seat: P10, Q10, U11, V11, W11, Aw11. No conditions. -/
import Derived.Test.YtlmcphcgiclanaaGreatDoorK5
import Derived.Test.YtlmcphcgiclanaaGreatDoorK25
import Derived.Test.YtlmcphcgiclanaaGreatDoorK17
import Derived.Test.YtlmcphcgiclanaaGreatDoorK21
import Derived.Test.YtlmcphcgiclanaaGreatDoorK24
set_option linter.unusedVariables false
set_option linter.unusedSimpArgs false
set_option linter.unnecessarySimpa false
namespace Go.Proofs.YtlmcphcgiclanaaGreatDoor
open Go.Bil
open Go.RowKit (Below)
open Go.Proofs
set_option maxHeartbeats 4000000 in
theorem aKq (w : World) (a b : Int) :
    Calls Tryz.prog 167 #[.int .u32 a, .int .u32 b] w (fun ex w' => ∃ v, ex = .returned v ∧ (fun v w' => v = (.agg (bH (wN a b)).toArray) ∧ Below w.heap.size w w') v w') := by
  refine aK #[.cell 4 119] 12 Tryz.func167 rfl Tryz.results167 Tryz.ntmps167 rfl ?_
  have M0 := Mem.refl w
  refine aH (aB ?_)
  refine aU oF M0 rfl rfl (fun b1 w1 M1 => ?_)
  refine aD (aF (aH (aB ?_)))
  refine aA (aC (.int _ _) rfl) rfl rfl ?_
  refine aA (aC (.int _ _) rfl) rfl rfl ?_
  refine aA (wC rfl rfl ) rfl rfl ?_
  refine aA (aC (.int _ _) rfl) rfl rfl ?_
  refine aA (aC (.int _ _) rfl) rfl rfl ?_
  refine aA (lL rfl rfl ) rfl rfl ?_
  refine aA (cI [(0, .int _ _), (1, .int _ _)] _ yR rfl rfl) rfl rfl ?_
  refine bL 0 _ fI M1 rfl rfl rfl rfl rfl (aW rfl) rfl (fun w2 M2 => ?_)
  refine aD (aF (aS ?_))
  refine kC 0 fI M2 rfl rfl rfl ?_
  exact ⟨rfl, M2.below⟩
set_option maxHeartbeats 4000000 in
theorem aQk (w : World) (A : Option Addr) (x y : Int) (R : Rd w 1 A 2 [[.int .i64 x], [.int .i64 y]]) :
    Calls Tryz.prog 197 #[.slice A 2 2] w (fun ex w' => ∃ v, ex = .returned v ∧ (fun v w' => v = .int .i64 (if x = 0 then y else x) ∧ w' = w) v w') := by
  refine aK #[.tmp 2] 18 Tryz.func197 rfl Tryz.results197 Tryz.ntmps197 rfl ?_
  have M0 := Mem.refl w
  refine aH (aB ?_)
  refine aA (aE (.int _ _) rfl) rfl rfl ?_
  refine aD (aF (aH (aB ?_)))
  refine aA (aE (.int _ _) rfl) rfl rfl ?_
  refine aD (aF (aH (aH (aB ?_))))
  refine aA (aC (.slice _ _ _) rfl) rfl rfl ?_
  refine aA (bV Tryz.underlying302 rfl) rfl rfl ?_
  refine aQ 7 (.int .i64 2) (iE rfl) ?_
  refine aA (aC (.int _ _) rfl) rfl rfl ?_
  refine aD (aF (bC ?_))
  refine nO 3 (nI ?_)
  refine aH (aB ?_)
  refine aA (aO (.bool (decide _)) rfl rfl rfl) rfl rfl ?_
  refine aQ 9 (.bool true) (bT (by first | decide | omega)).symm ?_
  refine aD (aF (aH ?_))
  refine dS rfl ?_
  refine aP (aF (aH (bC (aH (aB ?_)))))
  refine aA (bK (0) aOd rfl rfl rfl (R.below_len ((rfl : ([[.int .i64 x], [.int .i64 y]] : List (List Value))[0]? = some [.int .i64 x]))) (R.someK ((rfl : ([[.int .i64 x], [.int .i64 y]] : List (List Value))[0]? = some [.int .i64 x])))) rfl rfl ?_
  refine aA (kP (.int _ _) mA R ((rfl : ([[.int .i64 x], [.int .i64 y]] : List (List Value))[0]? = some [.int .i64 x])) rfl) rfl rfl ?_
  refine aA (aE (.int _ _) rfl) rfl rfl ?_
  refine aD (aF (aH (aB ?_)))
  refine aA (aC (.int _ _) rfl) rfl rfl ?_
  refine aA (aC (.int _ _) rfl) rfl rfl ?_
  refine aA (aO (.bool (decide _)) rfl rfl rfl) rfl rfl ?_
  refine aD (aF ?_)
  refine aY rfl (fun h14 => ?_) (fun h14 => ?_)
  · refine aH (aB ?_)
    refine aA (aC (.int _ _) rfl) rfl rfl ?_
    refine aA (aE (.int _ _) rfl) rfl rfl ?_
    refine aD (aF (aS ?_))
    refine qG ?_
    refine cN (cN ?_)
    refine qG ?_
    refine cN ?_
    refine cG (.int _ _) rfl ?_
    exact ⟨iE (by split <;> omega), rfl⟩
  · refine aP ?_
    refine dU ?_
    refine aF (aB ?_)
    refine aA (bS rfl rfl (by first | decide | omega) (by first | decide | omega)) rfl rfl ?_
    refine aQ 16 (.int .i64 1) (iE (by first | decide | omega)) ?_
    refine aA (aC (.int _ _) rfl) rfl rfl ?_
    refine aD ?_
    refine aF (nI ?_)
    refine aH (aB ?_)
    refine aA (aO (.bool (decide _)) rfl rfl rfl) rfl rfl ?_
    refine aQ 9 (.bool true) (bT (by first | decide | omega)).symm ?_
    refine aD (aF (aH ?_))
    refine dS rfl ?_
    refine aP (aF (aH (bC (aH (aB ?_)))))
    refine aA (bK (1) aOd rfl rfl rfl (R.below_len ((rfl : ([[.int .i64 x], [.int .i64 y]] : List (List Value))[1]? = some [.int .i64 y]))) (R.someK ((rfl : ([[.int .i64 x], [.int .i64 y]] : List (List Value))[1]? = some [.int .i64 y])))) rfl rfl ?_
    refine aA (kP (.int _ _) mA R ((rfl : ([[.int .i64 x], [.int .i64 y]] : List (List Value))[1]? = some [.int .i64 y])) rfl) rfl rfl ?_
    refine aA (aE (.int _ _) rfl) rfl rfl ?_
    refine aD (aF (aH (aB ?_)))
    refine aA (aC (.int _ _) rfl) rfl rfl ?_
    refine aA (aC (.int _ _) rfl) rfl rfl ?_
    refine aA (aO (.bool (decide _)) rfl rfl rfl) rfl rfl ?_
    refine aD (aF ?_)
    refine aY rfl (fun h14 => ?_) (fun h14 => ?_)
    · refine aH (aB ?_)
      refine aA (aC (.int _ _) rfl) rfl rfl ?_
      refine aA (aE (.int _ _) rfl) rfl rfl ?_
      refine aD (aF (aS ?_))
      refine qG ?_
      refine cN (cN ?_)
      refine qG ?_
      refine cN ?_
      refine cG (.int _ _) rfl ?_
      exact ⟨iE (by split <;> omega), rfl⟩
    · refine aP ?_
      refine dU ?_
      refine aF (aB ?_)
      refine aA (bS rfl rfl (by first | decide | omega) (by first | decide | omega)) rfl rfl ?_
      refine aQ 16 (.int .i64 2) (iE (by first | decide | omega)) ?_
      refine aA (aC (.int _ _) rfl) rfl rfl ?_
      refine aD ?_
      refine aF (nI ?_)
      refine aH (aB ?_)
      refine aA (aO (.bool (decide _)) rfl rfl rfl) rfl rfl ?_
      refine aQ 9 (.bool false) (bF (by first | decide | omega)).symm ?_
      refine aD (aF (aH ?_))
      refine cJ rfl ?_
      refine cR ?_
      refine dK (dK ?_)
      refine fC ?_
      refine aF (aH (aB ?_))
      refine aA (aC (.int _ _) rfl) rfl rfl ?_
      refine aA (aE (.int _ _) rfl) rfl rfl ?_
      refine aD (aF (aS ?_))
      refine cG (.int _ _) rfl ?_
      exact ⟨iE (by split <;> omega), rfl⟩
set_option maxHeartbeats 4000000 in
theorem zT (a b : Int × Int) (w : World) :
    Calls Tryz.prog 170 #[(.agg (bH a).toArray), (.agg (bH b).toArray)] w (fun ex w' => ∃ v, ex = .returned v ∧ (fun v w' => v = .int .i64 (aKy a b) ∧ ∃ q os, w' = Go.Sort.grow (w.drewN q) os) v w') := by
  refine aK #[.tmp 4] 17 Tryz.func170 rfl Tryz.results170 Tryz.ntmps170 rfl ?_
  have M0 := Mem.refl w
  refine aH (aB ?_)
  refine aGx (.agg (List.toArray _)) M0 rfl rfl rfl (fun M1 => ?_)
  refine aGx (.agg (List.toArray _)) M1 rfl rfl rfl (fun M2 => ?_)
  refine aA (aE (.int _ _) rfl) rfl rfl ?_
  refine aD (aF (aH ?_))
  refine aRf [(0, 0), (1, 1), (2, 0), (3, 1), (5, 0), (6, 1), (7, 0), (8, 1), (4, 2), (9, 2), (10, 2), (11, 2), (12, 0)] mixed rfl (by kernel_rfl) ?_
  have M3 := M2.drewE
  refine aR rfl rfl rfl (fun _ => aI 0 lR rfl) ?_
  refine cD rfl rfl rfl (aV 0 (.int _ _) dD M3 rfl rfl rfl) ?_
  refine aR rfl rfl rfl (fun _ => aI 0 lR rfl) ?_
  refine cD rfl rfl rfl (aV 1 (.int _ _) dD M3 rfl rfl rfl) ?_
  refine aR rfl rfl rfl (fun _ => aI 1 lQ rfl) ?_
  refine cD rfl rfl rfl (aV 0 (.int _ _) dD M3 rfl rfl rfl) ?_
  refine aR rfl rfl rfl (fun _ => aI 1 lQ rfl) ?_
  refine cD rfl rfl rfl (aV 1 (.int _ _) dD M3 rfl rfl rfl) ?_
  refine dM [false, false, true, true] rfl (by kernel_rfl) ?_
  refine aL aNs rfl rfl rfl ?_
  refine (lJ _ _ _).mono ?_
  rintro _ w4 ⟨v4, rfl, ⟨rfl, rfl⟩⟩
  refine ⟨_, rfl, ?_⟩
  have M4 : Mem _ _ [_, _] _ := M3
  refine aD (aF ⟨(iQ (cU rfl (aV 1 (.int _ _) dD M4 rfl rfl rfl)) (iQ (cU rfl (aV 0 (.int _ _) dD M4 rfl rfl rfl)) cX)), ?_⟩)
  refine dM [true, true] rfl (by kernel_rfl) ?_
  refine aL aNs rfl rfl rfl ?_
  refine (lJ _ _ _).mono ?_
  rintro _ w5 ⟨v5, rfl, ⟨rfl, rfl⟩⟩
  refine ⟨_, rfl, ?_⟩
  have M5 : Mem _ _ [_, _] _ := M4
  refine aD (aF ⟨cX, ?_⟩)
  refine dM [] rfl (by kernel_rfl) ?_
  refine aGk [.int _ _, .int _ _] [[.int .i64 (mX a.1 b.1)], [.int .i64 (mX a.2 b.2)]] rfl aOd M5 rfl rfl rfl rfl (cO rfl) (by decide) (fun M6 => ?_)
  refine aD (aF ⟨cX, ?_⟩)
  refine dM [] rfl (by kernel_rfl) ?_
  refine aL aVz rfl rfl rfl ?_
  refine (aQk _ _ _ _ ((iK (T := 3) [[.int .i64 (mX a.1 b.1)], [.int .i64 (mX a.2 b.2)]] (by simp) rfl (show 2 ≤ 281474976710656 by decide)).rd M6 (aM (i := 2) rfl))).mono ?_
  rintro _ w7 ⟨v7, rfl, ⟨rfl, rfl⟩⟩
  refine ⟨_, rfl, ?_⟩
  have M7 : Mem _ _ [_, _, _] _ := M6
  refine aD (aF ⟨cX, ?_⟩)
  refine aR rfl rfl rfl (fun _ => aE (.int _ _) rfl) ?_
  refine cB ?_
  refine aF (aS ?_)
  refine cG (.int _ _) rfl ?_
  exact ⟨iE rfl, aYs _ _ _ _⟩
theorem aQf : aTp Tryz.prog 170 bH aKy := fun x y w => zT x y w
theorem aOu : KeyT Tryz.prog 230 119 231 bH := by
  refine ⟨Tryz.underlying230, ⟨_, Tryz.underlying119⟩, fun a w => ?_, fun a b w => ?_, fun a => by simp [bH, Instr.sameBits]⟩
  · have h42 := bG (w := w) Tryz.underlying119
    have hc : ∀ x : Int, (Instr.checkKey false 9999 36 (.int .u32 x)).run Tryz.prog w = .ok () w := fun x => MapKept.run_checkKey (d := .int .u32) Tryz.underlying36 (by simp [MapKept.IsKey]) false 9998
    have p0 : (Go.part 36 #[.int .u32 a.1, .int .u32 a.2] 0).run Tryz.prog w = .ok (.int .u32 a.1) w := fQ (l := [.int .u32 a.1, .int .u32 a.2]) dD rfl
    have p1 : (Go.part 36 #[.int .u32 a.1, .int .u32 a.2] 1).run Tryz.prog w = .ok (.int .u32 a.2) w := fQ (l := [.int .u32 a.1, .int .u32 a.2]) dD rfl
    show (Instr.checkKey false (9999 + 1) 119 _).run _ w = _
    unfold Instr.checkKey
    simp only [Sem.run_bind, h42, Result.andThen_ok, bH]
    simp [p0, p1, hc, Sem.run_bind, Sem.run_pure]
  · have h := (aXb a.1 a.2 b.1 b.2).2 w
    have e : decide (a.1 = b.1 ∧ a.2 = b.2) = decide (a = b) := decide_eq_decide.2 Prod.ext_iff.symm
    rw [e] at h
    exact h
theorem uR (w : World) (A : Option Addr) (n c : Nat) (xs : List (Int × Int)) (e : dW) (hR : aX 119 2 A n c (xs.map bH) e) (hw : Own [e] w) (hn : n ≤ 1099511627776) :
    Calls Tryz.prog 195 #[.slice A n c, .func (.func 170) #[] #[]] w (fun ex w' => ∃ v, ex = .returned v ∧ v = .tuple #[] ∧ ∃ (ys : List (Int × Int)) (e' : dW), ys.Perm xs ∧ (ys.Pairwise fun a b => ¬ ltP b a) ∧ aX 119 2 A n c (ys.map bH) e' ∧ Mem w (bZ [e]) [e'] w') := by
  have h := wZ aJw (T := 119) fI bH xD (fun x v hv => by simp only [bH, List.mem_cons, List.not_mem_nil, or_false] at hv; rcases hv with h | h <;> subst h <;> rfl) _ aOb 170 aUq aQf w A xs e hR hw (by omega)
  refine Calls.mono h ?_
  rintro ex w' ⟨v, h1, h2, ys, e', h3, h4, h5, h6⟩
  refine ⟨v, h1, h2, ys, e', h3, ?_, h5, h6⟩
  refine List.pairwise_iff_getElem.2 fun i j hi hj hij => ?_
  have := h4 i j _ _ hij (List.getElem?_eq_getElem hi) (List.getElem?_eq_getElem hj)
  have h := of_decide_eq_false this
  rwa [aCh] at h
set_option maxHeartbeats 4000000 in
theorem aFd (w : World) (mb : Nat) :
    Calls Tryz.prog 169 #[.map (some mb)] w (fun ex w' => ∃ v, ex = .returned v ∧ (fun v w' => ∃ bb, v = .func (.func 196) #[] #[.pointer (some ⟨bb, 0, none⟩)] ∧ Mem w [] [(some bb, bc [.map (some mb)] 230)] w') v w') := by
  refine aK #[.tmp 2] 4 Tryz.func169 rfl Tryz.results169 Tryz.ntmps169 rfl ?_
  have M0 := Mem.refl w
  refine aH (aB ?_)
  refine bM (.map _) M0 rfl rfl rfl (fun b1 w1 M1 => ?_)
  refine aA (aE (_) rfl) rfl rfl ?_
  refine aD (aF (aH (aB ?_)))
  refine aA (dL [] [.pointer _] rfl rfl) rfl rfl ?_
  refine aA (aE (.func _ _ _) rfl) rfl rfl ?_
  refine aD (aF (aS ?_))
  refine cG (.func _ _ _) rfl ?_
  exact ⟨b1, rfl, M1⟩
set_option maxHeartbeats 4000000 in
theorem aCs (w : World) (bb : Nat) (mb clock : Nat) (L : List ((Int × Int) × Nat)) (hmb : w.heap[mb]? = some (gC bH L clock)) (hml : mb < w.heap.size) (hS : SetOk L clock) (hLN : L.length < 1099511627776) (B1 : Rd w 1 (some ⟨bb, 0, none⟩) 1 [[.map (some mb)]]) (lp ob : Nat) (rec : Loop) (hY : pX Tryz.prog lp ob rec 159 119 2 1099511627776 (fun x => ∃ a b, x = [.int .u32 a, .int .u32 b])) (r0 : Row) (hr0 : aX 119 2 r0.A r0.n r0.c [] r0.e) (hO : Own [(some lp, .loop rec), (some ob, bc [.slice r0.A r0.n r0.c] 159), r0.e] w) (hd1 : 0 < 1 → ∀ q off, (some ⟨bb, 0, none⟩ : Option Addr) = some ⟨q, off, none⟩ → q ∉ bZ [(some lp, .loop rec), (some ob, bc [.slice r0.A r0.n r0.c] 159), r0.e]) (hmX : mb ∉ bZ [(some lp, .loop rec), (some ob, bc [.slice r0.A r0.n r0.c] 159), r0.e]) :
    Calls Tryz.prog 196 #[.func (.yield lp) #[] #[], .pointer (some ⟨bb, 0, none⟩)] w (fun ex w' => ∃ v, ex = .returned v ∧ (fun v w' => v = .tuple #[] ∧ ∃ (r : Row) (T : List ((Int × Int) × Nat)), T.Perm L ∧ aX 119 2 r.A r.n r.c ((T.map (fun z => z.1)).map bH) r.e ∧ Mem w (bZ [(some lp, .loop rec), (some ob, bc [.slice r0.A r0.n r0.c] 159), r0.e]) [(some lp, .loop rec), (some ob, bc [.slice r.A r.n r.c] 159), r.e] w') v w') := by
  rw [← gB bb]
  refine aK #[] 14 Tryz.func196 rfl Tryz.results196 Tryz.ntmps196 rfl ?_
  have M0 := hO.mem
  refine aH (aB ?_)
  refine aA (fB (o := 0) (.map _) aWj (B1.memY M0 hd1) (show ([[.map (some mb)]] : List (List Value))[0]? = some ([.map (some mb)]) from rfl) rfl rfl) rfl rfl ?_
  refine aQd (α := Int × Int) Tryz.underlying230 M0 rfl rfl rfl ((M0.old mb hml hmX).trans hmb) (fun b1 w1 M1 => ?_)
  refine aD (aF (bC ?_))
  refine dT (σ := List ((Int × Int) × Nat) × Row) [0, 5] (fun (T, r) => []) (fun (T, r) w' => ((∀ p ∈ T, p ∈ L) ∧ (T.map (·.2)).Nodup ∧ aX 119 2 r.A r.n r.c ((T.map (fun z => z.1)).map bH) r.e) ∧ Mem w (bZ [(some lp, .loop rec), (some ob, bc [.slice r0.A r0.n r0.c] 159), r0.e]) [(some lp, .loop rec), (some ob, bc [.slice r.A r.n r.c] 159), r.e, (some b1, pK mb clock T)] w') (fun (T, r) => L.length - T.length) ([], r0) fH (⟨⟨(fun p hp => nomatch hp), by simp, hr0⟩, M1⟩) ?_
  rintro ⟨T, r⟩ ρ2 w2 ⟨⟨hTs, hTn, hr⟩, hM2⟩
  have hrl : T.length = r.n := by simpa using hr.1
  have hTl := aEj hTn hTs
  refine aH (aB ?_)
  refine aQj (enc := bH) 3 hM2 rfl rfl rfl rfl ((hM2.old mb hml hmX).trans hmb) hS.lt (fun hover => ?_) (fun p3 w3 hp3 hnp3 M3 => ?_)
  · refine aA (bB (.bool false) rfl rfl) rfl rfl ?_
    refine aD (aF (aH ?_))
    refine cJ rfl ?_
    refine cR ?_
    refine dK ?_
    refine dH ?_
    refine fC ?_
    refine iC ?_
    exact ⟨rfl, r, T, aPu hS.nd hTn hTs hover, hr, hM2.keep [true, true, true, false]⟩
  · refine aA (bB (.bool true) rfl rfl) rfl rfl ?_
    refine aD (aF (aH ?_))
    refine dS rfl ?_
    refine aP (aF (bC (aH (aB ?_))))
    refine aA (aSs (enc := bH) 3 (p3) M3 rfl rfl ((M3.old mb hml hmX).trans hmb) hp3 hS.nd) rfl rfl ?_
    refine aA (bB (.agg (List.toArray _)) rfl rfl) rfl rfl ?_
    refine aU oF M3 rfl rfl (fun b4 w4 M4 => ?_)
    refine bL 4 _ fI M4 rfl rfl rfl rfl rfl (aW rfl) rfl (fun w5 M5 => ?_)
    refine aD (aF (aH ?_))
    refine xS ?_
    refine xM (aC (.func _ _ _) rfl) rfl rfl ?_
    refine xM (bE 4 fI M5 rfl rfl rfl) rfl rfl ?_
    obtain ⟨fy, ty, ay, by1, hy1, hy2⟩ := hY _ r ((T.map (fun z => z.1)).map bH) (bH p3.1) ⟨_, _, rfl⟩ (by omega) hr (M5.ownSeg 0 3)
    refine yZ rfl rfl rfl rfl hy1 (hy2.mono ?_)
    rintro _ w6 ⟨rfl, q6, hqn6, hq6, hM6⟩
    have M6 : Mem _ _ [_, _, _, _, _] _ := M5.seg 0 3 hM6
    refine ⟨_, rfl, ?_⟩
    refine aOl rfl (fun _ _ h => h) ?_
    refine aA (kO false rfl rfl) rfl rfl ?_
    refine aD (aF ?_)
    refine cJ rfl ?_
    refine aP ?_
    refine dU ?_
    have hTs2 : ∀ p ∈ T ++ [p3], p ∈ L := fun p hp => (List.mem_append.1 hp).elim (hTs p) (fun h => by rw [List.mem_singleton] at h; rw [h]; exact hp3)
    have hTn2 := aJs hTn hnp3
    have hTl2 := aEj hTn2 hTs2
    rw [List.length_append, List.length_singleton] at hTl2
    refine cK (T ++ [p3], q6) fH (cQ rfl (cQ rfl jF)) ?_ ?_
    · exact ⟨⟨hTs2, hTn2, by rw [List.map_append, List.map_append]; exact hq6⟩, M6.keep [true, true, true, true, false]⟩
    · (show L.length - (T ++ [p3]).length < L.length - T.length; rw [List.length_append, List.length_singleton]; omega)
set_option maxHeartbeats 4000000 in
theorem qP (w : World) (bb : Nat) (mb clock : Nat) (L : List ((Int × Int) × Nat)) (hmb : w.heap[mb]? = some (gC bH L clock)) (hml : mb < w.heap.size) (hS : SetOk L clock) (hLN : L.length < 1099511627776) (B1 : Rd w 1 (some ⟨bb, 0, none⟩) 1 [[.map (some mb)]]) :
    Calls Tryz.prog 218 #[.slice none 0 0, .func (.func 196) #[] #[.pointer (some ⟨bb, 0, none⟩)]] w (fun ex w' => ∃ v, ex = .returned v ∧ (fun v w' => ∃ (r : Row) (T : List ((Int × Int) × Nat)), T.Perm L ∧ v = .slice r.A r.n r.c ∧ aX 119 2 r.A r.n r.c ((T.map (fun z => z.1)).map bH) r.e ∧ Mem w [] [r.e] w') v w') := by
  refine sA #[.tmp 4] 13 Tryz.func218 rfl Tryz.results218 Tryz.ntmps218 rfl ?_
  have M0 := Mem.refl w
  refine mO ?_
  refine kJ ?_
  refine bM (.slice _ _ _) M0 rfl rfl rfl (fun b1 w1 M1 => ?_)
  refine aA (aE (.slice _ _ _) rfl) rfl rfl ?_
  refine aD ?_
  refine mP ?_
  refine mO ?_
  refine mO ?_
  refine kJ ?_
  refine aA (aC (.func _ _ _) rfl) rfl rfl ?_
  refine aD ?_
  refine mP ?_
  refine aCo ?_
  have M2 : Mem _ _ [_, _] _ := M1.dummy default
  refine aCw aWs M2 rfl (fun fnn B lp tmps w1 hρ hn M1 => ?_)
  refine vE (P := Tryz.prog) (ob := b1) (Tsl := 159) (Te := 119) (sz := 2) (N := 1099511627776) (ok := (fun x => ∃ a b, x = [.int .u32 a, .int .u32 b])) M1 ?_ (fun hY => ?_)
  · intro wr r ls x hok hlt hrow hO
    obtain ⟨xa, xb, rfl⟩ := hok
    refine ⟨_, _, _, _, aBj hO rfl rfl rfl hn (by decide) hρ ?_⟩
    have MR0 := hO.mem
    refine oJ rfl (fun _ _ h => nomatch h.1) ?_
    refine aU oF MR0 rfl rfl (fun b3 w3 M3 => ?_)
    refine bL 3 _ fI M3 rfl rfl rfl rfl rfl (aW rfl) rfl (fun w4 M4 => ?_)
    refine aD ?_
    refine ⟨rfl, _, M4, rfl, fun w5 M5 => ?_⟩
    refine aEb ?_
    refine oJ rfl (fun _ _ h => nomatch h.1) ?_
    refine aA (aV 1 (.slice _ _ _) aEo M5 rfl rfl rfl) rfl rfl ?_
    refine aA (bE 3 fI M5 rfl rfl rfl) rfl rfl ?_
    refine cF [.agg (List.toArray _)] [[.int .u32 xa, .int .u32 xb]] rfl pM M5 rfl rfl rfl rfl (cO rfl) (by decide) (fun b6 w6 M6 => ?_)
    refine dV 2 [[.int .u32 xa, .int .u32 xb]] pM M6 rfl rfl rfl rfl rfl hrow rfl (by simp [Go.Bil.one]) (cV.ofMem 4 M6 rfl) (by omega) (fun A7 c7 e7 w7 M7 hR7 => ?_)
    refine eL 1 (.slice _ _ _) aEo M7 rfl rfl rfl rfl rfl rfl (fun w8 M8 => ?_)
    refine aD ?_
    refine dU ?_
    refine ⟨rfl, _, M8, rfl, fun w9 M9 => ?_⟩
    exact ⟨⟨A7, r.n + 1, c7, e7⟩, rfl, hR7, M9.keep [true, true, true, false, false]⟩
  · refine (aCs _ bb mb clock L ((M1.old mb hml List.not_mem_nil).trans hmb) (Nat.lt_of_lt_of_le hml M1.size) hS hLN (B1.mem M1) lp b1 _ hY ⟨none, 0, 0, (none, default)⟩ (aX.nil _ _ _) (M1.ownSeg 0 3) (M1.away 0 3 B1 (fun _ q off _ h => by simp at h)) (M1.notNew 3 hml)).mono ?_
    rintro _ w5 ⟨v5, rfl, rfl, r, T, hT, hr, hM⟩
    have M5 : Mem _ _ (_ :: [_, _, _]) _ := M1.seg 0 3 hM
    refine ⟨_, rfl, _, M5, fun w6 M6 => ?_⟩
    refine aTu ?_
    refine mP ?_
    refine mO ?_
    refine yB ?_
    refine aHy (aV 1 (.slice _ _ _) aEo M6 rfl rfl rfl) rfl rfl ?_
    refine aHy (aE (.slice _ _ _) rfl) rfl rfl ?_
    refine aHz ?_
    refine mP ?_
    refine aMc ?_
    refine aUd (i := 3) (.slice _ _ _) rfl M6 rfl (fun w9 M9 => ?_)
    exact ⟨r, T, hT, rfl, hr, M9.keep [false, false, true, false]⟩
set_option maxHeartbeats 4000000 in
theorem sW (w : World) (bb : Nat) (mb clock : Nat) (L : List ((Int × Int) × Nat)) (hmb : w.heap[mb]? = some (gC bH L clock)) (hml : mb < w.heap.size) (hS : SetOk L clock) (hLN : L.length < 1099511627776) (B1 : Rd w 1 (some ⟨bb, 0, none⟩) 1 [[.map (some mb)]]) :
    Calls Tryz.prog 194 #[.func (.func 196) #[] #[.pointer (some ⟨bb, 0, none⟩)]] w (fun ex w' => ∃ v, ex = .returned v ∧ (fun v w' => ∃ (r : Row) (T : List ((Int × Int) × Nat)), T.Perm L ∧ v = .slice r.A r.n r.c ∧ aX 119 2 r.A r.n r.c ((T.map (fun z => z.1)).map bH) r.e ∧ Mem w [] [r.e] w') v w') := by
  refine aK #[.tmp 2] 5 Tryz.func194 rfl Tryz.results194 Tryz.ntmps194 rfl ?_
  have M0 := Mem.refl w
  refine aH (aB ?_)
  refine aA (aE (.slice _ _ _) rfl) rfl rfl ?_
  refine aD (aF (aH (aB ?_)))
  refine aA (aC (.func _ _ _) rfl) rfl rfl ?_
  refine aL aVv rfl rfl rfl ?_
  refine (qP _ bb mb clock L ((M0.old mb hml List.not_mem_nil).trans hmb) (Nat.lt_of_lt_of_le hml M0.size) hS hLN (B1.mem M0)).mono ?_
  rintro _ w1 ⟨v1, rfl, ⟨r, T, hT, rfl, hr, hM1⟩⟩
  refine ⟨_, rfl, ?_⟩
  have M1 : Mem _ _ [_] _ := M0.call0 hM1
  refine aA (aE (.slice _ _ _) rfl) rfl rfl ?_
  refine aD (aF (aS ?_))
  refine cG (.slice _ _ _) rfl ?_
  exact ⟨r, T, hT, rfl, hr, M1⟩
set_option maxHeartbeats 4000000 in
theorem pE (w : World) (bb : Nat) (mb clock : Nat) (L : List ((Int × Int) × Nat)) (hmb : w.heap[mb]? = some (gC bH L clock)) (hml : mb < w.heap.size) (hS : SetOk L clock) (hLN : L.length < 1099511627776) (B1 : Rd w 1 (some ⟨bb, 0, none⟩) 1 [[.map (some mb)]]) :
    Calls Tryz.prog 168 #[.func (.func 196) #[] #[.pointer (some ⟨bb, 0, none⟩)], .func (.func 170) #[] #[]] w (fun ex w' => ∃ v, ex = .returned v ∧ (fun v w' => ∃ (r : Row) (ys : List (Int × Int)), Asc ys ∧ (∀ z, z ∈ ys ↔ z ∈ L.map (·.1)) ∧ v = .slice r.A r.n r.c ∧ aX 119 2 r.A r.n r.c ((ys).map bH) r.e ∧ Mem w [] [r.e] w') v w') := by
  refine aK #[.tmp 4] 12 Tryz.func168 rfl Tryz.results168 Tryz.ntmps168 rfl ?_
  have M0 := Mem.refl w
  refine aH (aB ?_)
  refine aA (aE (.slice _ _ _) rfl) rfl rfl ?_
  refine aD (aF (aH (aB ?_)))
  refine aA (aC (.func _ _ _) rfl) rfl rfl ?_
  refine aL aUg rfl rfl rfl ?_
  refine (sW _ bb mb clock L ((M0.old mb hml List.not_mem_nil).trans hmb) (Nat.lt_of_lt_of_le hml M0.size) hS hLN (B1.mem M0)).mono ?_
  rintro _ w1 ⟨v1, rfl, ⟨r, T, hT, rfl, hr, hM1⟩⟩
  refine ⟨_, rfl, ?_⟩
  have M1 : Mem _ _ [_] _ := M0.call0 hM1
  have hrl : T.length = r.n := by simpa using hr.1
  have hTL := hT.length_eq
  refine aA (aE (.slice _ _ _) rfl) rfl rfl ?_
  refine aD (aF (aH (aB ?_)))
  refine aA (aC (.slice _ _ _) rfl) rfl rfl ?_
  refine aA (aC (.func _ _ _) rfl) rfl rfl ?_
  refine aL aVd rfl rfl rfl ?_
  refine (uR _ _ _ _ (T.map (fun z => z.1)) _ hr (M1.ownAt (i := 0) rfl) (by omega)).mono ?_
  rintro _ w2 ⟨v2, rfl, ⟨rfl, ys, e2, hpp, huu, hR2, hM2⟩⟩
  refine ⟨_, rfl, ?_⟩
  have M2 : Mem _ _ [_] _ := M1.seg 0 1 hM2
  refine aD (aF (aH (aB ?_)))
  refine aA (aC (.slice _ _ _) rfl) rfl rfl ?_
  refine aA (aE (.slice _ _ _) rfl) rfl rfl ?_
  refine aD (aF (aS ?_))
  refine cG (.slice _ _ _) rfl ?_
  have hpl : ys.Perm (L.map (·.1)) := hpp.trans (hT.map _)
  exact ⟨⟨r.A, r.n, r.c, e2⟩, ys, aXe (hpl.nodup_iff.2 hS.keys) huu, fun z => hpl.mem_iff, rfl, hR2, M2⟩
end Go.Proofs.YtlmcphcgiclanaaGreatDoor

namespace Go.Proofs.YtlmcphcgiclanaaGreatDoor
open Go.Bil
open Go.RowKit (Below)
open Go.Proofs
set_option maxHeartbeats 16000000 in
theorem sV (w : World) (b : Nat) (rs : List Row) (cnt : Int) (g : Nat → List Int) (hlen : rs.length = 1024) (G : Rd w 1025 (some ⟨b, 0, none⟩) 1 [cY rs cnt]) (hrow : ∀ (j : Nat) (r : Row), rs[j]? = some r → Rd w 1 r.A r.n ((g j).map gS) ∧ r.n ≤ r.c) (ks : List Int) (hks : ∀ j, j < 1024 → ∀ x ∈ g j, x ∈ ks) (hkl : ks.length ≤ 65536) :
    Calls Tryz.prog 136 #[.pointer (some ⟨b, 0, none⟩)] w (fun ex w' => ∃ v, ex = .returned v ∧ (fun v w' => ∃ (r : Row) (ps : List (Int × Int)), Asc ps ∧ (∀ z, z ∈ ps ↔ z ∈ lX g 1024) ∧ v = .slice r.A r.n r.c ∧ aX 119 2 r.A r.n r.c ((ps).map bH) r.e ∧ Mem w [] [r.e] w') v w') := by
  rw [← gB b]
  refine aK #[.tmp 2] 49 Tryz.func136 rfl Tryz.results136 Tryz.ntmps136 rfl ?_
  have M0 := Mem.refl w
  refine aH (aB ?_)
  refine aA (aE (.slice _ _ _) rfl) rfl rfl ?_
  refine aD (aF (aH (aH (aB ?_))))
  refine aA (aC (qT _ _) rfl) rfl rfl ?_
  refine aA (aDu Tryz.underlying222 (G.mem M0) (show ([cY rs cnt] : List (List Value))[0]? = some (cY rs cnt) from rfl) rfl) rfl rfl ?_
  refine aD (aF ?_)
  refine cJ rfl ?_
  refine aP (aF (aH (aB ?_)))
  refine mS M0 rfl rfl (fun b1 w1 M1 => ?_)
  refine aA (aE (.map _) rfl) rfl rfl ?_
  refine aD (aF (aH (aH (aB ?_))))
  refine aA (aC (qT _ _) rfl) rfl rfl ?_
  refine aA (aEe (G.mem M1) (Nat.lt_of_le_of_lt (Nat.zero_le _) ((G.mem M1).below_len (show ([cY rs cnt] : List (List Value))[0]? = some (cY rs cnt) from rfl))) rfl) rfl rfl ?_
  refine aA (bR 0 uO (G.mem M1) (Nat.lt_of_le_of_lt (Nat.zero_le _) ((G.mem M1).below_len (show ([cY rs cnt] : List (List Value))[0]? = some (cY rs cnt) from rfl))) rfl) rfl rfl ?_
  refine aA (pB (o := 0) (rs.map (fun r => Value.slice r.A r.n r.c)) aWp (G.mem M1) (show ([cY rs cnt] : List (List Value))[0]? = some (cY rs cnt) from rfl) rfl (aBn hlen) (by simp [hlen])) rfl rfl ?_
  refine aA (aC (.int _ _) rfl) rfl rfl ?_
  refine aD (aF (bC ?_))
  refine dT (σ := Nat × Nat × List ((Int × Int) × Nat)) [2, 3, 16] (fun (i, c0, L0) => [(17, .int .i64 (i : Int))]) (fun (i, c0, L0) w' => i ≤ 1024 ∧ (SetOk L0 c0 ∧ ∀ z, z ∈ L0.map (fun z => z.1) ↔ z ∈ lX g i) ∧ Mem w [] [(some b1, gC bH L0 c0)] w') (fun (i, c0, L0) => 1024 - i) (0, 0, []) (bX rfl fH) (⟨by omega, ⟨SetOk.nil, fun z => by simp [lX]⟩, M1⟩) ?_
  rintro ⟨i, c0, L0⟩ ρ2 w2 ⟨hi, ⟨hS0, hI0⟩, hM2⟩
  refine aH (aB ?_)
  refine aA (aO (.bool (decide _)) rfl rfl rfl) rfl rfl ?_
  refine aD (aF (aH ?_))
  refine aY rfl (fun h18 => ?_) (fun h18 => ?_)
  · obtain ⟨rj, hrj⟩ := cS (xs := rs) (k := i) hlen (by omega)
    obtain ⟨Rj, hcj⟩ := hrow i rj hrj
    have hlj : (g i).length = rj.n := by simpa using Rj.len
    have hbj := Rj.bound
    refine aP (aF (aH (bC (aH (aB ?_)))))
    refine aA (wM (i) (.slice rj.A rj.n rj.c) aEs zS rfl rfl (by omega) (by omega) rfl (by rw [lO]; exact aJ _ hrj)) rfl rfl ?_
    refine aA (aE (.slice _ _ _) rfl) rfl rfl ?_
    refine aD (aF (aH (aB ?_)))
    refine aA (aC (.slice _ _ _) rfl) rfl rfl ?_
    refine aA (bV Tryz.underlying188 rfl) rfl rfl ?_
    refine aA (aC (.int _ _) rfl) rfl rfl ?_
    refine aD (aF (bC ?_))
    refine dT (σ := Nat × Nat × List ((Int × Int) × Nat)) [2, 3, 5, 16, 17, 20, 21] (fun (p, c2, L2) => [(22, .int .i64 (p : Int))]) (fun (p, c2, L2) w' => p ≤ rj.n ∧ (SetOk L2 c2 ∧ ∀ z, z ∈ L2.map (fun z => z.1) ↔ z ∈ lX g i ++ sS (g i) p) ∧ Mem w [] [(some b1, gC bH L2 c2)] w') (fun (p, c2, L2) => rj.n - p) (0, c0, L0) (bX rfl fH) (⟨by omega, ⟨hS0, fun z => by rw [hI0 z]; simp [sS]⟩, hM2⟩) ?_
    rintro ⟨p, c2, L2⟩ ρ3 w3 ⟨hp, ⟨hS2, hI2⟩, hM3⟩
    refine aH (aB ?_)
    refine aA (aO (.bool (decide _)) rfl rfl rfl) rfl rfl ?_
    refine aD (aF (aH ?_))
    refine aY rfl (fun h23 => ?_) (fun h23 => ?_)
    · obtain ⟨xa, hxa⟩ := cS (xs := g i) (k := p) hlj (by omega)
      refine aP (aF (aH (bC (aH (aB ?_)))))
      refine aA (aC (.int _ _) rfl) rfl rfl ?_
      refine aA (bK (p) aCc rfl rfl rfl ((Rj.mem hM3).below_len (aJ gS hxa)) ((Rj.mem hM3).someK (aJ gS hxa))) rfl rfl ?_
      refine aA (kP (.int _ _) dD (Rj.mem hM3) (aJ gS hxa) rfl) rfl rfl ?_
      refine aA (aE (.int _ _) rfl) rfl rfl ?_
      refine aA (aE (.int _ _) rfl) rfl rfl ?_
      refine aD (aF (aH (aB ?_)))
      refine aA (aC (.slice _ _ _) rfl) rfl rfl ?_
      refine aA (aC (.int _ _) rfl) rfl rfl ?_
      refine aA (fM (0) ((p : Int)) aCc rfl rfl ⟨_, rfl⟩ (by decide) (by omega) (by omega)) rfl rfl ?_
      refine aA (bV Tryz.underlying188 rfl) rfl rfl ?_
      refine aA (aC (.int _ _) rfl) rfl rfl ?_
      refine aD (aF (bC ?_))
      refine dT (σ := Nat × Nat × List ((Int × Int) × Nat)) [2, 3, 5, 7, 16, 17, 20, 21, 22, 29, 30] (fun (q, c4, L4) => [(31, .int .i64 (q : Int))]) (fun (q, c4, L4) w' => q ≤ p ∧ (SetOk L4 c4 ∧ ∀ z, z ∈ L4.map (fun z => z.1) ↔ z ∈ (lX g i ++ sS (g i) p) ++ sX xa ((g i).take q)) ∧ Mem w [] [(some b1, gC bH L4 c4)] w') (fun (q, c4, L4) => p - q) (0, c2, L2) (bX rfl fH) (⟨by omega, ⟨hS2, fun z => by rw [hI2 z]; simp [sX]⟩, hM3⟩) ?_
      rintro ⟨q, c4, L4⟩ ρ4 w4 ⟨hq, ⟨hS4, hI4⟩, hM4⟩
      refine aH (aB ?_)
      refine aA (aO (.bool (decide _)) rfl rfl rfl) rfl rfl ?_
      refine aD (aF (aH ?_))
      refine aY rfl (fun h32 => ?_) (fun h32 => ?_)
      · obtain ⟨xb, hxb⟩ := cS (xs := g i) (k := q) hlj (by omega)
        refine aP (aF (aH (bC (aH (aB ?_)))))
        refine aA (bK (q) aCc rfl rfl rfl (((Rj.mem hM4).sub 0 p (by omega) (by omega) hcj).below_len (uC hxb (by omega))) (((Rj.mem hM4).sub 0 p (by omega) (by omega) hcj).someK (uC hxb (by omega)))) rfl rfl ?_
        refine aA (kP (.int _ _) dD ((Rj.mem hM4).sub 0 p (by omega) (by omega) hcj) (uC hxb (by omega)) rfl) rfl rfl ?_
        refine aA (aE (.int _ _) rfl) rfl rfl ?_
        refine aD (aF (aH (aB ?_)))
        refine aA (aC (.int _ _) rfl) rfl rfl ?_
        refine aA (aC (.int _ _) rfl) rfl rfl ?_
        refine aA (aO (.bool (decide _)) rfl rfl rfl) rfl rfl ?_
        refine aD (aF ?_)
        refine aY rfl (fun h37 => ?_) (fun h37 => ?_)
        · refine aB ?_
          refine aA (aC (.map _) rfl) rfl rfl ?_
          refine aA (aC (.int _ _) rfl) rfl rfl ?_
          refine aA (aC (.int _ _) rfl) rfl rfl ?_
          refine aL aWk rfl rfl rfl ?_
          refine (aKq _ xa xb).mono ?_
          rintro _ w5 ⟨v5, rfl, ⟨rfl, hb5⟩⟩
          refine ⟨_, rfl, ?_⟩
          have M5 := hM4.callB hb5
          refine aA (cI [] _ aJa rfl rfl) rfl rfl ?_
          refine aJy (enc := bH) 0 (wN xa xb) aOu M5 rfl rfl hS4 rfl rfl rfl (fun L6 c6 w6 hS6 hZ6 hN6 M6 => ?_)
          refine aD ?_
          refine dU ?_
          refine aF (aB ?_)
          refine aA (bS rfl rfl (by omega) (by omega)) rfl rfl ?_
          refine aA (aC (.int _ _) rfl) rfl rfl ?_
          refine aD ?_
          refine cK (q + 1, c6, L6) (bX rfl fH) (cQ rfl (cQ rfl (cQ rfl (cQ rfl (cQ rfl (cQ rfl (cQ rfl (cQ rfl (cQ rfl (cQ rfl (cQ rfl jF))))))))))) ?_ ?_
          · exact ⟨by omega, ⟨hS6, aKd hZ6 hI4 hxb h37⟩, M6⟩
          · (show p - (q + 1) < p - q; omega)
        · refine aP ?_
          refine dU ?_
          refine aF (aB ?_)
          refine aA (bS rfl rfl (by omega) (by omega)) rfl rfl ?_
          refine aA (aC (.int _ _) rfl) rfl rfl ?_
          refine aD ?_
          refine cK (q + 1, c4, L4) (bX rfl fH) (cQ rfl (cQ rfl (cQ rfl (cQ rfl (cQ rfl (cQ rfl (cQ rfl (cQ rfl (cQ rfl (cQ rfl (cQ rfl jF))))))))))) ?_ ?_
          · exact ⟨by omega, ⟨hS4, aIs hI4 hxb h37⟩, hM4⟩
          · (show p - (q + 1) < p - q; omega)
      · have hqp : q = p := by omega
        refine cR ?_
        refine dK ?_
        refine dH ?_
        refine fC ?_
        refine dU ?_
        refine aF (aB ?_)
        refine aA (bS rfl rfl (by omega) (by omega)) rfl rfl ?_
        refine aA (aC (.int _ _) rfl) rfl rfl ?_
        refine aD ?_
        refine cK (p + 1, c4, L4) (bX rfl fH) (cQ rfl (cQ rfl (cQ rfl (cQ rfl (cQ rfl (cQ rfl (cQ rfl jF))))))) ?_ ?_
        · exact ⟨by omega, ⟨hS4, fun z => by rw [hI4 z, aFu hxa, ← hqp, List.append_assoc]⟩, hM4⟩
        · (show rj.n - (p + 1) < rj.n - p; omega)
    · have hpn : p = rj.n := by omega
      refine cR ?_
      refine dK ?_
      refine dH ?_
      refine fC ?_
      refine dU ?_
      refine aF (aB ?_)
      refine aA (bS rfl rfl (by omega) (by omega)) rfl rfl ?_
      refine aA (aC (.int _ _) rfl) rfl rfl ?_
      refine aD ?_
      refine cK (i + 1, c2, L2) (bX rfl fH) (cQ rfl (cQ rfl (cQ rfl jF))) ?_ ?_
      · exact ⟨by omega, ⟨hS2, fun z => by rw [hI2 z, aFb]; unfold aMx; rw [hlj, ← hpn]⟩, hM3⟩
      · (show 1024 - (i + 1) < 1024 - i; omega)
  · have hi' : i = 1024 := by omega
    rw [hi'] at hI0
    have hLb : (L0.map (fun z => z.1)).length ≤ (wL ks).length := vV hS0.keys (fun z hz => aIu hks ((hI0 z).1 hz))
    rw [List.length_map, aKf] at hLb
    have hkk : ks.length * ks.length ≤ 65536 * 65536 := Nat.mul_le_mul hkl hkl
    refine cR ?_
    refine dK ?_
    refine dH ?_
    refine fC ?_
    refine aF (aH (aB ?_))
    refine aA (aC (.map _) rfl) rfl rfl ?_
    refine aL aVq rfl rfl rfl ?_
    refine (aFd _ b1).mono ?_
    rintro _ w7 ⟨v7, rfl, ⟨bb, rfl, hM7⟩⟩
    refine ⟨_, rfl, ?_⟩
    have M7 : Mem _ _ [_, _] _ := hM2.call0 hM7
    refine aL aXa rfl rfl rfl ?_
    refine (pE _ bb b1 c0 L0 (M7.at_ (i := 0) rfl) (M7.lt List.mem_cons_self) hS0 (by omega) (oN 1 M7 rfl rfl)).mono ?_
    rintro _ w8 ⟨v8, rfl, ⟨r, ys, hasc, hys, rfl, hr, hM8⟩⟩
    refine ⟨_, rfl, ?_⟩
    have M8 : Mem _ _ [_, _, _] _ := M7.call0 hM8
    refine aA (aE (.slice _ _ _) rfl) rfl rfl ?_
    refine aD (aF (aS ?_))
    refine cG (.slice _ _ _) rfl ?_
    exact ⟨r, ys, hasc, fun z => (hys z).trans (hI0 z), rfl, hr, M8.keep [false, false, true]⟩
end Go.Proofs.YtlmcphcgiclanaaGreatDoor

namespace Go.Proofs.YtlmcphcgiclanaaGreatDoor
open Go.Bil
open Go.RowKit (Below)
open Go.Proofs
set_option maxHeartbeats 4000000 in
theorem aBt (w : World) (A : Option Addr) (n c : Nat) (xs : List Body) (R : Rd w 10 A n (xs.map aG)) (hb : ∀ b ∈ xs, Okb b) :
    Calls Tryz.prog 132 #[.slice A n c] w (fun ex w' => ∃ v, ex = .returned v ∧ (fun v w' => ∃ (pm : Nat) (em : dW), v = .map (some pm) ∧ iW .u32 oU (bxM xs) (some pm) em ∧ Mem w [] [em] w') v w') := by
  have hlen : xs.length = n := by simpa using R.len
  have hbd := R.bound
  refine aK #[.tmp 2] 20 Tryz.func132 rfl Tryz.results132 Tryz.ntmps132 rfl ?_
  have M0 := Mem.refl w
  refine aH (aB ?_)
  refine aA (aE (.map _) rfl) rfl rfl ?_
  refine aD (aF (aH (aB ?_)))
  refine mS M0 rfl rfl (fun b1 w1 M1 => ?_)
  refine aA (aE (.map _) rfl) rfl rfl ?_
  refine aD (aF (aH (aH (aB ?_))))
  refine aA (aC (.slice _ _ _) rfl) rfl rfl ?_
  refine aA (bV Tryz.underlying22 rfl) rfl rfl ?_
  refine aA (aC (.int _ _) rfl) rfl rfl ?_
  refine aD (aF (bC ?_))
  refine dT (σ := Nat × dW) [2, 3, 7, 8] (fun (k, em) => [(9, .int .i64 (k : Int))]) (fun (k, em) w' => (k ≤ n ∧ iW .u32 oU (bxM (xs.take k)) (some b1) em) ∧ Mem w [] [em] w') (fun (k, em) => n - k) (0, (some b1, .map #[] 0)) (bX rfl fH) (⟨⟨by omega, (iW.empty _ _ b1).congr (fun q => by rw [List.take_zero]; exact aRb q)⟩, M1⟩) ?_
  rintro ⟨k, em⟩ ρ2 w2 ⟨⟨hk, hme⟩, hM2⟩
  refine aH (aB ?_)
  refine aA (aO (.bool (decide _)) rfl rfl rfl) rfl rfl ?_
  refine aD (aF (aH ?_))
  refine aY rfl (fun h10 => ?_) (fun h10 => ?_)
  · obtain ⟨xb, hxb⟩ := cS (k := k) hlen (by omega)
    refine aP (aF (aH (bC (aH (aB ?_)))))
    refine aA (bK (k) cA rfl rfl rfl ((R.mem hM2).below_len (aJ aG hxb)) ((R.mem hM2).someK (aJ aG hxb))) rfl rfl ?_
    refine aA (cM _ bO (R.mem hM2) (aJ aG hxb) rfl) rfl rfl ?_
    refine aU mI hM2 rfl rfl (fun b3 w3 M3 => ?_)
    refine bL 1 _ bO M3 rfl rfl rfl rfl rfl (aW rfl) rfl (fun w4 M4 => ?_)
    refine aD (aF ?_)
    refine bP [(0, 0), (1, 0), (2, 1), (3, 1), (4, 2), (5, 2)] mixed rfl (by kernel_rfl) (fun w5 hb5 hh5 => ?_)
    have M5 := M4.drew hb5 hh5
    refine aR rfl rfl rfl (fun _ => aC (.map _) rfl) ?_
    refine aR rfl rfl rfl (fun _ => aI 0 eG rfl) ?_
    refine cD rfl rfl rfl (aV 1 (.int _ _) dD M5 rfl rfl rfl) ?_
    refine cD rfl rfl rfl (bE 1 bO M5 rfl rfl rfl) ?_
    refine dM [true, false] rfl (by kernel_rfl) ?_
    refine aL aUl rfl rfl rfl ?_
    refine (aWu _ xb (hb xb (List.mem_of_getElem? hxb))).mono ?_
    rintro _ w6 ⟨v6, rfl, ⟨rfl, hb6⟩⟩
    refine ⟨_, rfl, ?_⟩
    have M6 := M5.callB hb6
    refine aD (aF ⟨(iQ (cU rfl (aV 1 (.int _ _) dD M6 rfl rfl rfl)) cX), ?_⟩)
    refine dM [true] rfl (by kernel_rfl) ?_
    refine mK (enc := oU) 0 aAp M6 rfl rfl hme rfl rfl rfl rfl (fun e7 w7 hm7 M7 => ?_)
    refine aD (aF ⟨cX, ?_⟩)
    refine cB ?_
    refine dU ?_
    refine aF (aB ?_)
    refine aA (bS rfl rfl (by omega) (by omega)) rfl rfl ?_
    refine aA (aC (.int _ _) rfl) rfl rfl ?_
    refine aD ?_
    refine cK (k + 1, e7) (bX rfl fH) (cQ rfl (cQ rfl (cQ rfl (cQ rfl jF)))) ?_ ?_
    · exact ⟨⟨by omega, hm7.congr (fun q => aNe hxb q)⟩, M7.keep [true, false]⟩
    · (show n - (k + 1) < n - k; omega)
  · have hkn : k = n := by omega
    rw [List.take_of_length_le (by omega)] at hme
    refine cR ?_
    refine dK ?_
    refine dH ?_
    refine fC ?_
    refine aF (aH (aB ?_))
    refine aA (aC (.map _) rfl) rfl rfl ?_
    refine aA (aE (.map _) rfl) rfl rfl ?_
    refine aD (aF (aS ?_))
    refine cG (.map _) rfl ?_
    exact ⟨_, _, rfl, hme, hM2⟩
set_option maxHeartbeats 4000000 in
theorem vP (w : World) (pm : Nat) :
    Calls Tryz.prog 134 #[.map (some pm)] w (fun ex w' => ∃ v, ex = .returned v ∧ (fun v w' => ∃ bm bn, v = .tuple #[.func (.func 163) #[] #[.pointer (some ⟨bn, 0, none⟩), .pointer (some ⟨bm, 0, none⟩)], .func (.func 165) #[] #[.pointer (some ⟨bn, 0, none⟩)]] ∧ Mem w [] [(some bm, bc [.map (some pm)] 186), (some bn, bc [.int .i64 0] 3)] w') v w') := by
  refine aK #[.tmp 2, .tmp 3] 8 Tryz.func134 rfl Tryz.results134 Tryz.ntmps134 rfl ?_
  have M0 := Mem.refl w
  refine aH (aB ?_)
  refine bM (.map _) M0 rfl rfl rfl (fun b1 w1 M1 => ?_)
  refine aA (aE (_) rfl) rfl rfl ?_
  refine aA (aE (_) rfl) rfl rfl ?_
  refine aD (aF (aH (aB ?_)))
  refine aU aXw M1 rfl rfl (fun b2 w2 M2 => ?_)
  refine eL 1 (.int _ _) mA M2 rfl rfl rfl rfl rfl rfl (fun w3 M3 => ?_)
  refine aD (aF (aH (aB ?_)))
  refine aA (dL [] [.pointer _, .pointer _] rfl rfl) rfl rfl ?_
  refine aA (aE (.func _ _ _) rfl) rfl rfl ?_
  refine aD (aF (aH (aB ?_)))
  refine aA (aC (.func _ _ _) rfl) rfl rfl ?_
  refine aA (dL [] [.pointer _] rfl rfl) rfl rfl ?_
  refine aA (aE (.func _ _ _) rfl) rfl rfl ?_
  refine aA (aE (.func _ _ _) rfl) rfl rfl ?_
  refine aD (aF (aS ?_))
  refine fV (.func _ _ _) (.func _ _ _) rfl rfl ?_
  exact ⟨b1, b2, rfl, M3⟩
set_option maxHeartbeats 4000000 in
theorem wW (w : World) (bn : Nat) (m : Int) (K : Rd w 1 (some ⟨bn, 0, none⟩) 1 [[.int .i64 m]]) :
    Calls Tryz.prog 165 #[.pointer (some ⟨bn, 0, none⟩)] w (fun ex w' => ∃ v, ex = .returned v ∧ (fun v w' => v = .int .i64 m ∧ Below w.heap.size w w') v w') := by
  rw [← gB bn]
  refine aK #[.tmp 1] 3 Tryz.func165 rfl Tryz.results165 Tryz.ntmps165 rfl ?_
  have M0 := Mem.refl w
  refine aH (aB ?_)
  refine aA (aE (.int _ _) rfl) rfl rfl ?_
  refine aD (aF (aH (aB ?_)))
  refine aA (fB (o := 0) (.int _ _) mA (K.mem M0) (show ([[.int .i64 m]] : List (List Value))[0]? = some [.int .i64 m] from rfl) rfl rfl) rfl rfl ?_
  refine aA (aE (.int _ _) rfl) rfl rfl ?_
  refine aD (aF (aS ?_))
  refine cG (.int _ _) rfl ?_
  exact ⟨rfl, M0.below⟩
set_option maxHeartbeats 4000000 in
theorem sQ (w : World) (z : Int × Int) (bn bm m : Nat) (f : Int → Option Bx) (pm : Nat) (em : dW) (hme : iW .u32 oU f (some pm) em) (B : Rd w 1 (some ⟨bm, 0, none⟩) 1 [[.map (some pm)]]) (N : Rd w 4 (some ⟨3, 0, none⟩) 1 [cT iJ]) (hO : Own [(some bn, bc [.int .i64 (m : Int)] 3), em] w) (hdB : 0 < 1 → ∀ q off, (some ⟨bm, 0, none⟩ : Option Addr) = some ⟨q, off, none⟩ → q ∉ bZ [(some bn, bc [.int .i64 (m : Int)] 3), em]) (hdN : 0 < 1 → ∀ q off, (some ⟨3, 0, none⟩ : Option Addr) = some ⟨q, off, none⟩ → q ∉ bZ [(some bn, bc [.int .i64 (m : Int)] 3), em]) (hm : m ≤ 1125899906842624) :
    Calls Tryz.prog 163 #[(.agg (bH z).toArray), .pointer (some ⟨bn, 0, none⟩), .pointer (some ⟨bm, 0, none⟩)] w (fun ex w' => ∃ v, ex = .returned v ∧ (fun v w' => v = .bool (apB f z) ∧ Mem w (bZ [(some bn, bc [.int .i64 (m : Int)] 3), em]) [(some bn, bc [.int .i64 ((m + 1 : Nat) : Int)] 3), em] w') v w') := by
  rw [← gB bm]
  refine aK #[.tmp 4] 17 Tryz.func163 rfl Tryz.results163 Tryz.ntmps163 rfl ?_
  have M0 := hO.mem
  refine aH (aB ?_)
  refine bM (.agg (List.toArray _)) M0 rfl rfl rfl (fun b1 w1 M1 => ?_)
  refine aA (aE (.bool false) rfl) rfl rfl ?_
  refine aD (aF (aH (aB ?_)))
  refine aA (aV 0 (.int _ _) mA M1 rfl rfl rfl) rfl rfl ?_
  refine aA (bS rfl rfl (by omega) (by omega)) rfl rfl ?_
  refine aQ 6 (.int .i64 ((m + 1 : Nat) : Int)) (iE (by omega)) ?_
  refine eL 0 (.int _ _) mA M1 rfl rfl rfl rfl rfl rfl (fun w2 M2 => ?_)
  refine aD (aF (aH (aB ?_)))
  refine aA (fB (o := 0) (.map _) aMw (B.memY M2 hdB) (show ([[.map (some pm)]] : List (List Value))[0]? = some ([.map (some pm)]) from rfl) rfl rfl) rfl rfl ?_
  refine aA (aI 0 lR rfl) rfl rfl ?_
  refine aA (aV 2 (.int _ _) dD M2 rfl rfl rfl) rfl rfl ?_
  refine aA (iF (enc := oU) z0B 1 aAp aPw M2 rfl hme rfl rfl) rfl rfl ?_
  refine aA (fB (o := 0) (.map _) aMw (B.memY M2 hdB) (show ([[.map (some pm)]] : List (List Value))[0]? = some ([.map (some pm)]) from rfl) rfl rfl) rfl rfl ?_
  refine aA (aI 1 lQ rfl) rfl rfl ?_
  refine aA (aV 2 (.int _ _) dD M2 rfl rfl rfl) rfl rfl ?_
  refine aA (iF (enc := oU) z0B 1 aAp aPw M2 rfl hme rfl rfl) rfl rfl ?_
  refine aL aUj rfl rfl rfl ?_
  refine (aCt _ (N.memY M2 hdN) ((f z.1).getD z0B) ((f z.2).getD z0B)).mono ?_
  rintro _ w3 ⟨v3, rfl, ⟨rfl, hb3⟩⟩
  refine ⟨_, rfl, ?_⟩
  have M3 := M2.callB hb3
  refine aA (oS rfl) rfl rfl ?_
  refine aA (aE (.bool (decide _)) rfl) rfl rfl ?_
  refine aD (aF (aS ?_))
  refine cG (.bool (decide _)) rfl ?_
  exact ⟨rfl, M3.keep [true, true, false]⟩
set_option maxHeartbeats 4000000 in
theorem qI (w : World) (A : Option Addr) (n c : Nat) (zs : List (Int × Int)) (R : Rd w 2 A n (zs.map bH)) (bn bm m : Nat) (f : Int → Option Bx) (pm : Nat) (em : dW) (hme : iW .u32 oU f (some pm) em) (B : Rd w 1 (some ⟨bm, 0, none⟩) 1 [[.map (some pm)]]) (N : Rd w 4 (some ⟨3, 0, none⟩) 1 [cT iJ]) (hO : Own [(some bn, bc [.int .i64 (m : Int)] 3), em] w) (hdA : 0 < n → ∀ q off, A = some ⟨q, off, none⟩ → q ∉ bZ [(some bn, bc [.int .i64 (m : Int)] 3), em]) (hdB : 0 < 1 → ∀ q off, (some ⟨bm, 0, none⟩ : Option Addr) = some ⟨q, off, none⟩ → q ∉ bZ [(some bn, bc [.int .i64 (m : Int)] 3), em]) (hdN : 0 < 1 → ∀ q off, (some ⟨3, 0, none⟩ : Option Addr) = some ⟨q, off, none⟩ → q ∉ bZ [(some bn, bc [.int .i64 (m : Int)] 3), em]) (hm : m + n ≤ 1125899906842624) (hn : n ≤ 1099511627776) :
    Calls Tryz.prog 166 #[.slice A n c, .func (.func 163) #[] #[.pointer (some ⟨bn, 0, none⟩), .pointer (some ⟨bm, 0, none⟩)]] w (fun ex w' => ∃ v, ex = .returned v ∧ (fun v w' => v = .int .i64 (if zs.findIdx (apB f) < n then (zs.findIdx (apB f) : Int) else -1) ∧ Mem w (bZ [(some bn, bc [.int .i64 (m : Int)] 3), em]) [(some bn, bc [.int .i64 ((m + min n (zs.findIdx (apB f) + 1) : Nat) : Int)] 3), em] w') v w') := by
  have hlen : zs.length = n := by simpa using R.len
  refine aK #[.tmp 4] 19 Tryz.func166 rfl Tryz.results166 Tryz.ntmps166 rfl ?_
  have M0 := hO.mem
  refine aH (aB ?_)
  refine aA (aE (.int _ _) rfl) rfl rfl ?_
  refine aD (aF (aH (aH (aB ?_))))
  refine aA (aC (.slice _ _ _) rfl) rfl rfl ?_
  refine aA (bV Tryz.underlying159 rfl) rfl rfl ?_
  refine aA (aC (.int _ _) rfl) rfl rfl ?_
  refine aD (aF (bC ?_))
  refine dT (σ := Nat) [0, 1, 7] (fun k => [(8, .int .i64 (k : Int))]) (fun k w' => (k ≤ n ∧ ∀ (j : Nat) (x : Int × Int), j < k → zs[j]? = some x → apB f x = false) ∧ Mem w (bZ [(some bn, bc [.int .i64 (m : Int)] 3), em]) [(some bn, bc [.int .i64 ((m + k : Nat) : Int)] 3), em] w') (fun k => n - k) 0 (bX rfl fH) (⟨⟨by omega, fun j c hj => by omega⟩, M0⟩) ?_
  rintro k ρ1 w1 ⟨⟨hk, hno⟩, hM1⟩
  refine aH (aB ?_)
  refine aA (aO (.bool (decide _)) rfl rfl rfl) rfl rfl ?_
  refine aD (aF (aH ?_))
  refine aY rfl (fun h9 => ?_) (fun h9 => ?_)
  · obtain ⟨xz, hxz⟩ := cS (k := k) hlen (by omega)
    refine aP (aF (aH (bC (aH (aB ?_)))))
    refine aA (aC (.int _ _) rfl) rfl rfl ?_
    refine aA (aE (.int _ _) rfl) rfl rfl ?_
    refine aD (aF (aH (aB ?_)))
    refine aA (aC (.func _ _ _) rfl) rfl rfl ?_
    refine aA (aC (.slice _ _ _) rfl) rfl rfl ?_
    refine aA (aC (.int _ _) rfl) rfl rfl ?_
    refine aA (bK (k) pM rfl rfl rfl ((R.memY hM1 hdA).below_len (aJ bH hxz)) ((R.memY hM1 hdA).someK (aJ bH hxz))) rfl rfl ?_
    refine aA (cM _ fI (R.memY hM1 hdA) (aJ bH hxz) rfl) rfl rfl ?_
    refine aL aPi rfl rfl rfl ?_
    refine (sQ _ xz bn bm (m + k) f pm em hme (B.memY hM1 hdB) (N.memY hM1 hdN) (hM1.ownSeg 0 2) hdB hdN (by omega)).mono ?_
    rintro _ w2 ⟨v2, rfl, ⟨rfl, hM2⟩⟩
    refine ⟨_, rfl, ?_⟩
    have M2 : Mem _ _ [_, _] _ := hM1.seg 0 2 hM2
    refine aD (aF ?_)
    refine iV _ rfl (fun h16 => ?_) (fun h16 => ?_)
    · refine aH (aB ?_)
      refine aA (aC (.int _ _) rfl) rfl rfl ?_
      refine aA (aE (.int _ _) rfl) rfl rfl ?_
      refine aD (aF (aS ?_))
      refine qG ?_
      refine cN ?_
      refine tU ?_
      refine qG ?_
      refine cN ?_
      refine cG (.int _ _) rfl ?_
      have hfi := vA hxz h16 hno
      exact ⟨iE (by rw [hfi, if_pos (by omega)]), by rw [hfi, Nat.min_eq_right (by omega)]; exact M2⟩
    · refine aP ?_
      refine dU ?_
      refine aF (aB ?_)
      refine aA (bS rfl rfl (by omega) (by omega)) rfl rfl ?_
      refine aA (aC (.int _ _) rfl) rfl rfl ?_
      refine aD ?_
      refine cK (k + 1) (bX rfl fH) (cQ rfl (cQ rfl (cQ rfl jF))) ?_ ?_
      · exact ⟨⟨by omega, oH (p := fun _ x => apB f x = false) hno hxz h16⟩, M2⟩
      · omega
  · refine cR ?_
    refine dK ?_
    refine dH ?_
    refine fC ?_
    refine aF (aH (aB ?_))
    refine aA (aE (.int _ _) rfl) rfl rfl ?_
    refine aD (aF (aS ?_))
    refine cG (.int _ _) rfl ?_
    have hkn : k = n := by omega
    have hfi := uT (p := apB f) (l := zs) (fun j y hy => hno j y (by have := (List.getElem?_eq_some_iff.1 hy).1; omega) hy)
    exact ⟨iE (by rw [hfi, if_neg (by omega)]), by rw [hfi, Nat.min_eq_left (by omega), ← hkn]; exact hM1⟩
set_option maxHeartbeats 16000000 in
theorem pA (w : World) (A : Option Addr) (n c : Nat) (zs : List (Int × Int)) (er : dW) (hr : aX 119 2 A n c ((zs).map bH) er) (bn bm m : Nat) (f : Int → Option Bx) (pm : Nat) (em : dW) (hme : iW .u32 oU f (some pm) em) (B : Rd w 1 (some ⟨bm, 0, none⟩) 1 [[.map (some pm)]]) (N : Rd w 4 (some ⟨3, 0, none⟩) 1 [cT iJ]) (hO : Own [er, (some bn, bc [.int .i64 (m : Int)] 3), em] w) (hdB : 0 < 1 → ∀ q off, (some ⟨bm, 0, none⟩ : Option Addr) = some ⟨q, off, none⟩ → q ∉ bZ [er, (some bn, bc [.int .i64 (m : Int)] 3), em]) (hdN : 0 < 1 → ∀ q off, (some ⟨3, 0, none⟩ : Option Addr) = some ⟨q, off, none⟩ → q ∉ bZ [er, (some bn, bc [.int .i64 (m : Int)] 3), em]) (hm : m + n ≤ 1125899906842624) (hn : n ≤ 1099511627776) :
    Calls Tryz.prog 135 #[.slice A n c, .func (.func 163) #[] #[.pointer (some ⟨bn, 0, none⟩), .pointer (some ⟨bm, 0, none⟩)]] w (fun ex w' => ∃ v, ex = .returned v ∧ (fun v w' => ∃ r : Row, v = .slice r.A r.n r.c ∧ aX 119 2 r.A r.n r.c ((zs.filter (fun z => !apB f z)).map bH) r.e ∧ Mem w (bZ [er, (some bn, bc [.int .i64 (m : Int)] 3), em]) [r.e, (some bn, bc [.int .i64 ((m + n : Nat) : Int)] 3), em] w') v w') := by
  have hlen : zs.length = n := by simpa using hr.1
  have hcap := hr.slice
  refine aK #[.tmp 4] 42 Tryz.func135 rfl Tryz.results135 Tryz.ntmps135 rfl ?_
  have M0 := hO.mem
  refine aH (aB ?_)
  refine aA (aE (.slice _ _ _) rfl) rfl rfl ?_
  refine aD (aF (aH (aB ?_)))
  refine aA (aC (.slice _ _ _) rfl) rfl rfl ?_
  refine aA (aC (.func _ _ _) rfl) rfl rfl ?_
  refine aL aXj rfl rfl rfl ?_
  refine (qI _ A n c zs (hr.rd M0 (aM (i := 0) rfl)) bn bm m f pm em hme (B.memY M0 hdB) (N.memY M0 hdN) (M0.ownSeg 1 2) (hr.apartTail M0) (M0.away 1 2 B hdB) (M0.away 1 2 N hdN) hm hn).mono ?_
  rintro _ w1 ⟨v1, rfl, ⟨rfl, hM1⟩⟩
  refine ⟨_, rfl, ?_⟩
  have M1 : Mem _ _ [_, _, _] _ := M0.seg 1 2 hM1
  refine aA (aE (.int _ _) rfl) rfl rfl ?_
  refine aD (aF (aH (aH (aB ?_))))
  refine aA (aC (.int _ _) rfl) rfl rfl ?_
  refine aA (aO (.bool (decide _)) rfl rfl rfl) rfl rfl ?_
  refine aD (aF ?_)
  refine aY rfl (fun h12 => ?_) (fun h12 => ?_)
  · have hge : ¬ zs.findIdx (apB f) < n := fun h => by rw [if_pos h] at h12; omega
    refine aH (aB ?_)
    refine aA (aC (.slice _ _ _) rfl) rfl rfl ?_
    refine aA (aE (.slice _ _ _) rfl) rfl rfl ?_
    refine aD (aF (aS (cN ?_)))
    refine cG (.slice _ _ _) rfl ?_
    have e1 : m + min n (zs.findIdx (apB f) + 1) = m + n := by omega
    rw [e1] at M1
    exact ⟨⟨A, n, c, er⟩, rfl, by rw [aDr (by omega)]; exact hr, M1⟩
  · have hlt : zs.findIdx (apB f) < n := Decidable.by_contra fun h => h12 (if_neg h)
    refine aP (aF (aH (aH (aB ?_))))
    refine aA (aC (.int _ _) rfl) rfl rfl ?_
    refine aA (bS rfl rfl (by omega) (by omega)) rfl rfl ?_
    refine aQ 15 (.int .i64 ((zs.findIdx (apB f) + 1 : Nat) : Int)) (iE (by rw [if_pos hlt]; omega)) ?_
    refine aA (aE (.int _ _) rfl) rfl rfl ?_
    refine aD (aF (bC ?_))
    refine dT (σ := Nat × Nat × List (Int × Int) × dW) [0, 1, 4] (fun (j, k, zs2, en) => [(5, .int .i64 (k : Int)), (6, .int .i64 (j : Int))]) (fun (j, k, zs2, en) w' => (j ≤ n ∧ k < j ∧ zs2.take k = (zs.take j).filter (fun z => !apB f z) ∧ zs2.drop j = zs.drop j ∧ aX 119 2 A n c ((zs2).map bH) en) ∧ Mem w (bZ [er, (some bn, bc [.int .i64 (m : Int)] 3), em]) [en, (some bn, bc [.int .i64 ((m + j : Nat) : Int)] 3), em] w') (fun (j, k, zs2, en) => n - j) (zs.findIdx (apB f) + 1, zs.findIdx (apB f), zs, er) (bX (iv rfl (if_pos hlt)) (bX rfl fH)) (⟨⟨by omega, by omega, zQ (by omega), rfl, hr⟩, by
      have e1 : min n (zs.findIdx (apB f) + 1) = zs.findIdx (apB f) + 1 := by omega
      rw [e1] at M1
      exact M1⟩) ?_
    rintro ⟨j, k, zs2, en⟩ ρ2 w2 ⟨⟨hj, hkj, hpre, hsuf, hz2⟩, hM2⟩
    have hl2 : zs2.length = n := by simpa using hz2.1
    refine aH (aH (aB ?_))
    refine aA (aC (.int _ _) rfl) rfl rfl ?_
    refine aA (aC (.slice _ _ _) rfl) rfl rfl ?_
    refine aA (bV Tryz.underlying159 rfl) rfl rfl ?_
    refine aA (aO (.bool (decide _)) rfl rfl rfl) rfl rfl ?_
    refine aD (aF ?_)
    refine aY rfl (fun h19 => ?_) (fun h19 => ?_)
    · obtain ⟨xz, hxz⟩ := cS (k := j) hlen (by omega)
      have hxz2 : zs2[j]? = some xz := (aMn hsuf).trans hxz
      obtain ⟨xk, hxk⟩ := cS (k := k) hl2 (by omega)
      refine aP (aF (aH (bC (aH (aB ?_)))))
      refine aA (aC (.slice _ _ _) rfl) rfl rfl ?_
      refine aA (aC (.int _ _) rfl) rfl rfl ?_
      refine aA (bK (j) pM rfl rfl rfl ((hz2.rd hM2 (aM (i := 0) rfl)).below_len (aJ bH hxz2)) ((hz2.rd hM2 (aM (i := 0) rfl)).someK (aJ bH hxz2))) rfl rfl ?_
      refine aA (cM _ fI (hz2.rd hM2 (aM (i := 0) rfl)) (aJ bH hxz2) rfl) rfl rfl ?_
      refine aU oF hM2 rfl rfl (fun b3 w3 M3 => ?_)
      refine bL 3 _ fI M3 rfl rfl rfl rfl rfl (aW rfl) rfl (fun w4 M4 => ?_)
      refine aD (aF (aH (aB ?_)))
      refine aA (aC (.func _ _ _) rfl) rfl rfl ?_
      refine aA (bE 3 fI M4 rfl rfl rfl) rfl rfl ?_
      refine aL aPi rfl rfl rfl ?_
      refine (sQ _ xz bn bm (m + j) f pm em hme (B.memY M4 hdB) (N.memY M4 hdN) (M4.ownSeg 1 2) (M4.away 1 2 B hdB) (M4.away 1 2 N hdN) (by omega)).mono ?_
      rintro _ w5 ⟨v5, rfl, ⟨rfl, hM5⟩⟩
      refine ⟨_, rfl, ?_⟩
      have M5 : Mem _ _ [_, _, _, _] _ := M4.seg 1 2 hM5
      refine aA (kO _ rfl rfl) rfl rfl ?_
      refine aD (aF ?_)
      refine iV _ rfl (fun h29 => ?_) (fun h29 => ?_)
      · refine aH (aB ?_)
        refine aA (aC (.slice _ _ _) rfl) rfl rfl ?_
        refine aA (aC (.int _ _) rfl) rfl rfl ?_
        refine aA (bE 3 fI M5 rfl rfl rfl) rfl rfl ?_
        refine aA (bK (k) pM rfl rfl rfl ((hz2.rd M5 (aM (i := 0) rfl)).below_len (aJ bH hxk)) ((hz2.rd M5 (aM (i := 0) rfl)).someK (aJ bH hxk))) rfl rfl ?_
        refine aSw 0 _ fI M5 rfl hz2 (aJ bH hxk) rfl rfl rfl rfl (aW rfl) (fun e6 w6 hR6 M6 => ?_)
        have hQ6 := hR6.mapSet (f := bH) (x := xz) rfl
        refine aD (aF (aB ?_))
        refine aA (aC (.int _ _) rfl) rfl rfl ?_
        refine aA (bS rfl rfl (by omega) (by omega)) rfl rfl ?_
        refine aA (aE (.int _ _) rfl) rfl rfl ?_
        refine aD ?_
        refine dU ?_
        refine aF (aB ?_)
        refine aA (aC (.int _ _) rfl) rfl rfl ?_
        refine aA (bS rfl rfl (by omega) (by omega)) rfl rfl ?_
        refine aA (aE (.int _ _) rfl) rfl rfl ?_
        refine aD ?_
        refine cK (j + 1, k + 1, zs2.set k xz, e6) (bX rfl (bX rfl fH)) (cQ rfl (cQ rfl (cQ rfl jF))) ?_ ?_
        · exact ⟨⟨by omega, by omega, by rw [aNn (by omega), hpre, sG hxz, if_neg (by simpa using h29)], by rw [aOn (by omega)]; exact yS hsuf, hQ6⟩, M6.keep [true, true, true, false]⟩
        · (show n - (j + 1) < n - j; omega)
      · refine aP ?_
        refine dU ?_
        refine aF (aB ?_)
        refine aA (aC (.int _ _) rfl) rfl rfl ?_
        refine aA (bS rfl rfl (by omega) (by omega)) rfl rfl ?_
        refine aA (aE (.int _ _) rfl) rfl rfl ?_
        refine aD ?_
        refine cK (j + 1, k, zs2, en) (bX rfl (bX rfl fH)) (cQ rfl (cQ rfl (cQ rfl jF))) ?_ ?_
        · exact ⟨⟨by omega, by omega, by rw [hpre, sG hxz, if_pos (by simpa using h29), List.append_nil], yS hsuf, hz2⟩, M5.keep [true, true, true, false]⟩
        · (show n - (j + 1) < n - j; omega)
    · have hjn : j = n := by omega
      rw [hjn, show List.take n zs = zs from List.take_of_length_le (by omega)] at hpre
      refine cR ?_
      refine dK ?_
      refine dH ?_
      refine fC ?_
      refine aF (aH (aB ?_))
      refine aA (aC (.slice _ _ _) rfl) rfl rfl ?_
      refine aA (aC (.int _ _) rfl) rfl rfl ?_
      refine aA (fM ((k : Int)) ((n : Int)) pM rfl ⟨_, rfl⟩ rfl (by omega) (by omega) (by omega)) rfl rfl ?_
      refine aQa 0 (k) pM (fun zv hz => by rw [aYn] at hz; injection hz with hz; subst hz; simp [Go.Bil.one, Value.cells]) hM2 rfl rfl hz2 (by omega) rfl (fun e7 w7 hR7 M7 => ?_)
      refine aD (aF (aH (aB ?_)))
      refine aA (aC (.slice _ _ _) rfl) rfl rfl ?_
      refine aA (aC (.int _ _) rfl) rfl rfl ?_
      refine aA (fM (0) ((k : Int)) pM rfl rfl ⟨_, rfl⟩ (by decide) (by omega) (by omega)) rfl rfl ?_
      refine aA (aE (.slice _ _ _) rfl) rfl rfl ?_
      refine aD (aF (aS ?_))
      refine cG (.slice _ _ _) rfl ?_
      rw [hjn] at M7
      have hpf := hR7
      rw [← List.map_take, hpre] at hpf
      exact ⟨⟨_, _, _, e7⟩, rfl, hpf, M7⟩
end Go.Proofs.YtlmcphcgiclanaaGreatDoor

namespace Go.Proofs.YtlmcphcgiclanaaGreatDoor
open Go.Bil
open Go.RowKit (Below)
open Go.Proofs
set_option maxRecDepth 100000 in
theorem aYq : fR Tryz.prog 191 = some (cY (List.replicate 1024 gW) 0) := by kernel_rfl
set_option maxHeartbeats 16000000 in
theorem aFq (w : World) (F : Rd w 2 (some ⟨0, 0, none⟩) 1 [[.int .u32 73856093, .int .u32 19349663]]) (N : Rd w 4 (some ⟨3, 0, none⟩) 1 [cT iJ]) (A : Option Addr) (n c : Nat) (xs : List Body) (R : Rd w 10 A n (xs.map aG)) (hb : ∀ b ∈ xs, Okb b) (hs : bN xs) (hn : n ≤ 4096) :
    Calls Tryz.prog 105 #[.slice A n c] w (fun ex w' => ∃ v, ex = .returned v ∧ (fun v w' => ∃ (r : Row) (m : Nat), v = .tuple #[.slice r.A r.n r.c, .int .i64 (m : Int)] ∧ (gJ xs).length ≤ m ∧ 2 * m ≤ xs.length * (xs.length - 1) ∧ aX 119 2 r.A r.n r.c ((gJ xs).map bH) r.e ∧ Mem w [] [r.e] w') v w') := by
  have hlen : xs.length = n := by simpa using R.len
  have hbd := R.bound
  refine aK #[.tmp 2, .tmp 3] 37 Tryz.func105 rfl Tryz.results105 Tryz.ntmps105 rfl ?_
  have M0 := Mem.refl w
  refine aH (aB ?_)
  refine aA (aE (.slice _ _ _) rfl) rfl rfl ?_
  refine aA (aE (.int _ _) rfl) rfl rfl ?_
  refine aD (aF (aH (aB ?_)))
  refine aA (aC (.slice _ _ _) rfl) rfl rfl ?_
  refine aL aUz rfl rfl rfl ?_
  refine (aBt _ _ _ _ xs (R.mem M0) hb).mono ?_
  rintro _ w1 ⟨v1, rfl, ⟨pm, em, rfl, hme, hM1⟩⟩
  refine ⟨_, rfl, ?_⟩
  have M1 : Mem _ _ [_] _ := M0.call0 hM1
  refine aA (aE (.map _) rfl) rfl rfl ?_
  refine aD (aF (aH (aB ?_)))
  refine aU aYq M1 rfl rfl (fun b2 w2 M2 => ?_)
  have M3 := Mem.gridNew (L := [_]) M2
  refine aD (aF (aH (aH (aB ?_))))
  refine aA (aC (.slice _ _ _) rfl) rfl rfl ?_
  refine aA (bV Tryz.underlying22 rfl) rfl rfl ?_
  refine aA (aC (.int _ _) rfl) rfl rfl ?_
  refine aD (aF (bC ?_))
  refine dT (σ := Nat × List Row) [2, 3, 4, 5, 12, 13] (fun (k, rs) => [(14, .int .i64 (k : Int))]) (fun (k, rs) w' => (k ≤ n ∧ GridRows 36 rs (gOf (xs.take k))) ∧ Mem w [] ([em] ++ ((some b2, bc (cY rs (k : Int)) 191) :: rs.map Row.e)) w') (fun (k, rs) => n - k) (0, List.replicate 1024 gW) (bX rfl fH) (⟨⟨by omega, by rw [List.take_zero]; exact aPe _⟩, M3⟩) ?_
  rintro ⟨k, rs⟩ ρ4 w4 ⟨⟨hk, hrs⟩, hM4⟩
  refine aH (aB ?_)
  refine aA (aO (.bool (decide _)) rfl rfl rfl) rfl rfl ?_
  refine aD (aF (aH ?_))
  refine aY rfl (fun h15 => ?_) (fun h15 => ?_)
  · obtain ⟨xb, hxb⟩ := cS (k := k) hlen (by omega)
    refine aP (aF (aH (bC (aH (aB ?_)))))
    refine aA (bK (k) cA rfl rfl rfl ((R.mem hM4).below_len (aJ aG hxb)) ((R.mem hM4).someK (aJ aG hxb))) rfl rfl ?_
    refine aA (cM _ bO (R.mem hM4) (aJ aG hxb) rfl) rfl rfl ?_
    refine aU mI hM4 rfl rfl (fun b5 w5 M5 => ?_)
    have M6 : Mem _ _ ([_, _] ++ _) _ := Mem.front (L := [_]) M5
    refine bL 1 _ bO M6 rfl rfl rfl rfl rfl (aW rfl) rfl (fun w7 M7 => ?_)
    refine aD (aF (aB ?_))
    refine aA (aI 0 eG rfl) rfl rfl ?_
    refine aA (aV 1 (.int _ _) dD M7 rfl rfl rfl) rfl rfl ?_
    refine aA (aC (.map _) rfl) rfl rfl ?_
    refine aA (aI 0 eG rfl) rfl rfl ?_
    refine aA (aV 1 (.int _ _) dD M7 rfl rfl rfl) rfl rfl ?_
    refine aA (iF (enc := oU) z0B 0 aAp aPw M7 rfl hme rfl rfl) rfl rfl ?_
    refine aQ 23 (.agg (cT (dQ xb)).toArray) (congrArg oU (by rw [mE hs (List.mem_of_getElem? hxb)]; rfl)) ?_
    refine aL aXm rfl rfl rfl ?_
    refine (aCn _ (F.mem M7) b2 rs (k : Int) (gOf (xs.take k)) hrs ⟨by omega, by omega⟩ (fun j _ => Nat.le_trans (aRl _ _) (by simp; omega)) xb.key (dQ xb) (aUu (hb xb (List.mem_of_getElem? hxb))) (Mem.ownTail (L := [_, _]) M7) (Mem.awayTail (L := [_, _]) M7 F)).mono ?_
    rintro _ w8 ⟨v8, rfl, ⟨rfl, rs2, hrs2, hM8⟩⟩
    refine ⟨_, rfl, ?_⟩
    have M8 : Mem _ _ ([_, _] ++ _) _ := Mem.tail (L := [_, _]) M7 hM8
    refine aD ?_
    refine dU ?_
    refine aF (aB ?_)
    refine aA (bS rfl rfl (by omega) (by omega)) rfl rfl ?_
    refine aA (aC (.int _ _) rfl) rfl rfl ?_
    refine aD ?_
    refine cK (k + 1, rs2) (bX rfl fH) (cQ rfl (cQ rfl (cQ rfl (cQ rfl (cQ rfl (cQ rfl jF)))))) ?_ ?_
    · exact ⟨⟨by omega, by rw [aMg hxb]; exact hrs2⟩, Mem.keepL (L := [_, _]) [true, false] M8⟩
    · (show n - (k + 1) < n - k; omega)
  · have hkn : k = n := by omega
    rw [List.take_of_length_le (by omega)] at hrs
    refine cR ?_
    refine dK ?_
    refine dH ?_
    refine fC ?_
    refine aF (aH (aB ?_))
    refine aA (aC (.map _) rfl) rfl rfl ?_
    refine aL aXn rfl rfl rfl ?_
    refine (vP _ pm).mono ?_
    rintro _ w9 ⟨v9, rfl, ⟨bm, bn, rfl, hM9⟩⟩
    refine ⟨_, rfl, ?_⟩
    have M9 : Mem _ _ ([_, _, _] ++ _) _ := Mem.front (L := [_]) (hM4.call0 hM9)
    refine aA (aC (.tuple (List.toArray _)) rfl) rfl rfl ?_
    refine aA (bB (.func _ _ _) rfl rfl) rfl rfl ?_
    refine aA (bB (.func _ _ _) rfl rfl) rfl rfl ?_
    refine aA (aE (.func _ _ _) rfl) rfl rfl ?_
    refine aA (aE (.func _ _ _) rfl) rfl rfl ?_
    refine aD (aF (aH (aB ?_)))
    refine aL aVe rfl rfl rfl ?_
    refine (sV _ b2 rs (k : Int) (gOf xs) hrs.len (Mem.gridRd (L := [_, _, _]) M9 hrs.len) (fun j r hr => Mem.rowRd (L := [_, _, _]) M9 hrs j r hr) (xs.map (·.key)) (fun j _ x hx => by obtain ⟨b, h1, _, rfl⟩ := mR.1 hx; exact List.mem_map.2 ⟨b, h1, rfl⟩) (by simp; omega)).mono ?_
    rintro _ w10 ⟨v10, rfl, ⟨r, ps, hasc, hps, rfl, hr, hM10⟩⟩
    refine ⟨_, rfl, ?_⟩
    have M10 : Mem _ _ ([_, _, _, _] ++ _) _ := Mem.front (L := [_, _, _]) (M9.call0 hM10)
    have hpl := aJb hs hasc hps
    have hrl : ps.length = r.n := by simpa using hr.1
    have hnn : xs.length * (xs.length - 1) ≤ 4096 * 4096 := Nat.mul_le_mul (by omega) (by omega)
    refine aA (aC (.func _ _ _) rfl) rfl rfl ?_
    have M11 : Mem _ _ [_, _, _, _] _ := Mem.order4 M10
    refine aL aVx rfl rfl rfl ?_
    refine (pA _ r.A r.n r.c ps r.e hr bn bm 0 (bxM xs) pm em hme (oN 3 M11 rfl rfl) (N.mem M11) (M11.ownSeg 0 3) (M11.apartTake 3 3 rfl rfl) (M11.away 0 3 N (fun _ q off _ h => by simp at h)) (by omega) (by omega)).mono ?_
    rintro _ w12 ⟨v12, rfl, ⟨r2, rfl, hr2, hM12⟩⟩
    refine ⟨_, rfl, ?_⟩
    have M12 : Mem _ _ [_, _, _, _] _ := M11.seg 0 3 hM12
    have hfl : (gJ xs).length ≤ ps.length := by rw [← wA hs hasc hps]; exact List.length_filter_le _ _
    rw [wA hs hasc hps] at hr2
    refine aA (aE (.slice _ _ _) rfl) rfl rfl ?_
    refine aD (aF (aH (aB ?_)))
    refine aA (aC (.slice _ _ _) rfl) rfl rfl ?_
    refine aA (aC (.func _ _ _) rfl) rfl rfl ?_
    refine aL aUo rfl rfl rfl ?_
    refine (wW _ bn _ (oN 1 M12 rfl rfl)).mono ?_
    rintro _ w13 ⟨v13, rfl, ⟨rfl, hb13⟩⟩
    refine ⟨_, rfl, ?_⟩
    have M13 := M12.callB hb13
    refine aA (aE (.slice _ _ _) rfl) rfl rfl ?_
    refine aA (aE (.int _ _) rfl) rfl rfl ?_
    refine aD (aF (aS ?_))
    refine fV (.slice _ _ _) (.int _ _) rfl rfl ?_
    exact ⟨r2, 0 + r.n, rfl, by omega, by omega, hr2, M13.keep [true, false, false, false]⟩
end Go.Proofs.YtlmcphcgiclanaaGreatDoor

namespace Go.Proofs.YtlmcphcgiclanaaGreatDoor
open Go.Bil
open Go.RowKit (Below)
open Go.Proofs
set_option maxHeartbeats 4000000 in
theorem zF (w : World) (key : Int) (A : Option Addr) (n c : Nat) (xs : List Body) (R : Rd w 10 A n (xs.map aG)) (hb : ∀ b ∈ xs, Okb b) :
    Calls Tryz.prog 22 #[.slice A n c, .int .u32 key] w (fun ex w' => ∃ v, ex = .returned v ∧ (fun v w' => v = .bool (wH xs key) ∧ Below w.heap.size w w') v w') := by
  have hlen : xs.length = n := by simpa using R.len
  have hbd := R.bound
  refine aK #[.tmp 4] 34 Tryz.func22 rfl Tryz.results22 Tryz.ntmps22 rfl ?_
  have M0 := Mem.refl w
  refine aH (aB ?_)
  refine aA (aE (.bool false) rfl) rfl rfl ?_
  refine aD (aF (aH (aB ?_)))
  refine aA (aC (.slice _ _ _) rfl) rfl rfl ?_
  refine aA (aC (.int _ _) rfl) rfl rfl ?_
  refine aL aUb rfl rfl rfl ?_
  refine (vB _ key _ _ _ xs (R.mem M0)).mono ?_
  rintro _ w1 ⟨v1, rfl, ⟨rfl, hb1⟩⟩
  refine ⟨_, rfl, ?_⟩
  have M1 := M0.callB hb1
  refine aA (aE (.int _ _) rfl) rfl rfl ?_
  refine aD (aF (aH (aH (aB ?_))))
  refine aA (aC (.int _ _) rfl) rfl rfl ?_
  refine aA (aO (.bool (decide _)) rfl rfl rfl) rfl rfl ?_
  refine aD (aF ?_)
  refine aY rfl (fun h11 => ?_) (fun h11 => ?_)
  · refine aH (aB ?_)
    refine aA (aE (.bool false) rfl) rfl rfl ?_
    refine aD (aF (aS (cN ?_)))
    refine cG (.bool false) rfl ?_
    exact ⟨by rw [aKt (by omega)], M1.below⟩
  · obtain ⟨q, yb, hq, hqk, hqi⟩ : ∃ (q : Nat) (yb : Body), xs[q]? = some yb ∧ yb.key = key ∧ cH key xs = (q : Int) := (dR key xs).elim (fun h => absurd h.1 (by omega)) id
    refine aP (aF (aH (aH (aB ?_))))
    refine aA (aE (.int _ _) rfl) rfl rfl ?_
    refine aD (aF (bC ?_))
    refine dT (σ := Nat) [0, 5] (fun k => [(6, .int .i64 (k : Int))]) (fun k w' => (k ≤ n ∧ ∀ (j : Nat) (c : Body), j < k → xs[j]? = some c → j ≠ q → ¬ qU (dQ yb) (dQ c)) ∧ Mem w [] [] w') (fun k => n - k) 0 (bX rfl fH) (⟨⟨by omega, fun j c hj => by omega⟩, M1⟩) ?_
    rintro k ρ2 w2 ⟨⟨hk, hno⟩, hM2⟩
    refine aH (aH (aB ?_))
    refine aA (aC (.int _ _) rfl) rfl rfl ?_
    refine aA (aC (.slice _ _ _) rfl) rfl rfl ?_
    refine aA (bV Tryz.underlying22 rfl) rfl rfl ?_
    refine aA (aO (.bool (decide _)) rfl rfl rfl) rfl rfl ?_
    refine aD (aF ?_)
    refine aY rfl (fun h15 => ?_) (fun h15 => ?_)
    · obtain ⟨xb, hxb⟩ := cS (k := k) hlen (by omega)
      refine aP (aF (aH (bC (aH ?_))))
      refine bP [(0, 0), (1, 0), (2, 0), (3, 0), (4, 0), (5, 0), (6, 1), (7, 1), (9, 0), (10, 0), (11, 1), (12, 1), (8, 2), (13, 2), (14, 2), (15, 0)] mixed rfl (by kernel_rfl) (fun w3 hb3 hh3 => ?_)
      have M3 := hM2.drew hb3 hh3
      refine aR rfl rfl rfl (fun _ => aC (.int _ _) rfl) ?_
      refine aR rfl rfl rfl (fun _ => aC (.int _ _) rfl) ?_
      refine aR rfl rfl rfl (fun _ => aO (.bool (decide _)) rfl rfl rfl) ?_
      refine aR rfl rfl rfl (fun _ => aC (.bool (decide _)) rfl) ?_
      refine aLt 21 rfl (fun g21 => ?_) (fun g21 => ?_)
      · refine aR rfl rfl rfl (fun _ => aC (.slice _ _ _) rfl) ?_
        refine aR rfl rfl rfl (fun _ => aC (.int _ _) rfl) ?_
        refine cD rfl rfl rfl (bK (q) cA rfl rfl hqi ((R.mem M3).below_len (aJ aG hq)) ((R.mem M3).someK (aJ aG hq))) ?_
        refine cD rfl rfl rfl (cM _ bO (R.mem M3) (aJ aG hq) rfl) ?_
        refine aR rfl rfl rfl (fun _ => aC (.slice _ _ _) rfl) ?_
        refine aR rfl rfl rfl (fun _ => aC (.int _ _) rfl) ?_
        refine cD rfl rfl rfl (bK (k) cA rfl rfl rfl ((R.mem M3).below_len (aJ aG hxb)) ((R.mem M3).someK (aJ aG hxb))) ?_
        refine cD rfl rfl rfl (cM _ bO (R.mem M3) (aJ aG hxb) rfl) ?_
        refine dM [false, false, true, true] rfl (by kernel_rfl) ?_
        refine aL aUe rfl rfl rfl ?_
        refine (aDm _ yb (hb yb (List.mem_of_getElem? hq))).mono ?_
        rintro _ w4 ⟨v4, rfl, ⟨rfl, hb4⟩⟩
        refine ⟨_, rfl, ?_⟩
        have M4 := M3.callB hb4
        refine aD (aF ⟨(iQ (cU rfl (cM _ bO (R.mem M4) (aJ aG hxb) rfl)) (iQ (cU rfl (bK (k) cA rfl rfl rfl ((R.mem M4).below_len (aJ aG hxb)) ((R.mem M4).someK (aJ aG hxb)))) cX)), ?_⟩)
        refine dM [true, true] rfl (by kernel_rfl) ?_
        refine aL aUe rfl rfl rfl ?_
        refine (aDm _ xb (hb xb (List.mem_of_getElem? hxb))).mono ?_
        rintro _ w5 ⟨v5, rfl, ⟨rfl, hb5⟩⟩
        refine ⟨_, rfl, ?_⟩
        have M5 := M4.callB hb5
        refine aD (aF ⟨cX, ?_⟩)
        refine dM [] rfl (by kernel_rfl) ?_
        refine aL aYg rfl rfl rfl ?_
        refine (xC _ (dQ yb) (dQ xb)).mono ?_
        rintro _ w6 ⟨v6, rfl, ⟨rfl, hb6⟩⟩
        refine ⟨_, rfl, ?_⟩
        have M6 := M5.callB hb6
        refine aD (aF ⟨cX, ?_⟩)
        refine aR rfl rfl rfl (fun _ => bI true (.bool (decide _)) rfl rfl) ?_
        refine cB ?_
        refine aF ?_
        refine aY rfl (fun h33 => ?_) (fun h33 => ?_)
        · refine aH (aB ?_)
          refine aA (aE (.bool false) rfl) rfl rfl ?_
          refine aD (aF (aS ?_))
          refine qG ?_
          refine cN ?_
          refine tU ?_
          refine qG ?_
          refine cN ?_
          refine cG (.bool false) rfl ?_
          have hlf : ¬ wH xs key = true := fun h => (uW hb hq hqi).1 h k xb hxb (by omega) h33
          exact ⟨by rw [Bool.eq_false_iff.2 hlf], M6.below⟩
        · refine aP ?_
          refine dU ?_
          refine aF (aB ?_)
          refine aA (aC (.int _ _) rfl) rfl rfl ?_
          refine aA (bS rfl rfl (by omega) (by omega)) rfl rfl ?_
          refine aA (aE (.int _ _) rfl) rfl rfl ?_
          refine aD ?_
          refine cK (k + 1) (bX rfl fH) (cQ rfl (cQ rfl jF)) ?_ ?_
          · exact ⟨⟨by omega, oH (p := fun j c => j ≠ q → ¬ qU (dQ yb) (dQ c)) hno hxb (fun _ => h33)⟩, M6⟩
          · omega
      · refine D_s rfl rfl rfl ?_
        refine D_s rfl rfl rfl ?_
        refine aCa rfl rfl rfl ?_
        refine aCa rfl rfl rfl ?_
        refine D_s rfl rfl rfl ?_
        refine D_s rfl rfl rfl ?_
        refine aCa rfl rfl rfl ?_
        refine aCa rfl rfl rfl ?_
        refine dM [false, false, true, true] rfl (by kernel_rfl) ?_
        refine aN rfl rfl ?_
        refine aD (aF ⟨(iQ (.inr ⟨rfl, rfl⟩) (iQ (.inr ⟨rfl, rfl⟩) cX)), ?_⟩)
        refine dM [true, true] rfl (by kernel_rfl) ?_
        refine aN rfl rfl ?_
        refine aD (aF ⟨cX, ?_⟩)
        refine dM [] rfl (by kernel_rfl) ?_
        refine aN rfl rfl ?_
        refine aD (aF ⟨cX, ?_⟩)
        refine aR rfl rfl rfl (fun _ => bI false (.bool false) rfl rfl) ?_
        refine cB ?_
        refine aF ?_
        refine cJ rfl ?_
        refine aP ?_
        refine dU ?_
        refine aF (aB ?_)
        refine aA (aC (.int _ _) rfl) rfl rfl ?_
        refine aA (bS rfl rfl (by omega) (by omega)) rfl rfl ?_
        refine aA (aE (.int _ _) rfl) rfl rfl ?_
        refine aD ?_
        refine cK (k + 1) (bX rfl fH) (cQ rfl (cQ rfl jF)) ?_ ?_
        · exact ⟨⟨by omega, oH (p := fun j c => j ≠ q → ¬ qU (dQ yb) (dQ c)) hno hxb (fun h => absurd h (by omega))⟩, M3⟩
        · omega
    · refine cR ?_
      refine dK ?_
      refine dH ?_
      refine fC ?_
      refine aF (aH (aB ?_))
      refine aA (aE (.bool true) rfl) rfl rfl ?_
      refine aD (aF (aS ?_))
      refine cG (.bool true) rfl ?_
      have hlt : wH xs key = true := (uW hb hq hqi).2 fun j c hj hne => hno j c (by have := (List.getElem?_eq_some_iff.1 hj).1; omega) hj hne
      exact ⟨by rw [hlt], hM2.below⟩
set_option maxHeartbeats 4000000 in
theorem aFs (w : World) (A : Option Addr) (n c : Nat) (xs : List Body) (R : Rd w 10 A n (xs.map aG)) :
    Calls Tryz.prog 14 #[.slice A n c] w (fun ex w' => ∃ v, ex = .returned v ∧ (fun v w' => ∃ r : Row, v = .tuple #[.slice r.A r.n r.c, .bool (decide (aTh xs))] ∧ aX 40 10 r.A r.n r.c ((dF xs).map aG) r.e ∧ Mem w [] [r.e] w') v w') := by
  have hlen : xs.length = n := by simpa using R.len
  have hbd := R.bound
  refine aK #[.tmp 2, .tmp 3] 17 Tryz.func14 rfl Tryz.results14 Tryz.ntmps14 rfl ?_
  have M0 := Mem.refl w
  refine aH (aB ?_)
  refine aA (aE (.slice _ _ _) rfl) rfl rfl ?_
  refine aA (aE (.bool false) rfl) rfl rfl ?_
  refine aD (aF (aH (aH (aB ?_))))
  refine aA (aC (.slice _ _ _) rfl) rfl rfl ?_
  refine aA (bV Tryz.underlying22 rfl) rfl rfl ?_
  refine aA (aO (.bool (decide _)) rfl rfl rfl) rfl rfl ?_
  refine aD (aF ?_)
  refine aY rfl (fun h8 => ?_) (fun h8 => ?_)
  · refine aH (aB ?_)
    refine aA (aE (.slice _ _ _) rfl) rfl rfl ?_
    refine aA (aE (.bool false) rfl) rfl rfl ?_
    refine aD (aF (aS (cN ?_)))
    refine fV (.slice _ _ _) (.bool false) rfl rfl ?_
    exact ⟨gW, sY rfl (bF (fun h => by have := h.1; omega)), by unfold dF; rw [if_pos (by omega)]; exact aX.nil _ _ _, M0.dummy default⟩
  · refine aP (aF (aH (aB ?_)))
    refine aA (aC (.slice _ _ _) rfl) rfl rfl ?_
    refine aL aYx rfl rfl rfl ?_
    refine (aEy _ _ _ _ xs (R.mem M0) (by omega)).mono ?_
    rintro _ w1 ⟨v1, rfl, ⟨A1, n1, c1, e1, rfl, hR1, hM1⟩⟩
    refine ⟨_, rfl, ?_⟩
    have M1 : Mem _ _ [_] _ := M0.call0 hM1
    refine aA (aC (.tuple (List.toArray _)) rfl) rfl rfl ?_
    refine aA (bB (.slice _ _ _) rfl rfl) rfl rfl ?_
    refine aA (bB (.int _ _) rfl rfl) rfl rfl ?_
    refine aA (aE (.slice _ _ _) rfl) rfl rfl ?_
    refine aA (aE (.int _ _) rfl) rfl rfl ?_
    refine aD (aF (aH (aB ?_)))
    refine aA (aC (.slice _ _ _) rfl) rfl rfl ?_
    refine aA (aC (.int _ _) rfl) rfl rfl ?_
    refine aA (aO (.bool (decide _)) rfl rfl rfl) rfl rfl ?_
    refine aA (aE (.slice _ _ _) rfl) rfl rfl ?_
    refine aA (aE (.bool (decide _)) rfl) rfl rfl ?_
    refine aD (aF (aS ?_))
    refine fV (.slice _ _ _) (.bool (decide _)) rfl rfl ?_
    exact ⟨⟨A1, n1, c1, e1⟩, sY rfl (bD ⟨fun h => ⟨by omega, h⟩, fun h => h.2⟩), by unfold dF; rw [if_neg (by omega)]; exact hR1, M1⟩
end Go.Proofs.YtlmcphcgiclanaaGreatDoor

namespace Go.Proofs.YtlmcphcgiclanaaGreatDoor
open Go.Bil
open Go.RowKit (Below)
open Go.Proofs
end Go.Proofs.YtlmcphcgiclanaaGreatDoor
