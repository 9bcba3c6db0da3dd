/- Part of the proof of the laws of this seat: P10, Q10, U11, V11, W11, Aw11. No conditions. -/
import Derived.Test.YtlmcphcgiclanaaGreatDoorK5
import Derived.Test.YtlmcphcgiclanaaGreatDoorK25
import Derived.Test.YtlmcphcgiclanaaGreatDoorK17
import Derived.Test.YtlmcphcgiclanaaGreatDoorK21
import Derived.Test.YtlmcphcgiclanaaGreatDoorK24
set_option linter.unusedVariables false
set_option linter.unusedSimpArgs false
set_option linter.unnecessarySimpa false
namespace Go.Proofs.YtlmcphcgiclanaaGreatDoor
open Go.Bil
open Go.RowKit (Below)
open Go.Proofs
set_option maxHeartbeats 4000000 in
theorem aLg (w : World) (a b : Int) :
    Calls Tryz.prog 167 #[.int .u32 a, .int .u32 b] w (fun ex w' => ∃ v, ex = .returned v ∧ (fun v w' => v = (.agg (bI (yP a b)).toArray) ∧ Below w.heap.size w w') v w') := by
  refine aJ #[.cell 4 119] 12 Tryz.func167 rfl Tryz.results167 Tryz.ntmps167 rfl ?_
  have M0 := Mem.refl w
  refine aG (aB ?_)
  refine aW pG M0 rfl rfl (fun b1 w1 M1 => ?_)
  refine aC (aF (aG (aB ?_)))
  refine aA (aD (.int _ _) rfl) rfl rfl ?_
  refine aA (aD (.int _ _) rfl) rfl rfl ?_
  refine aA (wY rfl rfl ) rfl rfl ?_
  refine aA (aD (.int _ _) rfl) rfl rfl ?_
  refine aA (aD (.int _ _) rfl) rfl rfl ?_
  refine aA (nE rfl rfl ) rfl rfl ?_
  refine aA (cN [(0, .int _ _), (1, .int _ _)] _ zX rfl rfl) rfl rfl ?_
  refine bH 0 _ fT M1 rfl rfl rfl rfl rfl (aY rfl) rfl (fun w2 M2 => ?_)
  refine aC (aF (aR ?_))
  refine iX 0 fT M2 rfl rfl rfl ?_
  exact ⟨rfl, M2.below⟩
set_option maxHeartbeats 4000000 in
theorem aWd (w : World) (A : Option Addr) (x y : Int) (R : Rd w 1 A 2 [[.int .i64 x], [.int .i64 y]]) :
    Calls Tryz.prog 197 #[.slice A 2 2] w (fun ex w' => ∃ v, ex = .returned v ∧ (fun v w' => v = .int .i64 (if x = 0 then y else x) ∧ w' = w) v w') := by
  refine aJ #[.tmp 2] 18 Tryz.func197 rfl Tryz.results197 Tryz.ntmps197 rfl ?_
  have M0 := Mem.refl w
  refine aG (aB ?_)
  refine aA (aE (.int _ _) rfl) rfl rfl ?_
  refine aC (aF (aG (aB ?_)))
  refine aA (aE (.int _ _) rfl) rfl rfl ?_
  refine aC (aF (aG (aG (aB ?_))))
  refine aA (aD (.slice _ _ _) rfl) rfl rfl ?_
  refine aA (cT Tryz.underlying302 rfl) rfl rfl ?_
  refine aM 7 (.int .i64 2) (iE rfl) ?_
  refine aA (aD (.int _ _) rfl) rfl rfl ?_
  refine aC (aF (aV ?_))
  refine lA 3 (gJ ?_)
  refine aG (aB ?_)
  refine aA (aP (.bool (decide _)) rfl rfl rfl) rfl rfl ?_
  refine aM 9 (.bool true) (bT (by first | decide | omega)).symm ?_
  refine aC (aF (aG ?_))
  refine cK rfl ?_
  refine aN (aF (aG (aV (aG (aB ?_)))))
  refine aA (bU (0) aTb rfl rfl rfl (R.below_len ((rfl : ([[.int .i64 x], [.int .i64 y]] : List (List Value))[0]? = some [.int .i64 x]))) (R.someK ((rfl : ([[.int .i64 x], [.int .i64 y]] : List (List Value))[0]? = some [.int .i64 x])))) rfl rfl ?_
  refine aA (iB (.int _ _) yB R ((rfl : ([[.int .i64 x], [.int .i64 y]] : List (List Value))[0]? = some [.int .i64 x])) rfl) rfl rfl ?_
  refine aA (aE (.int _ _) rfl) rfl rfl ?_
  refine aC (aF (aG (aB ?_)))
  refine aA (aD (.int _ _) rfl) rfl rfl ?_
  refine aA (aD (.int _ _) rfl) rfl rfl ?_
  refine aA (aP (.bool (decide _)) rfl rfl rfl) rfl rfl ?_
  refine aC (aF ?_)
  refine aZ rfl (fun h14 => ?_) (fun h14 => ?_)
  · refine aG (aB ?_)
    refine aA (aD (.int _ _) rfl) rfl rfl ?_
    refine aA (aE (.int _ _) rfl) rfl rfl ?_
    refine aC (aF (aR ?_))
    refine jW ?_
    refine cC (cC ?_)
    refine jW ?_
    refine cC ?_
    refine bY (.int _ _) rfl ?_
    exact ⟨iE (by split <;> omega), rfl⟩
  · refine aN ?_
    refine dB ?_
    refine aF (aB ?_)
    refine aA (bM rfl rfl (by first | decide | omega) (by first | decide | omega)) rfl rfl ?_
    refine aM 16 (.int .i64 1) (iE (by first | decide | omega)) ?_
    refine aA (aD (.int _ _) rfl) rfl rfl ?_
    refine aC ?_
    refine aF (gJ ?_)
    refine aG (aB ?_)
    refine aA (aP (.bool (decide _)) rfl rfl rfl) rfl rfl ?_
    refine aM 9 (.bool true) (bT (by first | decide | omega)).symm ?_
    refine aC (aF (aG ?_))
    refine cK rfl ?_
    refine aN (aF (aG (aV (aG (aB ?_)))))
    refine aA (bU (1) aTb rfl rfl rfl (R.below_len ((rfl : ([[.int .i64 x], [.int .i64 y]] : List (List Value))[1]? = some [.int .i64 y]))) (R.someK ((rfl : ([[.int .i64 x], [.int .i64 y]] : List (List Value))[1]? = some [.int .i64 y])))) rfl rfl ?_
    refine aA (iB (.int _ _) yB R ((rfl : ([[.int .i64 x], [.int .i64 y]] : List (List Value))[1]? = some [.int .i64 y])) rfl) rfl rfl ?_
    refine aA (aE (.int _ _) rfl) rfl rfl ?_
    refine aC (aF (aG (aB ?_)))
    refine aA (aD (.int _ _) rfl) rfl rfl ?_
    refine aA (aD (.int _ _) rfl) rfl rfl ?_
    refine aA (aP (.bool (decide _)) rfl rfl rfl) rfl rfl ?_
    refine aC (aF ?_)
    refine aZ rfl (fun h14 => ?_) (fun h14 => ?_)
    · refine aG (aB ?_)
      refine aA (aD (.int _ _) rfl) rfl rfl ?_
      refine aA (aE (.int _ _) rfl) rfl rfl ?_
      refine aC (aF (aR ?_))
      refine jW ?_
      refine cC (cC ?_)
      refine jW ?_
      refine cC ?_
      refine bY (.int _ _) rfl ?_
      exact ⟨iE (by split <;> omega), rfl⟩
    · refine aN ?_
      refine dB ?_
      refine aF (aB ?_)
      refine aA (bM rfl rfl (by first | decide | omega) (by first | decide | omega)) rfl rfl ?_
      refine aM 16 (.int .i64 2) (iE (by first | decide | omega)) ?_
      refine aA (aD (.int _ _) rfl) rfl rfl ?_
      refine aC ?_
      refine aF (gJ ?_)
      refine aG (aB ?_)
      refine aA (aP (.bool (decide _)) rfl rfl rfl) rfl rfl ?_
      refine aM 9 (.bool false) (bF (by first | decide | omega)).symm ?_
      refine aC (aF (aG ?_))
      refine cH rfl ?_
      refine cP ?_
      refine dA (dA ?_)
      refine eQ ?_
      refine aF (aG (aB ?_))
      refine aA (aD (.int _ _) rfl) rfl rfl ?_
      refine aA (aE (.int _ _) rfl) rfl rfl ?_
      refine aC (aF (aR ?_))
      refine bY (.int _ _) rfl ?_
      exact ⟨iE (by split <;> omega), rfl⟩
set_option maxHeartbeats 4000000 in
theorem aCu (a b : Int × Int) (w : World) :
    Calls Tryz.prog 170 #[(.agg (bI a).toArray), (.agg (bI b).toArray)] w (fun ex w' => ∃ v, ex = .returned v ∧ (fun v w' => v = .int .i64 (aNt a b) ∧ ∃ q os, w' = Go.Sort.grow (w.drewN q) os) v w') := by
  refine aJ #[.tmp 4] 17 Tryz.func170 rfl Tryz.results170 Tryz.ntmps170 rfl ?_
  have M0 := Mem.refl w
  refine aG (aB ?_)
  refine uZ (.agg (List.toArray _)) M0 rfl rfl rfl (fun M1 => ?_)
  refine uZ (.agg (List.toArray _)) M1 rfl rfl rfl (fun M2 => ?_)
  refine aA (aE (.int _ _) rfl) rfl rfl ?_
  refine aC (aF (aG ?_))
  refine aWb [(0, 0), (1, 1), (2, 0), (3, 1), (5, 0), (6, 1), (7, 0), (8, 1), (4, 2), (9, 2), (10, 2), (11, 2), (12, 0)] mixed rfl (by kernel_rfl) ?_
  have M3 := M2.drewE
  refine aU rfl rfl rfl (fun _ => aH 0 mQ rfl) ?_
  refine cB rfl rfl rfl (aQ 0 (.int _ _) bR M3 rfl rfl rfl) ?_
  refine aU rfl rfl rfl (fun _ => aH 0 mQ rfl) ?_
  refine cB rfl rfl rfl (aQ 1 (.int _ _) bR M3 rfl rfl rfl) ?_
  refine aU rfl rfl rfl (fun _ => aH 1 mR rfl) ?_
  refine cB rfl rfl rfl (aQ 0 (.int _ _) bR M3 rfl rfl rfl) ?_
  refine aU rfl rfl rfl (fun _ => aH 1 mR rfl) ?_
  refine cB rfl rfl rfl (aQ 1 (.int _ _) bR M3 rfl rfl rfl) ?_
  refine dU [false, false, true, true] rfl (by kernel_rfl) ?_
  refine aK aKt rfl rfl rfl ?_
  refine (jQ _ _ _).mono ?_
  rintro _ w4 ⟨v4, rfl, ⟨rfl, rfl⟩⟩
  refine ⟨_, rfl, ?_⟩
  have M4 : Mem _ _ [_, _] _ := M3
  refine aC (aF ⟨(eS (bQ rfl (aQ 1 (.int _ _) bR M4 rfl rfl rfl)) (eS (bQ rfl (aQ 0 (.int _ _) bR M4 rfl rfl rfl)) dV)), ?_⟩)
  refine dU [true, true] rfl (by kernel_rfl) ?_
  refine aK aKt rfl rfl rfl ?_
  refine (jQ _ _ _).mono ?_
  rintro _ w5 ⟨v5, rfl, ⟨rfl, rfl⟩⟩
  refine ⟨_, rfl, ?_⟩
  have M5 : Mem _ _ [_, _] _ := M4
  refine aC (aF ⟨dV, ?_⟩)
  refine dU [] rfl (by kernel_rfl) ?_
  refine aHz [.int _ _, .int _ _] [[.int .i64 (kW a.1 b.1)], [.int .i64 (kW a.2 b.2)]] rfl aTb M5 rfl rfl rfl rfl (cW rfl) (by decide) (fun M6 => ?_)
  refine aC (aF ⟨dV, ?_⟩)
  refine dU [] rfl (by kernel_rfl) ?_
  refine aK bBo rfl rfl rfl ?_
  refine (aWd _ _ _ _ ((jK (T := 3) [[.int .i64 (kW a.1 b.1)], [.int .i64 (kW a.2 b.2)]] (by simp) rfl (show 2 ≤ 281474976710656 by decide)).rd M6 (bB (i := 2) rfl))).mono ?_
  rintro _ w7 ⟨v7, rfl, ⟨rfl, rfl⟩⟩
  refine ⟨_, rfl, ?_⟩
  have M7 : Mem _ _ [_, _, _] _ := M6
  refine aC (aF ⟨dV, ?_⟩)
  refine aU rfl rfl rfl (fun _ => aE (.int _ _) rfl) ?_
  refine cF ?_
  refine aF (aR ?_)
  refine bY (.int _ _) rfl ?_
  exact ⟨iE rfl, bDc _ _ _ _⟩
theorem aQg : aJv Tryz.prog 170 bI aNt := fun x y w => aCu x y w
theorem aPo : KeyT Tryz.prog 230 119 231 bI := by
  refine ⟨Tryz.underlying230, ⟨_, Tryz.underlying119⟩, fun a w => ?_, fun a b w => ?_, fun a => by simp [bI, Instr.sameBits]⟩
  · have h42 := bC (w := w) Tryz.underlying119
    have hc : ∀ x : Int, (Instr.checkKey false 9999 36 (.int .u32 x)).run Tryz.prog w = .ok () w := fun x => MapKept.run_checkKey (d := .int .u32) Tryz.underlying36 (by simp [MapKept.IsKey]) false 9998
    have p0 : (Go.part 36 #[.int .u32 a.1, .int .u32 a.2] 0).run Tryz.prog w = .ok (.int .u32 a.1) w := iY (l := [.int .u32 a.1, .int .u32 a.2]) bR rfl
    have p1 : (Go.part 36 #[.int .u32 a.1, .int .u32 a.2] 1).run Tryz.prog w = .ok (.int .u32 a.2) w := iY (l := [.int .u32 a.1, .int .u32 a.2]) bR rfl
    show (Instr.checkKey false (9999 + 1) 119 _).run _ w = _
    unfold Instr.checkKey
    simp only [Sem.run_bind, h42, Result.andThen_ok, bI]
    simp [p0, p1, hc, Sem.run_bind, Sem.run_pure]
  · have h := (bAu a.1 a.2 b.1 b.2).2 w
    have e : decide (a.1 = b.1 ∧ a.2 = b.2) = decide (a = b) := decide_eq_decide.2 Prod.ext_iff.symm
    rw [e] at h
    exact h
theorem vK (w : World) (A : Option Addr) (n c : Nat) (xs : List (Int × Int)) (e : dP) (hR : bA 119 2 A n c (xs.map bI) e) (hw : Own [e] w) (hn : n ≤ 1099511627776) :
    Calls Tryz.prog 195 #[.slice A n c, .func (.func 170) #[] #[]] w (fun ex w' => ∃ v, ex = .returned v ∧ v = .tuple #[] ∧ ∃ (ys : List (Int × Int)) (e' : dP), ys.Perm xs ∧ (ys.Pairwise fun a b => ¬ ltP b a) ∧ bA 119 2 A n c (ys.map bI) e' ∧ Mem w (bX [e]) [e'] w') := by
  have h := pQ aMq (T := 119) fT bI yT (fun x v hv => by simp only [bI, List.mem_cons, List.not_mem_nil, or_false] at hv; rcases hv with h | h <;> subst h <;> rfl) _ aPm 170 aYr aQg w A xs e hR hw (by omega)
  refine Calls.mono h ?_
  rintro ex w' ⟨v, h1, h2, ys, e', h3, h4, h5, h6⟩
  refine ⟨v, h1, h2, ys, e', h3, ?_, h5, h6⟩
  refine List.pairwise_iff_getElem.2 fun i j hi hj hij => ?_
  have := h4 i j _ _ hij (List.getElem?_eq_getElem hi) (List.getElem?_eq_getElem hj)
  have h := of_decide_eq_false this
  rwa [aFh] at h
set_option maxHeartbeats 4000000 in
theorem aHu (w : World) (mb : Nat) :
    Calls Tryz.prog 169 #[.map (some mb)] w (fun ex w' => ∃ v, ex = .returned v ∧ (fun v w' => ∃ bb, v = .func (.func 196) #[] #[.pointer (some ⟨bb, 0, none⟩)] ∧ Mem w [] [(some bb, bc [.map (some mb)] 230)] w') v w') := by
  refine aJ #[.tmp 2] 4 Tryz.func169 rfl Tryz.results169 Tryz.ntmps169 rfl ?_
  have M0 := Mem.refl w
  refine aG (aB ?_)
  refine bL (.map _) M0 rfl rfl rfl (fun b1 w1 M1 => ?_)
  refine aA (aE (_) rfl) rfl rfl ?_
  refine aC (aF (aG (aB ?_)))
  refine aA (cQ [] [.pointer _] rfl rfl) rfl rfl ?_
  refine aA (aE (.func _ _ _) rfl) rfl rfl ?_
  refine aC (aF (aR ?_))
  refine bY (.func _ _ _) rfl ?_
  exact ⟨b1, rfl, M1⟩
set_option maxHeartbeats 4000000 in
theorem aEl (w : World) (bb : Nat) (mb clock : Nat) (L : List ((Int × Int) × Nat)) (hmb : w.heap[mb]? = some (gT bI L clock)) (hml : mb < w.heap.size) (hS : SetOk L clock) (hLN : L.length < 1099511627776) (B1 : Rd w 1 (some ⟨bb, 0, none⟩) 1 [[.map (some mb)]]) (lp ob : Nat) (rec : Loop) (hY : rX Tryz.prog lp ob rec 159 119 2 1099511627776 (fun x => ∃ a b, x = [.int .u32 a, .int .u32 b])) (r0 : Row) (hr0 : bA 119 2 r0.A r0.n r0.c [] r0.e) (hO : Own [(some lp, .loop rec), (some ob, bc [.slice r0.A r0.n r0.c] 159), r0.e] w) (hd1 : 0 < 1 → ∀ q off, (some ⟨bb, 0, none⟩ : Option Addr) = some ⟨q, off, none⟩ → q ∉ bX [(some lp, .loop rec), (some ob, bc [.slice r0.A r0.n r0.c] 159), r0.e]) (hmX : mb ∉ bX [(some lp, .loop rec), (some ob, bc [.slice r0.A r0.n r0.c] 159), r0.e]) :
    Calls Tryz.prog 196 #[.func (.yield lp) #[] #[], .pointer (some ⟨bb, 0, none⟩)] w (fun ex w' => ∃ v, ex = .returned v ∧ (fun v w' => v = .tuple #[] ∧ ∃ (r : Row) (T : List ((Int × Int) × Nat)), T.Perm L ∧ bA 119 2 r.A r.n r.c ((T.map (fun z => z.1)).map bI) r.e ∧ Mem w (bX [(some lp, .loop rec), (some ob, bc [.slice r0.A r0.n r0.c] 159), r0.e]) [(some lp, .loop rec), (some ob, bc [.slice r.A r.n r.c] 159), r.e] w') v w') := by
  rw [← eK bb]
  refine aJ #[] 14 Tryz.func196 rfl Tryz.results196 Tryz.ntmps196 rfl ?_
  have M0 := hO.mem
  refine aG (aB ?_)
  refine aA (eH (o := 0) (.map _) bBq (B1.memY M0 hd1) (show ([[.map (some mb)]] : List (List Value))[0]? = some ([.map (some mb)]) from rfl) rfl rfl) rfl rfl ?_
  refine aQp (α := Int × Int) Tryz.underlying230 M0 rfl rfl rfl ((M0.old mb hml hmX).trans hmb) (fun b1 w1 M1 => ?_)
  refine aC (aF (aV ?_))
  refine dK (σ := List ((Int × Int) × Nat) × Row) [0, 5] (fun (T, r) => []) (fun (T, r) w' => ((∀ p ∈ T, p ∈ L) ∧ (T.map (·.2)).Nodup ∧ bA 119 2 r.A r.n r.c ((T.map (fun z => z.1)).map bI) r.e) ∧ Mem w (bX [(some lp, .loop rec), (some ob, bc [.slice r0.A r0.n r0.c] 159), r0.e]) [(some lp, .loop rec), (some ob, bc [.slice r.A r.n r.c] 159), r.e, (some b1, qW mb clock T)] w') (fun (T, r) => L.length - T.length) ([], r0) eO (⟨⟨(fun p hp => nomatch hp), by simp, hr0⟩, M1⟩) ?_
  rintro ⟨T, r⟩ ρ2 w2 ⟨⟨hTs, hTn, hr⟩, hM2⟩
  have hrl : T.length = r.n := by simpa using hr.1
  have hTl := aEj hTn hTs
  refine aG (aB ?_)
  refine aWa (enc := bI) 3 hM2 rfl rfl rfl rfl ((hM2.old mb hml hmX).trans hmb) hS.lt (fun hover => ?_) (fun p3 w3 hp3 hnp3 M3 => ?_)
  · refine aA (bG (.bool false) rfl rfl) rfl rfl ?_
    refine aC (aF (aG ?_))
    refine cH rfl ?_
    refine cP ?_
    refine dA ?_
    refine cZ ?_
    refine eQ ?_
    refine iD ?_
    exact ⟨rfl, r, T, aOx hS.nd hTn hTs hover, hr, hM2.keep [true, true, true, false]⟩
  · refine aA (bG (.bool true) rfl rfl) rfl rfl ?_
    refine aC (aF (aG ?_))
    refine cK rfl ?_
    refine aN (aF (aV (aG (aB ?_))))
    refine aA (aUl (enc := bI) 3 (p3) M3 rfl rfl ((M3.old mb hml hmX).trans hmb) hp3 hS.nd) rfl rfl ?_
    refine aA (bG (.agg (List.toArray _)) rfl rfl) rfl rfl ?_
    refine aW pG M3 rfl rfl (fun b4 w4 M4 => ?_)
    refine bH 4 _ fT M4 rfl rfl rfl rfl rfl (aY rfl) rfl (fun w5 M5 => ?_)
    refine aC (aF (aG ?_))
    refine aAz ?_
    refine aAd (aD (.func _ _ _) rfl) rfl rfl ?_
    refine aAd (bE 4 fT M5 rfl rfl rfl) rfl rfl ?_
    obtain ⟨fy, ty, ay, by1, hy1, hy2⟩ := hY _ r ((T.map (fun z => z.1)).map bI) (bI p3.1) ⟨_, _, rfl⟩ (by omega) hr (M5.ownSeg 0 3)
    refine aBa rfl rfl rfl rfl hy1 (hy2.mono ?_)
    rintro _ w6 ⟨rfl, q6, hqn6, hq6, hM6⟩
    have M6 : Mem _ _ [_, _, _, _, _] _ := M5.seg 0 3 hM6
    refine ⟨_, rfl, ?_⟩
    refine aQb rfl (fun _ _ h => h) ?_
    refine aA (iZ false rfl rfl) rfl rfl ?_
    refine aC (aF ?_)
    refine cH rfl ?_
    refine aN ?_
    refine dB ?_
    have hTs2 : ∀ p ∈ T ++ [p3], p ∈ L := fun p hp => (List.mem_append.1 hp).elim (hTs p) (fun h => by rw [List.mem_singleton] at h; rw [h]; exact hp3)
    have hTn2 := aMd hTn hnp3
    have hTl2 := aEj hTn2 hTs2
    rw [List.length_append, List.length_singleton] at hTl2
    refine cO (T ++ [p3], q6) eO (cS rfl (cS rfl jB)) ?_ ?_
    · exact ⟨⟨hTs2, hTn2, by rw [List.map_append, List.map_append]; exact hq6⟩, M6.keep [true, true, true, true, false]⟩
    · (show L.length - (T ++ [p3]).length < L.length - T.length; rw [List.length_append, List.length_singleton]; omega)
set_option maxHeartbeats 4000000 in
theorem rN (w : World) (bb : Nat) (mb clock : Nat) (L : List ((Int × Int) × Nat)) (hmb : w.heap[mb]? = some (gT bI L clock)) (hml : mb < w.heap.size) (hS : SetOk L clock) (hLN : L.length < 1099511627776) (B1 : Rd w 1 (some ⟨bb, 0, none⟩) 1 [[.map (some mb)]]) :
    Calls Tryz.prog 218 #[.slice none 0 0, .func (.func 196) #[] #[.pointer (some ⟨bb, 0, none⟩)]] w (fun ex w' => ∃ v, ex = .returned v ∧ (fun v w' => ∃ (r : Row) (T : List ((Int × Int) × Nat)), T.Perm L ∧ v = .slice r.A r.n r.c ∧ bA 119 2 r.A r.n r.c ((T.map (fun z => z.1)).map bI) r.e ∧ Mem w [] [r.e] w') v w') := by
  refine tR #[.tmp 4] 13 Tryz.func218 rfl Tryz.results218 Tryz.ntmps218 rfl ?_
  have M0 := Mem.refl w
  refine nJ ?_
  refine lJ ?_
  refine bL (.slice _ _ _) M0 rfl rfl rfl (fun b1 w1 M1 => ?_)
  refine aA (aE (.slice _ _ _) rfl) rfl rfl ?_
  refine aC ?_
  refine mU ?_
  refine nJ ?_
  refine nJ ?_
  refine lJ ?_
  refine aA (aD (.func _ _ _) rfl) rfl rfl ?_
  refine aC ?_
  refine mU ?_
  refine aFt ?_
  have M2 : Mem _ _ [_, _] _ := M1.dummy default
  refine aFc aZk M2 rfl (fun fnn B lp tmps w1 hρ hn M1 => ?_)
  refine xE (P := Tryz.prog) (ob := b1) (Tsl := 159) (Te := 119) (sz := 2) (N := 1099511627776) (ok := (fun x => ∃ a b, x = [.int .u32 a, .int .u32 b])) M1 ?_ (fun hY => ?_)
  · intro wr r ls x hok hlt hrow hO
    obtain ⟨xa, xb, rfl⟩ := hok
    refine ⟨_, _, _, _, aEb hO rfl rfl rfl hn (by decide) hρ ?_⟩
    have MR0 := hO.mem
    refine oY rfl (fun _ _ h => nomatch h.1) ?_
    refine aW pG MR0 rfl rfl (fun b3 w3 M3 => ?_)
    refine bH 3 _ fT M3 rfl rfl rfl rfl rfl (aY rfl) rfl (fun w4 M4 => ?_)
    refine aC ?_
    refine ⟨rfl, _, M4, rfl, fun w5 M5 => ?_⟩
    refine aEu ?_
    refine oY rfl (fun _ _ h => nomatch h.1) ?_
    refine aA (aQ 1 (.slice _ _ _) aGy M5 rfl rfl rfl) rfl rfl ?_
    refine aA (bE 3 fT M5 rfl rfl rfl) rfl rfl ?_
    refine cR [.agg (List.toArray _)] [[.int .u32 xa, .int .u32 xb]] rfl rW M5 rfl rfl rfl rfl (cW rfl) (by decide) (fun b6 w6 M6 => ?_)
    refine dL 2 [[.int .u32 xa, .int .u32 xb]] rW M6 rfl rfl rfl rfl rfl hrow rfl (by simp [Go.Bil.one]) (cX.ofMem 4 M6 rfl) (by omega) (fun A7 c7 e7 w7 M7 hR7 => ?_)
    refine dX 1 (.slice _ _ _) aGy M7 rfl rfl rfl rfl rfl rfl (fun w8 M8 => ?_)
    refine aC ?_
    refine dB ?_
    refine ⟨rfl, _, M8, rfl, fun w9 M9 => ?_⟩
    exact ⟨⟨A7, r.n + 1, c7, e7⟩, rfl, hR7, M9.keep [true, true, true, false, false]⟩
  · refine (aEl _ bb mb clock L ((M1.old mb hml List.not_mem_nil).trans hmb) (Nat.lt_of_lt_of_le hml M1.size) hS hLN (B1.mem M1) lp b1 _ hY ⟨none, 0, 0, (none, default)⟩ (bA.nil _ _ _) (M1.ownSeg 0 3) (M1.away 0 3 B1 (fun _ q off _ h => by simp at h)) (M1.notNew 3 hml)).mono ?_
    rintro _ w5 ⟨v5, rfl, rfl, r, T, hT, hr, hM⟩
    have M5 : Mem _ _ (_ :: [_, _, _]) _ := M1.seg 0 3 hM
    refine ⟨_, rfl, _, M5, fun w6 M6 => ?_⟩
    refine aXz ?_
    refine mU ?_
    refine nJ ?_
    refine aAl ?_
    refine aJw (aQ 1 (.slice _ _ _) aGy M6 rfl rfl rfl) rfl rfl ?_
    refine aJw (aE (.slice _ _ _) rfl) rfl rfl ?_
    refine aKd ?_
    refine mU ?_
    refine aTi ?_
    refine aXo (i := 3) (.slice _ _ _) rfl M6 rfl (fun w9 M9 => ?_)
    exact ⟨r, T, hT, rfl, hr, M9.keep [false, false, true, false]⟩
set_option maxHeartbeats 4000000 in
theorem uK (w : World) (bb : Nat) (mb clock : Nat) (L : List ((Int × Int) × Nat)) (hmb : w.heap[mb]? = some (gT bI L clock)) (hml : mb < w.heap.size) (hS : SetOk L clock) (hLN : L.length < 1099511627776) (B1 : Rd w 1 (some ⟨bb, 0, none⟩) 1 [[.map (some mb)]]) :
    Calls Tryz.prog 194 #[.func (.func 196) #[] #[.pointer (some ⟨bb, 0, none⟩)]] w (fun ex w' => ∃ v, ex = .returned v ∧ (fun v w' => ∃ (r : Row) (T : List ((Int × Int) × Nat)), T.Perm L ∧ v = .slice r.A r.n r.c ∧ bA 119 2 r.A r.n r.c ((T.map (fun z => z.1)).map bI) r.e ∧ Mem w [] [r.e] w') v w') := by
  refine aJ #[.tmp 2] 5 Tryz.func194 rfl Tryz.results194 Tryz.ntmps194 rfl ?_
  have M0 := Mem.refl w
  refine aG (aB ?_)
  refine aA (aE (.slice _ _ _) rfl) rfl rfl ?_
  refine aC (aF (aG (aB ?_)))
  refine aA (aD (.func _ _ _) rfl) rfl rfl ?_
  refine aK aZy rfl rfl rfl ?_
  refine (rN _ bb mb clock L ((M0.old mb hml List.not_mem_nil).trans hmb) (Nat.lt_of_lt_of_le hml M0.size) hS hLN (B1.mem M0)).mono ?_
  rintro _ w1 ⟨v1, rfl, ⟨r, T, hT, rfl, hr, hM1⟩⟩
  refine ⟨_, rfl, ?_⟩
  have M1 : Mem _ _ [_] _ := M0.call0 hM1
  refine aA (aE (.slice _ _ _) rfl) rfl rfl ?_
  refine aC (aF (aR ?_))
  refine bY (.slice _ _ _) rfl ?_
  exact ⟨r, T, hT, rfl, hr, M1⟩
set_option maxHeartbeats 4000000 in
theorem qI (w : World) (bb : Nat) (mb clock : Nat) (L : List ((Int × Int) × Nat)) (hmb : w.heap[mb]? = some (gT bI L clock)) (hml : mb < w.heap.size) (hS : SetOk L clock) (hLN : L.length < 1099511627776) (B1 : Rd w 1 (some ⟨bb, 0, none⟩) 1 [[.map (some mb)]]) :
    Calls Tryz.prog 168 #[.func (.func 196) #[] #[.pointer (some ⟨bb, 0, none⟩)], .func (.func 170) #[] #[]] w (fun ex w' => ∃ v, ex = .returned v ∧ (fun v w' => ∃ (r : Row) (ys : List (Int × Int)), Asc ys ∧ (∀ z, z ∈ ys ↔ z ∈ L.map (·.1)) ∧ v = .slice r.A r.n r.c ∧ bA 119 2 r.A r.n r.c ((ys).map bI) r.e ∧ Mem w [] [r.e] w') v w') := by
  refine aJ #[.tmp 4] 12 Tryz.func168 rfl Tryz.results168 Tryz.ntmps168 rfl ?_
  have M0 := Mem.refl w
  refine aG (aB ?_)
  refine aA (aE (.slice _ _ _) rfl) rfl rfl ?_
  refine aC (aF (aG (aB ?_)))
  refine aA (aD (.func _ _ _) rfl) rfl rfl ?_
  refine aK aYu rfl rfl rfl ?_
  refine (uK _ bb mb clock L ((M0.old mb hml List.not_mem_nil).trans hmb) (Nat.lt_of_lt_of_le hml M0.size) hS hLN (B1.mem M0)).mono ?_
  rintro _ w1 ⟨v1, rfl, ⟨r, T, hT, rfl, hr, hM1⟩⟩
  refine ⟨_, rfl, ?_⟩
  have M1 : Mem _ _ [_] _ := M0.call0 hM1
  have hrl : T.length = r.n := by simpa using hr.1
  have hTL := hT.length_eq
  refine aA (aE (.slice _ _ _) rfl) rfl rfl ?_
  refine aC (aF (aG (aB ?_)))
  refine aA (aD (.slice _ _ _) rfl) rfl rfl ?_
  refine aA (aD (.func _ _ _) rfl) rfl rfl ?_
  refine aK aYm rfl rfl rfl ?_
  refine (vK _ _ _ _ (T.map (fun z => z.1)) _ hr (M1.ownAt (i := 0) rfl) (by omega)).mono ?_
  rintro _ w2 ⟨v2, rfl, ⟨rfl, ys, e2, hpp, huu, hR2, hM2⟩⟩
  refine ⟨_, rfl, ?_⟩
  have M2 : Mem _ _ [_] _ := M1.seg 0 1 hM2
  refine aC (aF (aG (aB ?_)))
  refine aA (aD (.slice _ _ _) rfl) rfl rfl ?_
  refine aA (aE (.slice _ _ _) rfl) rfl rfl ?_
  refine aC (aF (aR ?_))
  refine bY (.slice _ _ _) rfl ?_
  have hpl : ys.Perm (L.map (·.1)) := hpp.trans (hT.map _)
  exact ⟨⟨r.A, r.n, r.c, e2⟩, ys, bBb (hpl.nodup_iff.2 hS.keys) huu, fun z => hpl.mem_iff, rfl, hR2, M2⟩
end Go.Proofs.YtlmcphcgiclanaaGreatDoor

namespace Go.Proofs.YtlmcphcgiclanaaGreatDoor
open Go.Bil
open Go.RowKit (Below)
open Go.Proofs
set_option maxHeartbeats 16000000 in
theorem uN (w : World) (b : Nat) (rs : List Row) (cnt : Int) (g : Nat → List Int) (hlen : rs.length = 1024) (G : Rd w 1025 (some ⟨b, 0, none⟩) 1 [dD rs cnt]) (hrow : ∀ (j : Nat) (r : Row), rs[j]? = some r → Rd w 1 r.A r.n ((g j).map iH) ∧ r.n ≤ r.c) (ks : List Int) (hks : ∀ j, j < 1024 → ∀ x ∈ g j, x ∈ ks) (hkl : ks.length ≤ 65536) :
    Calls Tryz.prog 136 #[.pointer (some ⟨b, 0, none⟩)] w (fun ex w' => ∃ v, ex = .returned v ∧ (fun v w' => ∃ (r : Row) (ps : List (Int × Int)), Asc ps ∧ (∀ z, z ∈ ps ↔ z ∈ mO g 1024) ∧ v = .slice r.A r.n r.c ∧ bA 119 2 r.A r.n r.c ((ps).map bI) r.e ∧ Mem w [] [r.e] w') v w') := by
  rw [← eK b]
  refine aJ #[.tmp 2] 49 Tryz.func136 rfl Tryz.results136 Tryz.ntmps136 rfl ?_
  have M0 := Mem.refl w
  refine aG (aB ?_)
  refine aA (aE (.slice _ _ _) rfl) rfl rfl ?_
  refine aC (aF (aG (aG (aB ?_))))
  refine aA (aD (sB _ _) rfl) rfl rfl ?_
  refine aA (aFl Tryz.underlying222 (G.mem M0) (show ([dD rs cnt] : List (List Value))[0]? = some (dD rs cnt) from rfl) rfl) rfl rfl ?_
  refine aC (aF ?_)
  refine cH rfl ?_
  refine aN (aF (aG (aB ?_)))
  refine kZ M0 rfl rfl (fun b1 w1 M1 => ?_)
  refine aA (aE (.map _) rfl) rfl rfl ?_
  refine aC (aF (aG (aG (aB ?_))))
  refine aA (aD (sB _ _) rfl) rfl rfl ?_
  refine aA (aGd (G.mem M1) (Nat.lt_of_le_of_lt (Nat.zero_le _) ((G.mem M1).below_len (show ([dD rs cnt] : List (List Value))[0]? = some (dD rs cnt) from rfl))) rfl) rfl rfl ?_
  refine aA (bP 0 xL (G.mem M1) (Nat.lt_of_le_of_lt (Nat.zero_le _) ((G.mem M1).below_len (show ([dD rs cnt] : List (List Value))[0]? = some (dD rs cnt) from rfl))) rfl) rfl rfl ?_
  refine aA (vR (o := 0) (rs.map (fun r => Value.slice r.A r.n r.c)) aZu (G.mem M1) (show ([dD rs cnt] : List (List Value))[0]? = some (dD rs cnt) from rfl) rfl (aGm hlen) (by simp [hlen])) rfl rfl ?_
  refine aA (aD (.int _ _) rfl) rfl rfl ?_
  refine aC (aF (aV ?_))
  refine dK (σ := Nat × Nat × List ((Int × Int) × Nat)) [2, 3, 16] (fun (i, c0, L0) => [(17, .int .i64 (i : Int))]) (fun (i, c0, L0) w' => i ≤ 1024 ∧ (SetOk L0 c0 ∧ ∀ z, z ∈ L0.map (fun z => z.1) ↔ z ∈ mO g i) ∧ Mem w [] [(some b1, gT bI L0 c0)] w') (fun (i, c0, L0) => 1024 - i) (0, 0, []) (bK rfl eO) (⟨by omega, ⟨SetOk.nil, fun z => by simp [mO]⟩, M1⟩) ?_
  rintro ⟨i, c0, L0⟩ ρ2 w2 ⟨hi, ⟨hS0, hI0⟩, hM2⟩
  refine aG (aB ?_)
  refine aA (aP (.bool (decide _)) rfl rfl rfl) rfl rfl ?_
  refine aC (aF (aG ?_))
  refine aZ rfl (fun h18 => ?_) (fun h18 => ?_)
  · obtain ⟨rj, hrj⟩ := cL (xs := rs) (k := i) hlen (by omega)
    obtain ⟨Rj, hcj⟩ := hrow i rj hrj
    have hlj : (g i).length = rj.n := by simpa using Rj.len
    have hbj := Rj.bound
    refine aN (aF (aG (aV (aG (aB ?_)))))
    refine aA (sQ (i) (.slice rj.A rj.n rj.c) aGr aCa rfl rfl (by omega) (by omega) rfl (by rw [kC]; exact aL _ hrj)) rfl rfl ?_
    refine aA (aE (.slice _ _ _) rfl) rfl rfl ?_
    refine aC (aF (aG (aB ?_)))
    refine aA (aD (.slice _ _ _) rfl) rfl rfl ?_
    refine aA (cT Tryz.underlying188 rfl) rfl rfl ?_
    refine aA (aD (.int _ _) rfl) rfl rfl ?_
    refine aC (aF (aV ?_))
    refine dK (σ := Nat × Nat × List ((Int × Int) × Nat)) [2, 3, 5, 16, 17, 20, 21] (fun (p, c2, L2) => [(22, .int .i64 (p : Int))]) (fun (p, c2, L2) w' => p ≤ rj.n ∧ (SetOk L2 c2 ∧ ∀ z, z ∈ L2.map (fun z => z.1) ↔ z ∈ mO g i ++ tE (g i) p) ∧ Mem w [] [(some b1, gT bI L2 c2)] w') (fun (p, c2, L2) => rj.n - p) (0, c0, L0) (bK rfl eO) (⟨by omega, ⟨hS0, fun z => by rw [hI0 z]; simp [tE]⟩, hM2⟩) ?_
    rintro ⟨p, c2, L2⟩ ρ3 w3 ⟨hp, ⟨hS2, hI2⟩, hM3⟩
    refine aG (aB ?_)
    refine aA (aP (.bool (decide _)) rfl rfl rfl) rfl rfl ?_
    refine aC (aF (aG ?_))
    refine aZ rfl (fun h23 => ?_) (fun h23 => ?_)
    · obtain ⟨xa, hxa⟩ := cL (xs := g i) (k := p) hlj (by omega)
      refine aN (aF (aG (aV (aG (aB ?_)))))
      refine aA (aD (.int _ _) rfl) rfl rfl ?_
      refine aA (bU (p) aGa rfl rfl rfl ((Rj.mem hM3).below_len (aL iH hxa)) ((Rj.mem hM3).someK (aL iH hxa))) rfl rfl ?_
      refine aA (iB (.int _ _) bR (Rj.mem hM3) (aL iH hxa) rfl) rfl rfl ?_
      refine aA (aE (.int _ _) rfl) rfl rfl ?_
      refine aA (aE (.int _ _) rfl) rfl rfl ?_
      refine aC (aF (aG (aB ?_)))
      refine aA (aD (.slice _ _ _) rfl) rfl rfl ?_
      refine aA (aD (.int _ _) rfl) rfl rfl ?_
      refine aA (fM (0) ((p : Int)) aGa rfl rfl ⟨_, rfl⟩ (by decide) (by omega) (by omega)) rfl rfl ?_
      refine aA (cT Tryz.underlying188 rfl) rfl rfl ?_
      refine aA (aD (.int _ _) rfl) rfl rfl ?_
      refine aC (aF (aV ?_))
      refine dK (σ := Nat × Nat × List ((Int × Int) × Nat)) [2, 3, 5, 7, 16, 17, 20, 21, 22, 29, 30] (fun (q, c4, L4) => [(31, .int .i64 (q : Int))]) (fun (q, c4, L4) w' => q ≤ p ∧ (SetOk L4 c4 ∧ ∀ z, z ∈ L4.map (fun z => z.1) ↔ z ∈ (mO g i ++ tE (g i) p) ++ uF xa ((g i).take q)) ∧ Mem w [] [(some b1, gT bI L4 c4)] w') (fun (q, c4, L4) => p - q) (0, c2, L2) (bK rfl eO) (⟨by omega, ⟨hS2, fun z => by rw [hI2 z]; simp [uF]⟩, hM3⟩) ?_
      rintro ⟨q, c4, L4⟩ ρ4 w4 ⟨hq, ⟨hS4, hI4⟩, hM4⟩
      refine aG (aB ?_)
      refine aA (aP (.bool (decide _)) rfl rfl rfl) rfl rfl ?_
      refine aC (aF (aG ?_))
      refine aZ rfl (fun h32 => ?_) (fun h32 => ?_)
      · obtain ⟨xb, hxb⟩ := cL (xs := g i) (k := q) hlj (by omega)
        refine aN (aF (aG (aV (aG (aB ?_)))))
        refine aA (bU (q) aGa rfl rfl rfl (((Rj.mem hM4).sub 0 p (by omega) (by omega) hcj).below_len (vS hxb (by omega))) (((Rj.mem hM4).sub 0 p (by omega) (by omega) hcj).someK (vS hxb (by omega)))) rfl rfl ?_
        refine aA (iB (.int _ _) bR ((Rj.mem hM4).sub 0 p (by omega) (by omega) hcj) (vS hxb (by omega)) rfl) rfl rfl ?_
        refine aA (aE (.int _ _) rfl) rfl rfl ?_
        refine aC (aF (aG (aB ?_)))
        refine aA (aD (.int _ _) rfl) rfl rfl ?_
        refine aA (aD (.int _ _) rfl) rfl rfl ?_
        refine aA (aP (.bool (decide _)) rfl rfl rfl) rfl rfl ?_
        refine aC (aF ?_)
        refine aZ rfl (fun h37 => ?_) (fun h37 => ?_)
        · refine aB ?_
          refine aA (aD (.map _) rfl) rfl rfl ?_
          refine aA (aD (.int _ _) rfl) rfl rfl ?_
          refine aA (aD (.int _ _) rfl) rfl rfl ?_
          refine aK aZi rfl rfl rfl ?_
          refine (aLg _ xa xb).mono ?_
          rintro _ w5 ⟨v5, rfl, ⟨rfl, hb5⟩⟩
          refine ⟨_, rfl, ?_⟩
          have M5 := hM4.callB hb5
          refine aA (cN [] _ aLs rfl rfl) rfl rfl ?_
          refine aNb (enc := bI) 0 (yP xa xb) aPo M5 rfl rfl hS4 rfl rfl rfl (fun L6 c6 w6 hS6 hZ6 hN6 M6 => ?_)
          refine aC ?_
          refine dB ?_
          refine aF (aB ?_)
          refine aA (bM rfl rfl (by omega) (by omega)) rfl rfl ?_
          refine aA (aD (.int _ _) rfl) rfl rfl ?_
          refine aC ?_
          refine cO (q + 1, c6, L6) (bK rfl eO) (cS rfl (cS rfl (cS rfl (cS rfl (cS rfl (cS rfl (cS rfl (cS rfl (cS rfl (cS rfl (cS rfl jB))))))))))) ?_ ?_
          · exact ⟨by omega, ⟨hS6, aMo hZ6 hI4 hxb h37⟩, M6⟩
          · (show p - (q + 1) < p - q; omega)
        · refine aN ?_
          refine dB ?_
          refine aF (aB ?_)
          refine aA (bM rfl rfl (by omega) (by omega)) rfl rfl ?_
          refine aA (aD (.int _ _) rfl) rfl rfl ?_
          refine aC ?_
          refine cO (q + 1, c4, L4) (bK rfl eO) (cS rfl (cS rfl (cS rfl (cS rfl (cS rfl (cS rfl (cS rfl (cS rfl (cS rfl (cS rfl (cS rfl jB))))))))))) ?_ ?_
          · exact ⟨by omega, ⟨hS4, aNe hI4 hxb h37⟩, hM4⟩
          · (show p - (q + 1) < p - q; omega)
      · have hqp : q = p := by omega
        refine cP ?_
        refine dA ?_
        refine cZ ?_
        refine eQ ?_
        refine dB ?_
        refine aF (aB ?_)
        refine aA (bM rfl rfl (by omega) (by omega)) rfl rfl ?_
        refine aA (aD (.int _ _) rfl) rfl rfl ?_
        refine aC ?_
        refine cO (p + 1, c4, L4) (bK rfl eO) (cS rfl (cS rfl (cS rfl (cS rfl (cS rfl (cS rfl (cS rfl jB))))))) ?_ ?_
        · exact ⟨by omega, ⟨hS4, fun z => by rw [hI4 z, aJk hxa, ← hqp, List.append_assoc]⟩, hM4⟩
        · (show rj.n - (p + 1) < rj.n - p; omega)
    · have hpn : p = rj.n := by omega
      refine cP ?_
      refine dA ?_
      refine cZ ?_
      refine eQ ?_
      refine dB ?_
      refine aF (aB ?_)
      refine aA (bM rfl rfl (by omega) (by omega)) rfl rfl ?_
      refine aA (aD (.int _ _) rfl) rfl rfl ?_
      refine aC ?_
      refine cO (i + 1, c2, L2) (bK rfl eO) (cS rfl (cS rfl (cS rfl jB))) ?_ ?_
      · exact ⟨by omega, ⟨hS2, fun z => by rw [hI2 z, aIh]; unfold aPj; rw [hlj, ← hpn]⟩, hM3⟩
      · (show 1024 - (i + 1) < 1024 - i; omega)
  · have hi' : i = 1024 := by omega
    rw [hi'] at hI0
    have hLb : (L0.map (fun z => z.1)).length ≤ (wC ks).length := wN hS0.keys (fun z hz => aLl hks ((hI0 z).1 hz))
    rw [List.length_map, aOa] at hLb
    have hkk : ks.length * ks.length ≤ 65536 * 65536 := Nat.mul_le_mul hkl hkl
    refine cP ?_
    refine dA ?_
    refine cZ ?_
    refine eQ ?_
    refine aF (aG (aB ?_))
    refine aA (aD (.map _) rfl) rfl rfl ?_
    refine aK bBk rfl rfl rfl ?_
    refine (aHu _ b1).mono ?_
    rintro _ w7 ⟨v7, rfl, ⟨bb, rfl, hM7⟩⟩
    refine ⟨_, rfl, ?_⟩
    have M7 : Mem _ _ [_, _] _ := hM2.call0 hM7
    refine aK bBr rfl rfl rfl ?_
    refine (qI _ bb b1 c0 L0 (M7.at_ (i := 0) rfl) (M7.lt List.mem_cons_self) hS0 (by omega) (lL 1 M7 rfl rfl)).mono ?_
    rintro _ w8 ⟨v8, rfl, ⟨r, ys, hasc, hys, rfl, hr, hM8⟩⟩
    refine ⟨_, rfl, ?_⟩
    have M8 : Mem _ _ [_, _, _] _ := M7.call0 hM8
    refine aA (aE (.slice _ _ _) rfl) rfl rfl ?_
    refine aC (aF (aR ?_))
    refine bY (.slice _ _ _) rfl ?_
    exact ⟨r, ys, hasc, fun z => (hys z).trans (hI0 z), rfl, hr, M8.keep [false, false, true]⟩
end Go.Proofs.YtlmcphcgiclanaaGreatDoor

namespace Go.Proofs.YtlmcphcgiclanaaGreatDoor
open Go.Bil
open Go.RowKit (Below)
open Go.Proofs
set_option maxHeartbeats 4000000 in
theorem aFq (w : World) (A : Option Addr) (n c : Nat) (xs : List Body) (R : Rd w 10 A n (xs.map aI)) (hb : ∀ b ∈ xs, Okb b) :
    Calls Tryz.prog 132 #[.slice A n c] w (fun ex w' => ∃ v, ex = .returned v ∧ (fun v w' => ∃ (pm : Nat) (em : dP), v = .map (some pm) ∧ iM .u32 pV (bxM xs) (some pm) em ∧ Mem w [] [em] w') v w') := by
  have hlen : xs.length = n := by simpa using R.len
  have hbd := R.bound
  refine aJ #[.tmp 2] 20 Tryz.func132 rfl Tryz.results132 Tryz.ntmps132 rfl ?_
  have M0 := Mem.refl w
  refine aG (aB ?_)
  refine aA (aE (.map _) rfl) rfl rfl ?_
  refine aC (aF (aG (aB ?_)))
  refine kZ M0 rfl rfl (fun b1 w1 M1 => ?_)
  refine aA (aE (.map _) rfl) rfl rfl ?_
  refine aC (aF (aG (aG (aB ?_))))
  refine aA (aD (.slice _ _ _) rfl) rfl rfl ?_
  refine aA (cT Tryz.underlying22 rfl) rfl rfl ?_
  refine aA (aD (.int _ _) rfl) rfl rfl ?_
  refine aC (aF (aV ?_))
  refine dK (σ := Nat × dP) [2, 3, 7, 8] (fun (k, em) => [(9, .int .i64 (k : Int))]) (fun (k, em) w' => (k ≤ n ∧ iM .u32 pV (bxM (xs.take k)) (some b1) em) ∧ Mem w [] [em] w') (fun (k, em) => n - k) (0, (some b1, .map #[] 0)) (bK rfl eO) (⟨⟨by omega, (iM.empty _ _ b1).congr (fun q => by rw [List.take_zero]; exact aVz q)⟩, M1⟩) ?_
  rintro ⟨k, em⟩ ρ2 w2 ⟨⟨hk, hme⟩, hM2⟩
  refine aG (aB ?_)
  refine aA (aP (.bool (decide _)) rfl rfl rfl) rfl rfl ?_
  refine aC (aF (aG ?_))
  refine aZ rfl (fun h10 => ?_) (fun h10 => ?_)
  · obtain ⟨xb, hxb⟩ := cL (k := k) hlen (by omega)
    refine aN (aF (aG (aV (aG (aB ?_)))))
    refine aA (bU (k) dO rfl rfl rfl ((R.mem hM2).below_len (aL aI hxb)) ((R.mem hM2).someK (aL aI hxb))) rfl rfl ?_
    refine aA (dS _ bO (R.mem hM2) (aL aI hxb) rfl) rfl rfl ?_
    refine aW gL hM2 rfl rfl (fun b3 w3 M3 => ?_)
    refine bH 1 _ bO M3 rfl rfl rfl rfl rfl (aY rfl) rfl (fun w4 M4 => ?_)
    refine aC (aF ?_)
    refine bS [(0, 0), (1, 0), (2, 1), (3, 1), (4, 2), (5, 2)] mixed rfl (by kernel_rfl) (fun w5 hb5 hh5 => ?_)
    have M5 := M4.drew hb5 hh5
    refine aU rfl rfl rfl (fun _ => aD (.map _) rfl) ?_
    refine aU rfl rfl rfl (fun _ => aH 0 dJ rfl) ?_
    refine cB rfl rfl rfl (aQ 1 (.int _ _) bR M5 rfl rfl rfl) ?_
    refine cB rfl rfl rfl (bE 1 bO M5 rfl rfl rfl) ?_
    refine dU [true, false] rfl (by kernel_rfl) ?_
    refine aK bAh rfl rfl rfl ?_
    refine (bBu _ xb (hb xb (List.mem_of_getElem? hxb))).mono ?_
    rintro _ w6 ⟨v6, rfl, ⟨rfl, hb6⟩⟩
    refine ⟨_, rfl, ?_⟩
    have M6 := M5.callB hb6
    refine aC (aF ⟨(eS (bQ rfl (aQ 1 (.int _ _) bR M6 rfl rfl rfl)) dV), ?_⟩)
    refine dU [true] rfl (by kernel_rfl) ?_
    refine gV (enc := pV) 0 aCt M6 rfl rfl hme rfl rfl rfl rfl (fun e7 w7 hm7 M7 => ?_)
    refine aC (aF ⟨dV, ?_⟩)
    refine cF ?_
    refine dB ?_
    refine aF (aB ?_)
    refine aA (bM rfl rfl (by omega) (by omega)) rfl rfl ?_
    refine aA (aD (.int _ _) rfl) rfl rfl ?_
    refine aC ?_
    refine cO (k + 1, e7) (bK rfl eO) (cS rfl (cS rfl (cS rfl (cS rfl jB)))) ?_ ?_
    · exact ⟨⟨by omega, hm7.congr (fun q => aRm hxb q)⟩, M7.keep [true, false]⟩
    · (show n - (k + 1) < n - k; omega)
  · have hkn : k = n := by omega
    rw [List.take_of_length_le (by omega)] at hme
    refine cP ?_
    refine dA ?_
    refine cZ ?_
    refine eQ ?_
    refine aF (aG (aB ?_))
    refine aA (aD (.map _) rfl) rfl rfl ?_
    refine aA (aE (.map _) rfl) rfl rfl ?_
    refine aC (aF (aR ?_))
    refine bY (.map _) rfl ?_
    exact ⟨_, _, rfl, hme, hM2⟩
set_option maxHeartbeats 4000000 in
theorem vW (w : World) (pm : Nat) :
    Calls Tryz.prog 134 #[.map (some pm)] w (fun ex w' => ∃ v, ex = .returned v ∧ (fun v w' => ∃ bm bn, v = .tuple #[.func (.func 163) #[] #[.pointer (some ⟨bn, 0, none⟩), .pointer (some ⟨bm, 0, none⟩)], .func (.func 165) #[] #[.pointer (some ⟨bn, 0, none⟩)]] ∧ Mem w [] [(some bm, bc [.map (some pm)] 186), (some bn, bc [.int .i64 0] 3)] w') v w') := by
  refine aJ #[.tmp 2, .tmp 3] 8 Tryz.func134 rfl Tryz.results134 Tryz.ntmps134 rfl ?_
  have M0 := Mem.refl w
  refine aG (aB ?_)
  refine bL (.map _) M0 rfl rfl rfl (fun b1 w1 M1 => ?_)
  refine aA (aE (_) rfl) rfl rfl ?_
  refine aA (aE (_) rfl) rfl rfl ?_
  refine aC (aF (aG (aB ?_)))
  refine aW bCm M1 rfl rfl (fun b2 w2 M2 => ?_)
  refine dX 1 (.int _ _) yB M2 rfl rfl rfl rfl rfl rfl (fun w3 M3 => ?_)
  refine aC (aF (aG (aB ?_)))
  refine aA (cQ [] [.pointer _, .pointer _] rfl rfl) rfl rfl ?_
  refine aA (aE (.func _ _ _) rfl) rfl rfl ?_
  refine aC (aF (aG (aB ?_)))
  refine aA (aD (.func _ _ _) rfl) rfl rfl ?_
  refine aA (cQ [] [.pointer _] rfl rfl) rfl rfl ?_
  refine aA (aE (.func _ _ _) rfl) rfl rfl ?_
  refine aA (aE (.func _ _ _) rfl) rfl rfl ?_
  refine aC (aF (aR ?_))
  refine fZ (.func _ _ _) (.func _ _ _) rfl rfl ?_
  exact ⟨b1, b2, rfl, M3⟩
set_option maxHeartbeats 4000000 in
theorem zB (w : World) (bn : Nat) (m : Int) (K : Rd w 1 (some ⟨bn, 0, none⟩) 1 [[.int .i64 m]]) :
    Calls Tryz.prog 165 #[.pointer (some ⟨bn, 0, none⟩)] w (fun ex w' => ∃ v, ex = .returned v ∧ (fun v w' => v = .int .i64 m ∧ Below w.heap.size w w') v w') := by
  rw [← eK bn]
  refine aJ #[.tmp 1] 3 Tryz.func165 rfl Tryz.results165 Tryz.ntmps165 rfl ?_
  have M0 := Mem.refl w
  refine aG (aB ?_)
  refine aA (aE (.int _ _) rfl) rfl rfl ?_
  refine aC (aF (aG (aB ?_)))
  refine aA (eH (o := 0) (.int _ _) yB (K.mem M0) (show ([[.int .i64 m]] : List (List Value))[0]? = some [.int .i64 m] from rfl) rfl rfl) rfl rfl ?_
  refine aA (aE (.int _ _) rfl) rfl rfl ?_
  refine aC (aF (aR ?_))
  refine bY (.int _ _) rfl ?_
  exact ⟨rfl, M0.below⟩
set_option maxHeartbeats 4000000 in
theorem tC (w : World) (z : Int × Int) (bn bm m : Nat) (f : Int → Option Bx) (pm : Nat) (em : dP) (hme : iM .u32 pV f (some pm) em) (B : Rd w 1 (some ⟨bm, 0, none⟩) 1 [[.map (some pm)]]) (N : Rd w 4 (some ⟨3, 0, none⟩) 1 [dI jA]) (hO : Own [(some bn, bc [.int .i64 (m : Int)] 3), em] w) (hdB : 0 < 1 → ∀ q off, (some ⟨bm, 0, none⟩ : Option Addr) = some ⟨q, off, none⟩ → q ∉ bX [(some bn, bc [.int .i64 (m : Int)] 3), em]) (hdN : 0 < 1 → ∀ q off, (some ⟨3, 0, none⟩ : Option Addr) = some ⟨q, off, none⟩ → q ∉ bX [(some bn, bc [.int .i64 (m : Int)] 3), em]) (hm : m ≤ 1125899906842624) :
    Calls Tryz.prog 163 #[(.agg (bI z).toArray), .pointer (some ⟨bn, 0, none⟩), .pointer (some ⟨bm, 0, none⟩)] w (fun ex w' => ∃ v, ex = .returned v ∧ (fun v w' => v = .bool (apB f z) ∧ Mem w (bX [(some bn, bc [.int .i64 (m : Int)] 3), em]) [(some bn, bc [.int .i64 ((m + 1 : Nat) : Int)] 3), em] w') v w') := by
  rw [← eK bm]
  refine aJ #[.tmp 4] 17 Tryz.func163 rfl Tryz.results163 Tryz.ntmps163 rfl ?_
  have M0 := hO.mem
  refine aG (aB ?_)
  refine bL (.agg (List.toArray _)) M0 rfl rfl rfl (fun b1 w1 M1 => ?_)
  refine aA (aE (.bool false) rfl) rfl rfl ?_
  refine aC (aF (aG (aB ?_)))
  refine aA (aQ 0 (.int _ _) yB M1 rfl rfl rfl) rfl rfl ?_
  refine aA (bM rfl rfl (by omega) (by omega)) rfl rfl ?_
  refine aM 6 (.int .i64 ((m + 1 : Nat) : Int)) (iE (by omega)) ?_
  refine dX 0 (.int _ _) yB M1 rfl rfl rfl rfl rfl rfl (fun w2 M2 => ?_)
  refine aC (aF (aG (aB ?_)))
  refine aA (eH (o := 0) (.map _) aTd (B.memY M2 hdB) (show ([[.map (some pm)]] : List (List Value))[0]? = some ([.map (some pm)]) from rfl) rfl rfl) rfl rfl ?_
  refine aA (aH 0 mQ rfl) rfl rfl ?_
  refine aA (aQ 2 (.int _ _) bR M2 rfl rfl rfl) rfl rfl ?_
  refine aA (iR (enc := pV) z0B 1 aCt aPl M2 rfl hme rfl rfl) rfl rfl ?_
  refine aA (eH (o := 0) (.map _) aTd (B.memY M2 hdB) (show ([[.map (some pm)]] : List (List Value))[0]? = some ([.map (some pm)]) from rfl) rfl rfl) rfl rfl ?_
  refine aA (aH 1 mR rfl) rfl rfl ?_
  refine aA (aQ 2 (.int _ _) bR M2 rfl rfl rfl) rfl rfl ?_
  refine aA (iR (enc := pV) z0B 1 aCt aPl M2 rfl hme rfl rfl) rfl rfl ?_
  refine aK aYp rfl rfl rfl ?_
  refine (aEv _ (N.memY M2 hdN) ((f z.1).getD z0B) ((f z.2).getD z0B)).mono ?_
  rintro _ w3 ⟨v3, rfl, ⟨rfl, hb3⟩⟩
  refine ⟨_, rfl, ?_⟩
  have M3 := M2.callB hb3
  refine aA (lC rfl) rfl rfl ?_
  refine aA (aE (.bool (decide _)) rfl) rfl rfl ?_
  refine aC (aF (aR ?_))
  refine bY (.bool (decide _)) rfl ?_
  exact ⟨rfl, M3.keep [true, true, false]⟩
set_option maxHeartbeats 4000000 in
theorem rU (w : World) (A : Option Addr) (n c : Nat) (zs : List (Int × Int)) (R : Rd w 2 A n (zs.map bI)) (bn bm m : Nat) (f : Int → Option Bx) (pm : Nat) (em : dP) (hme : iM .u32 pV f (some pm) em) (B : Rd w 1 (some ⟨bm, 0, none⟩) 1 [[.map (some pm)]]) (N : Rd w 4 (some ⟨3, 0, none⟩) 1 [dI jA]) (hO : Own [(some bn, bc [.int .i64 (m : Int)] 3), em] w) (hdA : 0 < n → ∀ q off, A = some ⟨q, off, none⟩ → q ∉ bX [(some bn, bc [.int .i64 (m : Int)] 3), em]) (hdB : 0 < 1 → ∀ q off, (some ⟨bm, 0, none⟩ : Option Addr) = some ⟨q, off, none⟩ → q ∉ bX [(some bn, bc [.int .i64 (m : Int)] 3), em]) (hdN : 0 < 1 → ∀ q off, (some ⟨3, 0, none⟩ : Option Addr) = some ⟨q, off, none⟩ → q ∉ bX [(some bn, bc [.int .i64 (m : Int)] 3), em]) (hm : m + n ≤ 1125899906842624) (hn : n ≤ 1099511627776) :
    Calls Tryz.prog 166 #[.slice A n c, .func (.func 163) #[] #[.pointer (some ⟨bn, 0, none⟩), .pointer (some ⟨bm, 0, none⟩)]] w (fun ex w' => ∃ v, ex = .returned v ∧ (fun v w' => v = .int .i64 (if zs.findIdx (apB f) < n then (zs.findIdx (apB f) : Int) else -1) ∧ Mem w (bX [(some bn, bc [.int .i64 (m : Int)] 3), em]) [(some bn, bc [.int .i64 ((m + min n (zs.findIdx (apB f) + 1) : Nat) : Int)] 3), em] w') v w') := by
  have hlen : zs.length = n := by simpa using R.len
  refine aJ #[.tmp 4] 19 Tryz.func166 rfl Tryz.results166 Tryz.ntmps166 rfl ?_
  have M0 := hO.mem
  refine aG (aB ?_)
  refine aA (aE (.int _ _) rfl) rfl rfl ?_
  refine aC (aF (aG (aG (aB ?_))))
  refine aA (aD (.slice _ _ _) rfl) rfl rfl ?_
  refine aA (cT Tryz.underlying159 rfl) rfl rfl ?_
  refine aA (aD (.int _ _) rfl) rfl rfl ?_
  refine aC (aF (aV ?_))
  refine dK (σ := Nat) [0, 1, 7] (fun k => [(8, .int .i64 (k : Int))]) (fun k w' => (k ≤ n ∧ ∀ (j : Nat) (x : Int × Int), j < k → zs[j]? = some x → apB f x = false) ∧ Mem w (bX [(some bn, bc [.int .i64 (m : Int)] 3), em]) [(some bn, bc [.int .i64 ((m + k : Nat) : Int)] 3), em] w') (fun k => n - k) 0 (bK rfl eO) (⟨⟨by omega, fun j c hj => by omega⟩, M0⟩) ?_
  rintro k ρ1 w1 ⟨⟨hk, hno⟩, hM1⟩
  refine aG (aB ?_)
  refine aA (aP (.bool (decide _)) rfl rfl rfl) rfl rfl ?_
  refine aC (aF (aG ?_))
  refine aZ rfl (fun h9 => ?_) (fun h9 => ?_)
  · obtain ⟨xz, hxz⟩ := cL (k := k) hlen (by omega)
    refine aN (aF (aG (aV (aG (aB ?_)))))
    refine aA (aD (.int _ _) rfl) rfl rfl ?_
    refine aA (aE (.int _ _) rfl) rfl rfl ?_
    refine aC (aF (aG (aB ?_)))
    refine aA (aD (.func _ _ _) rfl) rfl rfl ?_
    refine aA (aD (.slice _ _ _) rfl) rfl rfl ?_
    refine aA (aD (.int _ _) rfl) rfl rfl ?_
    refine aA (bU (k) rW rfl rfl rfl ((R.memY hM1 hdA).below_len (aL bI hxz)) ((R.memY hM1 hdA).someK (aL bI hxz))) rfl rfl ?_
    refine aA (dS _ fT (R.memY hM1 hdA) (aL bI hxz) rfl) rfl rfl ?_
    refine aK aOs rfl rfl rfl ?_
    refine (tC _ xz bn bm (m + k) f pm em hme (B.memY hM1 hdB) (N.memY hM1 hdN) (hM1.ownSeg 0 2) hdB hdN (by omega)).mono ?_
    rintro _ w2 ⟨v2, rfl, ⟨rfl, hM2⟩⟩
    refine ⟨_, rfl, ?_⟩
    have M2 : Mem _ _ [_, _] _ := hM1.seg 0 2 hM2
    refine aC (aF ?_)
    refine gK _ rfl (fun h16 => ?_) (fun h16 => ?_)
    · refine aG (aB ?_)
      refine aA (aD (.int _ _) rfl) rfl rfl ?_
      refine aA (aE (.int _ _) rfl) rfl rfl ?_
      refine aC (aF (aR ?_))
      refine jW ?_
      refine cC ?_
      refine yD ?_
      refine jW ?_
      refine cC ?_
      refine bY (.int _ _) rfl ?_
      have hfi := xD hxz h16 hno
      exact ⟨iE (by rw [hfi, if_pos (by omega)]), by rw [hfi, Nat.min_eq_right (by omega)]; exact M2⟩
    · refine aN ?_
      refine dB ?_
      refine aF (aB ?_)
      refine aA (bM rfl rfl (by omega) (by omega)) rfl rfl ?_
      refine aA (aD (.int _ _) rfl) rfl rfl ?_
      refine aC ?_
      refine cO (k + 1) (bK rfl eO) (cS rfl (cS rfl (cS rfl jB))) ?_ ?_
      · exact ⟨⟨by omega, uY (p := fun _ x => apB f x = false) hno hxz h16⟩, M2⟩
      · omega
  · refine cP ?_
    refine dA ?_
    refine cZ ?_
    refine eQ ?_
    refine aF (aG (aB ?_))
    refine aA (aE (.int _ _) rfl) rfl rfl ?_
    refine aC (aF (aR ?_))
    refine bY (.int _ _) rfl ?_
    have hkn : k = n := by omega
    have hfi := yC (p := apB f) (l := zs) (fun j y hy => hno j y (by have := (List.getElem?_eq_some_iff.1 hy).1; omega) hy)
    exact ⟨iE (by rw [hfi, if_neg (by omega)]), by rw [hfi, Nat.min_eq_left (by omega), ← hkn]; exact hM1⟩
set_option maxHeartbeats 16000000 in
theorem pZ (w : World) (A : Option Addr) (n c : Nat) (zs : List (Int × Int)) (er : dP) (hr : bA 119 2 A n c ((zs).map bI) er) (bn bm m : Nat) (f : Int → Option Bx) (pm : Nat) (em : dP) (hme : iM .u32 pV f (some pm) em) (B : Rd w 1 (some ⟨bm, 0, none⟩) 1 [[.map (some pm)]]) (N : Rd w 4 (some ⟨3, 0, none⟩) 1 [dI jA]) (hO : Own [er, (some bn, bc [.int .i64 (m : Int)] 3), em] w) (hdB : 0 < 1 → ∀ q off, (some ⟨bm, 0, none⟩ : Option Addr) = some ⟨q, off, none⟩ → q ∉ bX [er, (some bn, bc [.int .i64 (m : Int)] 3), em]) (hdN : 0 < 1 → ∀ q off, (some ⟨3, 0, none⟩ : Option Addr) = some ⟨q, off, none⟩ → q ∉ bX [er, (some bn, bc [.int .i64 (m : Int)] 3), em]) (hm : m + n ≤ 1125899906842624) (hn : n ≤ 1099511627776) :
    Calls Tryz.prog 135 #[.slice A n c, .func (.func 163) #[] #[.pointer (some ⟨bn, 0, none⟩), .pointer (some ⟨bm, 0, none⟩)]] w (fun ex w' => ∃ v, ex = .returned v ∧ (fun v w' => ∃ r : Row, v = .slice r.A r.n r.c ∧ bA 119 2 r.A r.n r.c ((zs.filter (fun z => !apB f z)).map bI) r.e ∧ Mem w (bX [er, (some bn, bc [.int .i64 (m : Int)] 3), em]) [r.e, (some bn, bc [.int .i64 ((m + n : Nat) : Int)] 3), em] w') v w') := by
  have hlen : zs.length = n := by simpa using hr.1
  have hcap := hr.slice
  refine aJ #[.tmp 4] 42 Tryz.func135 rfl Tryz.results135 Tryz.ntmps135 rfl ?_
  have M0 := hO.mem
  refine aG (aB ?_)
  refine aA (aE (.slice _ _ _) rfl) rfl rfl ?_
  refine aC (aF (aG (aB ?_)))
  refine aA (aD (.slice _ _ _) rfl) rfl rfl ?_
  refine aA (aD (.func _ _ _) rfl) rfl rfl ?_
  refine aK bAb rfl rfl rfl ?_
  refine (rU _ A n c zs (hr.rd M0 (bB (i := 0) rfl)) bn bm m f pm em hme (B.memY M0 hdB) (N.memY M0 hdN) (M0.ownSeg 1 2) (hr.apartTail M0) (M0.away 1 2 B hdB) (M0.away 1 2 N hdN) hm hn).mono ?_
  rintro _ w1 ⟨v1, rfl, ⟨rfl, hM1⟩⟩
  refine ⟨_, rfl, ?_⟩
  have M1 : Mem _ _ [_, _, _] _ := M0.seg 1 2 hM1
  refine aA (aE (.int _ _) rfl) rfl rfl ?_
  refine aC (aF (aG (aG (aB ?_))))
  refine aA (aD (.int _ _) rfl) rfl rfl ?_
  refine aA (aP (.bool (decide _)) rfl rfl rfl) rfl rfl ?_
  refine aC (aF ?_)
  refine aZ rfl (fun h12 => ?_) (fun h12 => ?_)
  · have hge : ¬ zs.findIdx (apB f) < n := fun h => by rw [if_pos h] at h12; omega
    refine aG (aB ?_)
    refine aA (aD (.slice _ _ _) rfl) rfl rfl ?_
    refine aA (aE (.slice _ _ _) rfl) rfl rfl ?_
    refine aC (aF (aR (cC ?_)))
    refine bY (.slice _ _ _) rfl ?_
    have e1 : m + min n (zs.findIdx (apB f) + 1) = m + n := by omega
    rw [e1] at M1
    exact ⟨⟨A, n, c, er⟩, rfl, by rw [aDx (by omega)]; exact hr, M1⟩
  · have hlt : zs.findIdx (apB f) < n := Decidable.by_contra fun h => h12 (if_neg h)
    refine aN (aF (aG (aG (aB ?_))))
    refine aA (aD (.int _ _) rfl) rfl rfl ?_
    refine aA (bM rfl rfl (by omega) (by omega)) rfl rfl ?_
    refine aM 15 (.int .i64 ((zs.findIdx (apB f) + 1 : Nat) : Int)) (iE (by rw [if_pos hlt]; omega)) ?_
    refine aA (aE (.int _ _) rfl) rfl rfl ?_
    refine aC (aF (aV ?_))
    refine dK (σ := Nat × Nat × List (Int × Int) × dP) [0, 1, 4] (fun (j, k, zs2, en) => [(5, .int .i64 (k : Int)), (6, .int .i64 (j : Int))]) (fun (j, k, zs2, en) w' => (j ≤ n ∧ k < j ∧ zs2.take k = (zs.take j).filter (fun z => !apB f z) ∧ zs2.drop j = zs.drop j ∧ bA 119 2 A n c ((zs2).map bI) en) ∧ Mem w (bX [er, (some bn, bc [.int .i64 (m : Int)] 3), em]) [en, (some bn, bc [.int .i64 ((m + j : Nat) : Int)] 3), em] w') (fun (j, k, zs2, en) => n - j) (zs.findIdx (apB f) + 1, zs.findIdx (apB f), zs, er) (bK (iv rfl (if_pos hlt)) (bK rfl eO)) (⟨⟨by omega, by omega, aBu (by omega), rfl, hr⟩, by
      have e1 : min n (zs.findIdx (apB f) + 1) = zs.findIdx (apB f) + 1 := by omega
      rw [e1] at M1
      exact M1⟩) ?_
    rintro ⟨j, k, zs2, en⟩ ρ2 w2 ⟨⟨hj, hkj, hpre, hsuf, hz2⟩, hM2⟩
    have hl2 : zs2.length = n := by simpa using hz2.1
    refine aG (aG (aB ?_))
    refine aA (aD (.int _ _) rfl) rfl rfl ?_
    refine aA (aD (.slice _ _ _) rfl) rfl rfl ?_
    refine aA (cT Tryz.underlying159 rfl) rfl rfl ?_
    refine aA (aP (.bool (decide _)) rfl rfl rfl) rfl rfl ?_
    refine aC (aF ?_)
    refine aZ rfl (fun h19 => ?_) (fun h19 => ?_)
    · obtain ⟨xz, hxz⟩ := cL (k := j) hlen (by omega)
      have hxz2 : zs2[j]? = some xz := (aTt hsuf).trans hxz
      obtain ⟨xk, hxk⟩ := cL (k := k) hl2 (by omega)
      refine aN (aF (aG (aV (aG (aB ?_)))))
      refine aA (aD (.slice _ _ _) rfl) rfl rfl ?_
      refine aA (aD (.int _ _) rfl) rfl rfl ?_
      refine aA (bU (j) rW rfl rfl rfl ((hz2.rd hM2 (bB (i := 0) rfl)).below_len (aL bI hxz2)) ((hz2.rd hM2 (bB (i := 0) rfl)).someK (aL bI hxz2))) rfl rfl ?_
      refine aA (dS _ fT (hz2.rd hM2 (bB (i := 0) rfl)) (aL bI hxz2) rfl) rfl rfl ?_
      refine aW pG hM2 rfl rfl (fun b3 w3 M3 => ?_)
      refine bH 3 _ fT M3 rfl rfl rfl rfl rfl (aY rfl) rfl (fun w4 M4 => ?_)
      refine aC (aF (aG (aB ?_)))
      refine aA (aD (.func _ _ _) rfl) rfl rfl ?_
      refine aA (bE 3 fT M4 rfl rfl rfl) rfl rfl ?_
      refine aK aOs rfl rfl rfl ?_
      refine (tC _ xz bn bm (m + j) f pm em hme (B.memY M4 hdB) (N.memY M4 hdN) (M4.ownSeg 1 2) (M4.away 1 2 B hdB) (M4.away 1 2 N hdN) (by omega)).mono ?_
      rintro _ w5 ⟨v5, rfl, ⟨rfl, hM5⟩⟩
      refine ⟨_, rfl, ?_⟩
      have M5 : Mem _ _ [_, _, _, _] _ := M4.seg 1 2 hM5
      refine aA (iZ _ rfl rfl) rfl rfl ?_
      refine aC (aF ?_)
      refine gK _ rfl (fun h29 => ?_) (fun h29 => ?_)
      · refine aG (aB ?_)
        refine aA (aD (.slice _ _ _) rfl) rfl rfl ?_
        refine aA (aD (.int _ _) rfl) rfl rfl ?_
        refine aA (bE 3 fT M5 rfl rfl rfl) rfl rfl ?_
        refine aA (bU (k) rW rfl rfl rfl ((hz2.rd M5 (bB (i := 0) rfl)).below_len (aL bI hxk)) ((hz2.rd M5 (bB (i := 0) rfl)).someK (aL bI hxk))) rfl rfl ?_
        refine aCh 0 _ fT M5 rfl hz2 (aL bI hxk) rfl rfl rfl rfl (aY rfl) (fun e6 w6 hR6 M6 => ?_)
        have hQ6 := hR6.mapSet (f := bI) (x := xz) rfl
        refine aC (aF (aB ?_))
        refine aA (aD (.int _ _) rfl) rfl rfl ?_
        refine aA (bM rfl rfl (by omega) (by omega)) rfl rfl ?_
        refine aA (aE (.int _ _) rfl) rfl rfl ?_
        refine aC ?_
        refine dB ?_
        refine aF (aB ?_)
        refine aA (aD (.int _ _) rfl) rfl rfl ?_
        refine aA (bM rfl rfl (by omega) (by omega)) rfl rfl ?_
        refine aA (aE (.int _ _) rfl) rfl rfl ?_
        refine aC ?_
        refine cO (j + 1, k + 1, zs2.set k xz, e6) (bK rfl (bK rfl eO)) (cS rfl (cS rfl (cS rfl jB))) ?_ ?_
        · exact ⟨⟨by omega, by omega, by rw [aPy (by omega), hpre, tF hxz, if_neg (by simpa using h29)], by rw [aPv (by omega)]; exact aAi hsuf, hQ6⟩, M6.keep [true, true, true, false]⟩
        · (show n - (j + 1) < n - j; omega)
      · refine aN ?_
        refine dB ?_
        refine aF (aB ?_)
        refine aA (aD (.int _ _) rfl) rfl rfl ?_
        refine aA (bM rfl rfl (by omega) (by omega)) rfl rfl ?_
        refine aA (aE (.int _ _) rfl) rfl rfl ?_
        refine aC ?_
        refine cO (j + 1, k, zs2, en) (bK rfl (bK rfl eO)) (cS rfl (cS rfl (cS rfl jB))) ?_ ?_
        · exact ⟨⟨by omega, by omega, by rw [hpre, tF hxz, if_pos (by simpa using h29), List.append_nil], aAi hsuf, hz2⟩, M5.keep [true, true, true, false]⟩
        · (show n - (j + 1) < n - j; omega)
    · have hjn : j = n := by omega
      rw [hjn, show List.take n zs = zs from List.take_of_length_le (by omega)] at hpre
      refine cP ?_
      refine dA ?_
      refine cZ ?_
      refine eQ ?_
      refine aF (aG (aB ?_))
      refine aA (aD (.slice _ _ _) rfl) rfl rfl ?_
      refine aA (aD (.int _ _) rfl) rfl rfl ?_
      refine aA (fM ((k : Int)) ((n : Int)) rW rfl ⟨_, rfl⟩ rfl (by omega) (by omega) (by omega)) rfl rfl ?_
      refine aTc 0 (k) rW (fun zv hz => by rw [bCf] at hz; injection hz with hz; subst hz; simp [Go.Bil.one, Value.cells]) hM2 rfl rfl hz2 (by omega) rfl (fun e7 w7 hR7 M7 => ?_)
      refine aC (aF (aG (aB ?_)))
      refine aA (aD (.slice _ _ _) rfl) rfl rfl ?_
      refine aA (aD (.int _ _) rfl) rfl rfl ?_
      refine aA (fM (0) ((k : Int)) rW rfl rfl ⟨_, rfl⟩ (by decide) (by omega) (by omega)) rfl rfl ?_
      refine aA (aE (.slice _ _ _) rfl) rfl rfl ?_
      refine aC (aF (aR ?_))
      refine bY (.slice _ _ _) rfl ?_
      rw [hjn] at M7
      have hpf := hR7
      rw [← List.map_take, hpre] at hpf
      exact ⟨⟨_, _, _, e7⟩, rfl, hpf, M7⟩
end Go.Proofs.YtlmcphcgiclanaaGreatDoor

namespace Go.Proofs.YtlmcphcgiclanaaGreatDoor
open Go.Bil
open Go.RowKit (Below)
open Go.Proofs
set_option maxRecDepth 100000 in
theorem bDq : fJ Tryz.prog 191 = some (dD (List.replicate 1024 iK) 0) := by kernel_rfl
set_option maxHeartbeats 16000000 in
theorem aIq (w : World) (F : Rd w 2 (some ⟨0, 0, none⟩) 1 [[.int .u32 73856093, .int .u32 19349663]]) (N : Rd w 4 (some ⟨3, 0, none⟩) 1 [dI jA]) (A : Option Addr) (n c : Nat) (xs : List Body) (R : Rd w 10 A n (xs.map aI)) (hb : ∀ b ∈ xs, Okb b) (hs : bW xs) (hn : n ≤ 4096) :
    Calls Tryz.prog 105 #[.slice A n c] w (fun ex w' => ∃ v, ex = .returned v ∧ (fun v w' => ∃ (r : Row) (m : Nat), v = .tuple #[.slice r.A r.n r.c, .int .i64 (m : Int)] ∧ (kS xs).length ≤ m ∧ 2 * m ≤ xs.length * (xs.length - 1) ∧ bA 119 2 r.A r.n r.c ((kS xs).map bI) r.e ∧ Mem w [] [r.e] w') v w') := by
  have hlen : xs.length = n := by simpa using R.len
  have hbd := R.bound
  refine aJ #[.tmp 2, .tmp 3] 37 Tryz.func105 rfl Tryz.results105 Tryz.ntmps105 rfl ?_
  have M0 := Mem.refl w
  refine aG (aB ?_)
  refine aA (aE (.slice _ _ _) rfl) rfl rfl ?_
  refine aA (aE (.int _ _) rfl) rfl rfl ?_
  refine aC (aF (aG (aB ?_)))
  refine aA (aD (.slice _ _ _) rfl) rfl rfl ?_
  refine aK bBh rfl rfl rfl ?_
  refine (aFq _ _ _ _ xs (R.mem M0) hb).mono ?_
  rintro _ w1 ⟨v1, rfl, ⟨pm, em, rfl, hme, hM1⟩⟩
  refine ⟨_, rfl, ?_⟩
  have M1 : Mem _ _ [_] _ := M0.call0 hM1
  refine aA (aE (.map _) rfl) rfl rfl ?_
  refine aC (aF (aG (aB ?_)))
  refine aW bDq M1 rfl rfl (fun b2 w2 M2 => ?_)
  have M3 := Mem.gridNew (L := [_]) M2
  refine aC (aF (aG (aG (aB ?_))))
  refine aA (aD (.slice _ _ _) rfl) rfl rfl ?_
  refine aA (cT Tryz.underlying22 rfl) rfl rfl ?_
  refine aA (aD (.int _ _) rfl) rfl rfl ?_
  refine aC (aF (aV ?_))
  refine dK (σ := Nat × List Row) [2, 3, 4, 5, 12, 13] (fun (k, rs) => [(14, .int .i64 (k : Int))]) (fun (k, rs) w' => (k ≤ n ∧ GridRows 36 rs (gOf (xs.take k))) ∧ Mem w [] ([em] ++ ((some b2, bc (dD rs (k : Int)) 191) :: rs.map Row.e)) w') (fun (k, rs) => n - k) (0, List.replicate 1024 iK) (bK rfl eO) (⟨⟨by omega, by rw [List.take_zero]; exact aRc _⟩, M3⟩) ?_
  rintro ⟨k, rs⟩ ρ4 w4 ⟨⟨hk, hrs⟩, hM4⟩
  refine aG (aB ?_)
  refine aA (aP (.bool (decide _)) rfl rfl rfl) rfl rfl ?_
  refine aC (aF (aG ?_))
  refine aZ rfl (fun h15 => ?_) (fun h15 => ?_)
  · obtain ⟨xb, hxb⟩ := cL (k := k) hlen (by omega)
    refine aN (aF (aG (aV (aG (aB ?_)))))
    refine aA (bU (k) dO rfl rfl rfl ((R.mem hM4).below_len (aL aI hxb)) ((R.mem hM4).someK (aL aI hxb))) rfl rfl ?_
    refine aA (dS _ bO (R.mem hM4) (aL aI hxb) rfl) rfl rfl ?_
    refine aW gL hM4 rfl rfl (fun b5 w5 M5 => ?_)
    have M6 : Mem _ _ ([_, _] ++ _) _ := Mem.front (L := [_]) M5
    refine bH 1 _ bO M6 rfl rfl rfl rfl rfl (aY rfl) rfl (fun w7 M7 => ?_)
    refine aC (aF (aB ?_))
    refine aA (aH 0 dJ rfl) rfl rfl ?_
    refine aA (aQ 1 (.int _ _) bR M7 rfl rfl rfl) rfl rfl ?_
    refine aA (aD (.map _) rfl) rfl rfl ?_
    refine aA (aH 0 dJ rfl) rfl rfl ?_
    refine aA (aQ 1 (.int _ _) bR M7 rfl rfl rfl) rfl rfl ?_
    refine aA (iR (enc := pV) z0B 0 aCt aPl M7 rfl hme rfl rfl) rfl rfl ?_
    refine aM 23 (.agg (dI (gY xb)).toArray) (congrArg pV (by rw [nF hs (List.mem_of_getElem? hxb)]; rfl)) ?_
    refine aK bBx rfl rfl rfl ?_
    refine (aEy _ (F.mem M7) b2 rs (k : Int) (gOf (xs.take k)) hrs ⟨by omega, by omega⟩ (fun j _ => Nat.le_trans (aWp _ _) (by simp; omega)) xb.key (gY xb) (bAp (hb xb (List.mem_of_getElem? hxb))) (Mem.ownTail (L := [_, _]) M7) (Mem.awayTail (L := [_, _]) M7 F)).mono ?_
    rintro _ w8 ⟨v8, rfl, ⟨rfl, rs2, hrs2, hM8⟩⟩
    refine ⟨_, rfl, ?_⟩
    have M8 : Mem _ _ ([_, _] ++ _) _ := Mem.tail (L := [_, _]) M7 hM8
    refine aC ?_
    refine dB ?_
    refine aF (aB ?_)
    refine aA (bM rfl rfl (by omega) (by omega)) rfl rfl ?_
    refine aA (aD (.int _ _) rfl) rfl rfl ?_
    refine aC ?_
    refine cO (k + 1, rs2) (bK rfl eO) (cS rfl (cS rfl (cS rfl (cS rfl (cS rfl (cS rfl jB)))))) ?_ ?_
    · exact ⟨⟨by omega, by rw [aPu hxb]; exact hrs2⟩, Mem.keepL (L := [_, _]) [true, false] M8⟩
    · (show n - (k + 1) < n - k; omega)
  · have hkn : k = n := by omega
    rw [List.take_of_length_le (by omega)] at hrs
    refine cP ?_
    refine dA ?_
    refine cZ ?_
    refine eQ ?_
    refine aF (aG (aB ?_))
    refine aA (aD (.map _) rfl) rfl rfl ?_
    refine aK aYo rfl rfl rfl ?_
    refine (vW _ pm).mono ?_
    rintro _ w9 ⟨v9, rfl, ⟨bm, bn, rfl, hM9⟩⟩
    refine ⟨_, rfl, ?_⟩
    have M9 : Mem _ _ ([_, _, _] ++ _) _ := Mem.front (L := [_]) (hM4.call0 hM9)
    refine aA (aD (.tuple (List.toArray _)) rfl) rfl rfl ?_
    refine aA (bG (.func _ _ _) rfl rfl) rfl rfl ?_
    refine aA (bG (.func _ _ _) rfl rfl) rfl rfl ?_
    refine aA (aE (.func _ _ _) rfl) rfl rfl ?_
    refine aA (aE (.func _ _ _) rfl) rfl rfl ?_
    refine aC (aF (aG (aB ?_)))
    refine aK aZh rfl rfl rfl ?_
    refine (uN _ b2 rs (k : Int) (gOf xs) hrs.len (Mem.gridRd (L := [_, _, _]) M9 hrs.len) (fun j r hr => Mem.rowRd (L := [_, _, _]) M9 hrs j r hr) (xs.map (·.key)) (fun j _ x hx => by obtain ⟨b, h1, _, rfl⟩ := mX.1 hx; exact List.mem_map.2 ⟨b, h1, rfl⟩) (by simp; omega)).mono ?_
    rintro _ w10 ⟨v10, rfl, ⟨r, ps, hasc, hps, rfl, hr, hM10⟩⟩
    refine ⟨_, rfl, ?_⟩
    have M10 : Mem _ _ ([_, _, _, _] ++ _) _ := Mem.front (L := [_, _, _]) (M9.call0 hM10)
    have hpl := aNp hs hasc hps
    have hrl : ps.length = r.n := by simpa using hr.1
    have hnn : xs.length * (xs.length - 1) ≤ 4096 * 4096 := Nat.mul_le_mul (by omega) (by omega)
    refine aA (aD (.func _ _ _) rfl) rfl rfl ?_
    have M11 : Mem _ _ [_, _, _, _] _ := Mem.order4 M10
    refine aK bBj rfl rfl rfl ?_
    refine (pZ _ r.A r.n r.c ps r.e hr bn bm 0 (bxM xs) pm em hme (lL 3 M11 rfl rfl) (N.mem M11) (M11.ownSeg 0 3) (M11.apartTake 3 3 rfl rfl) (M11.away 0 3 N (fun _ q off _ h => by simp at h)) (by omega) (by omega)).mono ?_
    rintro _ w12 ⟨v12, rfl, ⟨r2, rfl, hr2, hM12⟩⟩
    refine ⟨_, rfl, ?_⟩
    have M12 : Mem _ _ [_, _, _, _] _ := M11.seg 0 3 hM12
    have hfl : (kS xs).length ≤ ps.length := by rw [← wT hs hasc hps]; exact List.length_filter_le _ _
    rw [wT hs hasc hps] at hr2
    refine aA (aE (.slice _ _ _) rfl) rfl rfl ?_
    refine aC (aF (aG (aB ?_)))
    refine aA (aD (.slice _ _ _) rfl) rfl rfl ?_
    refine aA (aD (.func _ _ _) rfl) rfl rfl ?_
    refine aK aYx rfl rfl rfl ?_
    refine (zB _ bn _ (lL 1 M12 rfl rfl)).mono ?_
    rintro _ w13 ⟨v13, rfl, ⟨rfl, hb13⟩⟩
    refine ⟨_, rfl, ?_⟩
    have M13 := M12.callB hb13
    refine aA (aE (.slice _ _ _) rfl) rfl rfl ?_
    refine aA (aE (.int _ _) rfl) rfl rfl ?_
    refine aC (aF (aR ?_))
    refine fZ (.slice _ _ _) (.int _ _) rfl rfl ?_
    exact ⟨r2, 0 + r.n, rfl, by omega, by omega, hr2, M13.keep [true, false, false, false]⟩
end Go.Proofs.YtlmcphcgiclanaaGreatDoor

namespace Go.Proofs.YtlmcphcgiclanaaGreatDoor
open Go.Bil
open Go.RowKit (Below)
open Go.Proofs
end Go.Proofs.YtlmcphcgiclanaaGreatDoor

namespace Go.Proofs.YtlmcphcgiclanaaGreatDoor
open Go.Bil
open Go.RowKit (Below)
open Go.Proofs
end Go.Proofs.YtlmcphcgiclanaaGreatDoor
