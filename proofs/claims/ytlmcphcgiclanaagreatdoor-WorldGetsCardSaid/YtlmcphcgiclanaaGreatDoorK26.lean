/- Part of the proof of the laws of this seat: P10, Q10, U11, V11, W11, Aw11. No conditions. -/
import Derived.Test.YtlmcphcgiclanaaGreatDoorK2
import Derived.Test.YtlmcphcgiclanaaGreatDoorK5
import Derived.Test.YtlmcphcgiclanaaGreatDoorK25
import Derived.Test.YtlmcphcgiclanaaGreatDoorK17
import Derived.Test.YtlmcphcgiclanaaGreatDoorK21
import Derived.Test.YtlmcphcgiclanaaGreatDoorK24
set_option linter.unusedVariables false
set_option linter.unusedSimpArgs false
set_option linter.unnecessarySimpa false
namespace Go.Proofs.YtlmcphcgiclanaaGreatDoor
open Go.Bil
open Go.RowKit (Below)
open Go.Proofs
set_option maxHeartbeats 4000000 in
theorem aMz (w : World) (a b : Int) :
  Calls Tryz.prog 167 #[.int .u32 a, .int .u32 b] w (fun ex w' => ∃ v, ex = .returned v ∧ (fun v w' => v = (.agg (bG (yU a b)).toArray) ∧ Below w.heap.size w w') v w') := by
 refine aH #[.cell 4 119] 12 Tryz.func167 rfl Tryz.results167 Tryz.ntmps167 rfl ?_
 have M0 := Mem.refl w
 refine aD (aA (aQ pD M0 rfl rfl (fun b1 w1 M1 => (aB (aC (aD (aA (aV rfl rfl (aV rfl rfl (wq (wU rfl rfl ) rfl ?_))))))))))
 refine aV rfl rfl (aV rfl rfl (wq (mY rfl rfl ) rfl (wq (cI [(0, .int _ _), (1, .int _ _)] _ aBm rfl rfl) rfl (bB 0 _ fU M1 rfl rfl rfl rfl rfl (aP rfl) rfl (fun w2 M2 => (aB (aC (aN ?_))))))))
 refine fP 0 fU M2 rfl rfl rfl ?_
 exact ⟨rfl, M2.below⟩
set_option maxHeartbeats 4000000 in
theorem aUw (w : World) (A : Option Addr) (x y : Int) (R : Rd w 1 A 2 [[.int .i64 x], [.int .i64 y]]) :
  Calls Tryz.prog 197 #[.slice A 2 2] w (fun ex w' => ∃ v, ex = .returned v ∧ (fun v w' => v = .int .i64 (if x = 0 then y else x) ∧ w' = w) v w') := by
 refine aH #[.tmp 2] 18 Tryz.func197 rfl Tryz.results197 Tryz.ntmps197 rfl ?_
 have M0 := Mem.refl w
 refine aD (aA (bI rfl rfl (aB (aC (aD (aA (bI rfl rfl (aB (aC (aD (aD (aA (eK rfl rfl ?_)))))))))))))
 refine wq (cR Tryz.underlying302 rfl) rfl (aS 7 (.int .i64 2) (iE rfl) (aV rfl rfl (aB (aC (aT (kX 3 (gL (aD (aA ?_)))))))))
 refine cS rfl rfl rfl rfl (lQ 9 rfl (by first | decide | omega) (aB (aC (aD (cO rfl (aL (aC (aD (aT (aD (aA (wq (bX (0) aRb rfl rfl rfl (R.below_len ((rfl : ([[.int .i64 x], [.int .i64 y]] : List (List Value))[0]? = some [.int .i64 x]))) (R.someK ((rfl : ([[.int .i64 x], [.int .i64 y]] : List (List Value))[0]? = some [.int .i64 x])))) rfl ?_))))))))))))
 refine wq (iN (.int _ _) mA R ((rfl : ([[.int .i64 x], [.int .i64 y]] : List (List Value))[0]? = some [.int .i64 x])) rfl) rfl (bI rfl rfl (aB (aC (aD (aA (aV rfl rfl (aV rfl rfl (cS rfl rfl rfl rfl ?_))))))))
 refine aB (aC ?_)
 refine aX rfl (fun h14 => ?_) (fun h14 => ?_)
 ·refine aD (aA (aV rfl rfl (bI rfl rfl (aB (aC (aN (jC (cH (cH ?_)))))))))
  refine jC (cH (cA (.int _ _) rfl ?_))
  exact ⟨iE (by split <;> omega), rfl⟩
 ·refine aL (cV (aC (aA (wq (bM rfl rfl (by first | decide | omega) (by first | decide | omega)) rfl (aS 16 (.int .i64 1) (iE (by first | decide | omega)) (aV rfl rfl ?_))))))
  refine aB (aC (gL (aD (aA (cS rfl rfl rfl rfl (lQ 9 rfl (by first | decide | omega) (aB (aC (aD ?_)))))))))
  refine cO rfl (aL (aC (aD (aT (aD (aA (wq (bX (1) aRb rfl rfl rfl (R.below_len ((rfl : ([[.int .i64 x], [.int .i64 y]] : List (List Value))[1]? = some [.int .i64 y]))) (R.someK ((rfl : ([[.int .i64 x], [.int .i64 y]] : List (List Value))[1]? = some [.int .i64 y])))) rfl (wq (iN (.int _ _) mA R ((rfl : ([[.int .i64 x], [.int .i64 y]] : List (List Value))[1]? = some [.int .i64 y])) rfl) rfl ?_))))))))
  refine bI rfl rfl (aB (aC (aD (aA (aV rfl rfl (aV rfl rfl (cS rfl rfl rfl rfl (aB (aC ?_)))))))))
  refine aX rfl (fun h14 => ?_) (fun h14 => ?_)
  ·refine aD (aA (aV rfl rfl (bI rfl rfl (aB (aC (aN (jC (cH (cH ?_)))))))))
   refine jC (cH (cA (.int _ _) rfl ?_))
   exact ⟨iE (by split <;> omega), rfl⟩
  ·refine aL (cV (aC (aA (wq (bM rfl rfl (by first | decide | omega) (by first | decide | omega)) rfl (aS 16 (.int .i64 2) (iE (by first | decide | omega)) (aV rfl rfl ?_))))))
   refine aB (aC (gL (aD (aA (cS rfl rfl rfl rfl (uH 9 rfl (by first | decide | omega) (aB (aC (aD ?_)))))))))
   refine cC rfl (cN (dB (dB (eZ (aC (aD (aA (aV rfl rfl ?_))))))))
   refine bI rfl rfl (aB (aC (aN (cA (.int _ _) rfl ?_))))
   exact ⟨iE (by split <;> omega), rfl⟩
set_option maxHeartbeats 4000000 in
theorem aCa (a b : Int × Int) (w : World) :
  Calls Tryz.prog 170 #[(.agg (bG a).toArray), (.agg (bG b).toArray)] w (fun ex w' => ∃ v, ex = .returned v ∧ (fun v w' => v = .int .i64 (aMy a b) ∧ ∃ q os, w' = Go.Sort.grow (w.drewN q) os) v w') := by
 refine aH #[.tmp 4] 17 Tryz.func170 rfl Tryz.results170 Tryz.ntmps170 rfl ?_
 have M0 := Mem.refl w
 refine aD (aA (vS (.agg (List.toArray _)) M0 rfl rfl rfl (fun M1 => (vS (.agg (List.toArray _)) M1 rfl rfl rfl (fun M2 => (bI rfl rfl (aB (aC (aD (aVd [(0, 0), (1, 1), (2, 0), (3, 1), (5, 0), (6, 1), (7, 0), (8, 1), (4, 2), (9, 2), (10, 2), (11, 2), (12, 0)] mixed rfl (by kernel_rfl) ?_))))))))))
 have M3 := M2.drewE
 refine aZ rfl rfl rfl (fun _ => aE 0 mT rfl) (cB rfl rfl rfl (aM 0 (.int _ _) bU M3 rfl rfl rfl) (aZ rfl rfl rfl (fun _ => aE 0 mT rfl) (cB rfl rfl rfl (aM 1 (.int _ _) bU M3 rfl rfl rfl) (aZ rfl rfl rfl (fun _ => aE 1 mE rfl) (cB rfl rfl rfl (aM 0 (.int _ _) bU M3 rfl rfl rfl) ?_)))))
 refine aZ rfl rfl rfl (fun _ => aE 1 mE rfl) (cB rfl rfl rfl (aM 1 (.int _ _) bU M3 rfl rfl rfl) (dR [false, false, true, true] rfl (by kernel_rfl) (bY aKg rfl rfl (jR _ _ _) ?_)))
 rintro v4 w4 ⟨rfl, rfl⟩
 have M4 : Mem _ _ [_, _] _ := M3
 refine aB (aC ⟨(eQ (bP rfl (aM 1 (.int _ _) bU M4 rfl rfl rfl)) (eQ (bP rfl (aM 0 (.int _ _) bU M4 rfl rfl rfl)) dS)), ?_⟩)
 refine dR [true, true] rfl (by kernel_rfl) (bY aKg rfl rfl (jR _ _ _) ?_)
 rintro v5 w5 ⟨rfl, rfl⟩
 have M5 : Mem _ _ [_, _] _ := M4
 refine aB (aC ⟨dS, ?_⟩)
 refine dR [] rfl (by kernel_rfl) (aHc [.int _ _, .int _ _] [[.int .i64 (kU a.1 b.1)], [.int .i64 (kU a.2 b.2)]] rfl aRb M5 rfl rfl rfl rfl (dG rfl) (by decide) (fun M6 => ?_))
 refine aB (aC ⟨dS, ?_⟩)
 refine dR [] rfl (by kernel_rfl) (bY bCe rfl rfl (aUw _ _ _ _ ((jM (T := 3) [[.int .i64 (kU a.1 b.1)], [.int .i64 (kU a.2 b.2)]] (by simp) rfl (show 2 ≤ 281474976710656 by decide)).rd M6 (bC (i := 2) rfl))) ?_)
 rintro v7 w7 ⟨rfl, rfl⟩
 have M7 : Mem _ _ [_, _, _] _ := M6
 refine aB (aC ⟨dS, ?_⟩)
 refine pP rfl rfl rfl (cG (aC (aN (cA (.int _ _) rfl ?_))))
 exact ⟨iE rfl, bDi _ _ _ _⟩
theorem aRf : aKt Tryz.prog 170 bG aMy := fun x y w => aCa x y w
theorem aPv : KeyT Tryz.prog 230 119 231 bG := by
 refine ⟨Tryz.underlying230, ⟨_, Tryz.underlying119⟩, fun a w => ?_, fun a b w => ?_, fun a => by simp [bG, Instr.sameBits]⟩
 ·have h42 := bA (w := w) Tryz.underlying119
  have hc : ∀ x : Int, (Instr.checkKey false 9999 36 (.int .u32 x)).run Tryz.prog w = .ok () w := fun x => MapKept.run_checkKey (d := .int .u32) Tryz.underlying36 (by simp [MapKept.IsKey]) false 9998
  have p0 : (Go.part 36 #[.int .u32 a.1, .int .u32 a.2] 0).run Tryz.prog w = .ok (.int .u32 a.1) w := iY (l := [.int .u32 a.1, .int .u32 a.2]) bU rfl
  have p1 : (Go.part 36 #[.int .u32 a.1, .int .u32 a.2] 1).run Tryz.prog w = .ok (.int .u32 a.2) w := iY (l := [.int .u32 a.1, .int .u32 a.2]) bU rfl
  show (Instr.checkKey false (9999 + 1) 119 _).run _ w = _
  unfold Instr.checkKey
  simp only [Sem.run_bind, h42, Result.andThen_ok, bG]
  simp [p0, p1, hc, Sem.run_bind, Sem.run_pure]
 ·have h := (bBz a.1 a.2 b.1 b.2).2 w
  have e : decide (a.1 = b.1 ∧ a.2 = b.2) = decide (a = b) := decide_eq_decide.2 Prod.ext_iff.symm
  rw [e] at h
  exact h
theorem yG (w : World) (A : Option Addr) (n c : Nat) (xs : List (Int × Int)) (e : dL) (hR : aW 119 2 A n c (xs.map bG) e) (hw : Own [e] w) (hn : n ≤ 1099511627776) :
  Calls Tryz.prog 195 #[.slice A n c, .func (.func 170) #[] #[]] w (fun ex w' => ∃ v, ex = .returned v ∧ v = .tuple #[] ∧ ∃ (ys : List (Int × Int)) (e' : dL), ys.Perm xs ∧ (ys.Pairwise fun a b => ¬ ltP b a) ∧ aW 119 2 A n c (ys.map bG) e' ∧ Mem w (bQ [e]) [e'] w') := by
 have h := pV aMh (T := 119) fU bG zH (fun x v hv => by simp only [bG, List.mem_cons, List.not_mem_nil, or_false] at hv; rcases hv with h | h <;> subst h <;> rfl) _ aSe 170 aYv aRf w A xs e hR hw (by omega)
 refine Calls.mono h ?_
 rintro ex w' ⟨v, h1, h2, ys, e', h3, h4, h5, h6⟩
 refine ⟨v, h1, h2, ys, e', h3, ?_, h5, h6⟩
 refine List.pairwise_iff_getElem.2 fun i j hi hj hij => ?_
 have := h4 i j _ _ hij (List.getElem?_eq_getElem hi) (List.getElem?_eq_getElem hj)
 have h := of_decide_eq_false this
 rwa [aEy] at h
set_option maxHeartbeats 4000000 in
theorem aIh (w : World) (mb : Nat) :
  Calls Tryz.prog 169 #[.map (some mb)] w (fun ex w' => ∃ v, ex = .returned v ∧ (fun v w' => ∃ bb, v = .func (.func 196) #[] #[.pointer (some ⟨bb, 0, none⟩)] ∧ Mem w [] [(some bb, bc [.map (some mb)] 230)] w') v w') := by
 refine aH #[.tmp 2] 4 Tryz.func169 rfl Tryz.results169 Tryz.ntmps169 rfl ?_
 have M0 := Mem.refl w
 refine aD (aA (bJ (.map _) M0 rfl rfl rfl (fun b1 w1 M1 => (wq (aI (_) rfl) rfl (aB (aC (aD (aA (wq (cM [] [.pointer _] rfl rfl) rfl (wq (aI (.func _ _ _) rfl) rfl ?_))))))))))
 refine aB (aC (aN (cA (.func _ _ _) rfl ?_)))
 exact ⟨b1, rfl, M1⟩
set_option maxHeartbeats 4000000 in
theorem aGa (w : World) (bb : Nat) (mb clock : Nat) (L : List ((Int × Int) × Nat)) (hmb : w.heap[mb]? = some (gX bG L clock)) (hml : mb < w.heap.size) (hS : SetOk L clock) (hLN : L.length < 1099511627776) (B1 : Rd w 1 (some ⟨bb, 0, none⟩) 1 [[.map (some mb)]]) (lp ob : Nat) (rec : Loop) (hY : rJ Tryz.prog lp ob rec 159 119 2 1099511627776 (fun x => ∃ a b, x = [.int .u32 a, .int .u32 b])) (r0 : Row) (hr0 : aW 119 2 r0.A r0.n r0.c [] r0.e) (hO : Own [(some lp, .loop rec), (some ob, bc [.slice r0.A r0.n r0.c] 159), r0.e] w) (hd1 : 0 < 1 → ∀ q off, (some ⟨bb, 0, none⟩ : Option Addr) = some ⟨q, off, none⟩ → q ∉ bQ [(some lp, .loop rec), (some ob, bc [.slice r0.A r0.n r0.c] 159), r0.e]) (hmX : mb ∉ bQ [(some lp, .loop rec), (some ob, bc [.slice r0.A r0.n r0.c] 159), r0.e]) :
  Calls Tryz.prog 196 #[.func (.yield lp) #[] #[], .pointer (some ⟨bb, 0, none⟩)] w (fun ex w' => ∃ v, ex = .returned v ∧ (fun v w' => v = .tuple #[] ∧ ∃ (r : Row) (T : List ((Int × Int) × Nat)), T.Perm L ∧ aW 119 2 r.A r.n r.c ((T.map (fun z => z.1)).map bG) r.e ∧ Mem w (bQ [(some lp, .loop rec), (some ob, bc [.slice r0.A r0.n r0.c] 159), r0.e]) [(some lp, .loop rec), (some ob, bc [.slice r.A r.n r.c] 159), r.e] w') v w') := by
 rw [← eO bb]
 refine aH #[] 14 Tryz.func196 rfl Tryz.results196 Tryz.ntmps196 rfl ?_
 have M0 := hO.mem
 refine aD (aA (wq (eH (o := 0) (.map _) bAp (B1.memY M0 hd1) (show ([[.map (some mb)]] : List (List Value))[0]? = some ([.map (some mb)]) from rfl) rfl rfl) rfl (aSd (α := Int × Int) Tryz.underlying230 M0 rfl rfl rfl ((M0.old mb hml hmX).trans hmb) (fun b1 w1 M1 => (aB (aC (aT ?_)))))))
 refine dN (σ := List ((Int × Int) × Nat) × Row) [0, 5] (fun (T, r) => []) (fun (T, r) w' => ((∀ p ∈ T, p ∈ L) ∧ (T.map (·.2)).Nodup ∧ aW 119 2 r.A r.n r.c ((T.map (fun z => z.1)).map bG) r.e) ∧ Mem w (bQ [(some lp, .loop rec), (some ob, bc [.slice r0.A r0.n r0.c] 159), r0.e]) [(some lp, .loop rec), (some ob, bc [.slice r.A r.n r.c] 159), r.e, (some b1, rD mb clock T)] w') (fun (T, r) => L.length - T.length) ([], r0) fC (⟨⟨(fun p hp => nomatch hp), by simp, hr0⟩, M1⟩) ?_
 rintro ⟨T, r⟩ ρ2 w2 ⟨⟨hTs, hTn, hr⟩, hM2⟩
 have hrl : T.length = r.n := by simpa using hr.1
 have hTl := aFm hTn hTs
 refine aD (aA ?_)
 refine aVr (enc := bG) 3 hM2 rfl rfl rfl rfl ((hM2.old mb hml hmX).trans hmb) hS.lt (fun hover => ?_) (fun p3 w3 hp3 hnp3 M3 => ?_)
 ·refine wq (bE (.bool false) rfl rfl) rfl (aB (aC (aD (cC rfl (cN (dB (cZ ?_)))))))
  refine eZ (iI ?_)
  exact ⟨rfl, r, T, aSp hS.nd hTn hTs hover, hr, hM2.keep [true, true, true, false]⟩
 ·refine wq (bE (.bool true) rfl rfl) rfl (aB (aC (aD (cO rfl (aL (aC (aT (aD (aA (wq (aXf (enc := bG) 3 (p3) M3 rfl rfl ((M3.old mb hml hmX).trans hmb) hp3 hS.nd) rfl (wq (bE (.agg (List.toArray _)) rfl rfl) rfl ?_)))))))))))
  refine aQ pD M3 rfl rfl (fun b4 w4 M4 => (bB 4 _ fU M4 rfl rfl rfl rfl rfl (aP rfl) rfl (fun w5 M5 => (aB (aC (aD (aAo (aBk (aG (.func _ _ _) rfl) rfl rfl (aBk (aY 4 fU M5 rfl rfl rfl) rfl rfl ?_)))))))))
  obtain ⟨fy, ty, ay, by1, hy1, hy2⟩ := hY _ r ((T.map (fun z => z.1)).map bG) (bG p3.1) ⟨_, _, rfl⟩ (by omega) hr (M5.ownSeg 0 3)
  refine aBl rfl rfl rfl rfl hy1 (hy2.mono ?_)
  rintro _ w6 ⟨rfl, q6, hqn6, hq6, hM6⟩
  have M6 : Mem _ _ [_, _, _, _, _] _ := M5.seg 0 3 hM6
  refine ⟨_, rfl, ?_⟩
  refine aTb rfl (fun _ _ h => h) (wq (jJ false rfl rfl) rfl (aB (aC (cC rfl (aL (cV ?_))))))
  have hTs2 : ∀ p ∈ T ++ [p3], p ∈ L := fun p hp => (List.mem_append.1 hp).elim (hTs p) (fun h => by rw [List.mem_singleton] at h; rw [h]; exact hp3)
  have hTn2 := aOl hTn hnp3
  have hTl2 := aFm hTn2 hTs2
  rw [List.length_append, List.length_singleton] at hTl2
  refine cQ (T ++ [p3], q6) fC (cU rfl (cU rfl kE)) ?_ ?_
  ·exact ⟨⟨hTs2, hTn2, by rw [List.map_append, List.map_append]; exact hq6⟩, M6.keep [true, true, true, true, false]⟩
  ·(show L.length - (T ++ [p3]).length < L.length - T.length; rw [List.length_append, List.length_singleton]; omega)
set_option maxHeartbeats 4000000 in
theorem rL (w : World) (bb : Nat) (mb clock : Nat) (L : List ((Int × Int) × Nat)) (hmb : w.heap[mb]? = some (gX bG L clock)) (hml : mb < w.heap.size) (hS : SetOk L clock) (hLN : L.length < 1099511627776) (B1 : Rd w 1 (some ⟨bb, 0, none⟩) 1 [[.map (some mb)]]) :
  Calls Tryz.prog 218 #[.slice none 0 0, .func (.func 196) #[] #[.pointer (some ⟨bb, 0, none⟩)]] w (fun ex w' => ∃ v, ex = .returned v ∧ (fun v w' => ∃ (r : Row) (T : List ((Int × Int) × Nat)), T.Perm L ∧ v = .slice r.A r.n r.c ∧ aW 119 2 r.A r.n r.c ((T.map (fun z => z.1)).map bG) r.e ∧ Mem w [] [r.e] w') v w') := by
 refine uJ #[.tmp 4] 13 Tryz.func218 rfl Tryz.results218 Tryz.ntmps218 rfl ?_
 have M0 := Mem.refl w
 refine nJ (kY (bJ (.slice _ _ _) M0 rfl rfl rfl (fun b1 w1 M1 => (fZ rfl rfl (aB (nK ?_))))))
 refine nJ (nJ (kY (wq (aG (.func _ _ _) rfl) rfl (aB (nK ?_)))))
 refine aGs ?_
 have M2 : Mem _ _ [_, _] _ := M1.dummy default
 refine aEq bAk M2 rfl (fun fnn B lp tmps w1 hρ hn M1 => ?_)
 refine wF (P := Tryz.prog) (ob := b1) (Tsl := 159) (Te := 119) (sz := 2) (N := 1099511627776) (ok := (fun x => ∃ a b, x = [.int .u32 a, .int .u32 b])) M1 ?_ (fun hY => ?_)
 ·intro wr r ls x hok hlt hrow hO
  obtain ⟨xa, xb, rfl⟩ := hok
  refine ⟨_, _, _, _, aGp hO rfl rfl rfl hn (by decide) hρ ?_⟩
  have MR0 := hO.mem
  refine pN rfl (fun _ _ h => nomatch h.1) (aQ pD MR0 rfl rfl (fun b3 w3 M3 => (bB 3 _ fU M3 rfl rfl rfl rfl rfl (aP rfl) rfl (fun w4 M4 => (aB ?_)))))
  refine ⟨rfl, _, M4, rfl, fun w5 M5 => ?_⟩
  refine aEh (pN rfl (fun _ _ h => nomatch h.1) (wq (aM 1 (.slice _ _ _) aHk M5 rfl rfl rfl) rfl (wq (aY 3 fU M5 rfl rfl rfl) rfl (cY [.agg (List.toArray _)] [[.int .u32 xa, .int .u32 xb]] rfl rW M5 rfl rfl rfl rfl (dG rfl) (by decide) (fun b6 w6 M6 => (eG 2 [[.int .u32 xa, .int .u32 xb]] rW M6 rfl rfl rfl rfl rfl hrow rfl (by simp [Go.Bil.one]) (dA.ofMem 4 M6 rfl) (by omega) (fun A7 c7 e7 w7 M7 hR7 => ?_)))))))
  refine dF 1 (.slice _ _ _) aHk M7 rfl rfl rfl rfl rfl rfl (fun w8 M8 => (aB (cV ?_)))
  refine ⟨rfl, _, M8, rfl, fun w9 M9 => ?_⟩
  exact ⟨⟨A7, r.n + 1, c7, e7⟩, rfl, hR7, M9.keep [true, true, true, false, false]⟩
 ·refine (aGa _ bb mb clock L ((M1.old mb hml List.not_mem_nil).trans hmb) (Nat.lt_of_lt_of_le hml M1.size) hS hLN (B1.mem M1) lp b1 _ hY ⟨none, 0, 0, (none, default)⟩ (aW.nil _ _ _) (M1.ownSeg 0 3) (M1.away 0 3 B1 (fun _ q off _ h => by simp at h)) (M1.notNew 3 hml)).mono ?_
  rintro _ w5 ⟨v5, rfl, rfl, r, T, hT, hr, hM⟩
  have M5 : Mem _ _ (_ :: [_, _, _]) _ := M1.seg 0 3 hM
  refine ⟨_, rfl, _, M5, fun w6 M6 => ?_⟩
  refine aYi (nK (nJ (aBh (aJx (aM 1 (.slice _ _ _) aHk M6 rfl rfl rfl) rfl rfl (aJx (aI (.slice _ _ _) rfl) rfl rfl ?_)))))
  refine aJv (nK (aOw (aYu (i := 3) (.slice _ _ _) rfl M6 rfl (fun w9 M9 => ?_))))
  exact ⟨r, T, hT, rfl, hr, M9.keep [false, false, true, false]⟩
set_option maxHeartbeats 4000000 in
theorem uV (w : World) (bb : Nat) (mb clock : Nat) (L : List ((Int × Int) × Nat)) (hmb : w.heap[mb]? = some (gX bG L clock)) (hml : mb < w.heap.size) (hS : SetOk L clock) (hLN : L.length < 1099511627776) (B1 : Rd w 1 (some ⟨bb, 0, none⟩) 1 [[.map (some mb)]]) :
  Calls Tryz.prog 194 #[.func (.func 196) #[] #[.pointer (some ⟨bb, 0, none⟩)]] w (fun ex w' => ∃ v, ex = .returned v ∧ (fun v w' => ∃ (r : Row) (T : List ((Int × Int) × Nat)), T.Perm L ∧ v = .slice r.A r.n r.c ∧ aW 119 2 r.A r.n r.c ((T.map (fun z => z.1)).map bG) r.e ∧ Mem w [] [r.e] w') v w') := by
 refine aH #[.tmp 2] 5 Tryz.func194 rfl Tryz.results194 Tryz.ntmps194 rfl ?_
 have M0 := Mem.refl w
 refine aD (aA (fZ rfl rfl (aB (aC (aD (aA (wq (aG (.func _ _ _) rfl) rfl (bY bCm rfl rfl (rL _ bb mb clock L ((M0.old mb hml List.not_mem_nil).trans hmb) (Nat.lt_of_lt_of_le hml M0.size) hS hLN (B1.mem M0)) ?_))))))))
 rintro v1 w1 ⟨r, T, hT, rfl, hr, hM1⟩
 have M1 : Mem _ _ [_] _ := M0.call0 hM1
 refine fZ rfl rfl (aB (aC (aN (cA (.slice _ _ _) rfl ?_))))
 exact ⟨r, T, hT, rfl, hr, M1⟩
set_option maxHeartbeats 4000000 in
theorem qI (w : World) (bb : Nat) (mb clock : Nat) (L : List ((Int × Int) × Nat)) (hmb : w.heap[mb]? = some (gX bG L clock)) (hml : mb < w.heap.size) (hS : SetOk L clock) (hLN : L.length < 1099511627776) (B1 : Rd w 1 (some ⟨bb, 0, none⟩) 1 [[.map (some mb)]]) :
  Calls Tryz.prog 168 #[.func (.func 196) #[] #[.pointer (some ⟨bb, 0, none⟩)], .func (.func 170) #[] #[]] w (fun ex w' => ∃ v, ex = .returned v ∧ (fun v w' => ∃ (r : Row) (ys : List (Int × Int)), Asc ys ∧ (∀ z, z ∈ ys ↔ z ∈ L.map (·.1)) ∧ v = .slice r.A r.n r.c ∧ aW 119 2 r.A r.n r.c ((ys).map bG) r.e ∧ Mem w [] [r.e] w') v w') := by
 refine aH #[.tmp 4] 12 Tryz.func168 rfl Tryz.results168 Tryz.ntmps168 rfl ?_
 have M0 := Mem.refl w
 refine aD (aA (fZ rfl rfl (aB (aC (aD (aA (wq (aG (.func _ _ _) rfl) rfl (bY bAv rfl rfl (uV _ bb mb clock L ((M0.old mb hml List.not_mem_nil).trans hmb) (Nat.lt_of_lt_of_le hml M0.size) hS hLN (B1.mem M0)) ?_))))))))
 rintro v1 w1 ⟨r, T, hT, rfl, hr, hM1⟩
 have M1 : Mem _ _ [_] _ := M0.call0 hM1
 have hrl : T.length = r.n := by simpa using hr.1
 have hTL := hT.length_eq
 refine fZ rfl rfl (aB (aC (aD (aA (eK rfl rfl (wq (aG (.func _ _ _) rfl) rfl (bY aZv rfl rfl (yG _ _ _ _ (T.map (fun z => z.1)) _ hr (M1.ownAt (i := 0) rfl) (by omega)) ?_)))))))
 rintro v2 w2 ⟨rfl, ys, e2, hpp, huu, hR2, hM2⟩
 have M2 : Mem _ _ [_] _ := M1.seg 0 1 hM2
 refine aB (aC (aD (aA (eK rfl rfl (fZ rfl rfl (aB (aC (aN (cA (.slice _ _ _) rfl ?_)))))))))
 have hpl : ys.Perm (L.map (·.1)) := hpp.trans (hT.map _)
 exact ⟨⟨r.A, r.n, r.c, e2⟩, ys, bCr (hpl.nodup_iff.2 hS.keys) huu, fun z => hpl.mem_iff, rfl, hR2, M2⟩
set_option maxHeartbeats 16000000 in
theorem uZ (w : World) (b : Nat) (rs : List Row) (cnt : Int) (g : Nat → List Int) (hlen : rs.length = 1024) (G : Rd w 1025 (some ⟨b, 0, none⟩) 1 [dC rs cnt]) (hrow : ∀ (j : Nat) (r : Row), rs[j]? = some r → Rd w 1 r.A r.n ((g j).map eS) ∧ r.n ≤ r.c) (ks : List Int) (hks : ∀ j, j < 1024 → ∀ x ∈ g j, x ∈ ks) (hkl : ks.length ≤ 65536) :
  Calls Tryz.prog 136 #[.pointer (some ⟨b, 0, none⟩)] w (fun ex w' => ∃ v, ex = .returned v ∧ (fun v w' => ∃ (r : Row) (ps : List (Int × Int)), Asc ps ∧ (∀ z, z ∈ ps ↔ z ∈ mL g 1024) ∧ v = .slice r.A r.n r.c ∧ aW 119 2 r.A r.n r.c ((ps).map bG) r.e ∧ Mem w [] [r.e] w') v w') := by
 rw [← eO b]
 refine aH #[.tmp 2] 49 Tryz.func136 rfl Tryz.results136 Tryz.ntmps136 rfl ?_
 have M0 := Mem.refl w
 refine aD (aA (fZ rfl rfl (aB (aC (aD (aD (aA (wq (aG (sL _ _) rfl) rfl (wq (aDq Tryz.underlying222 (G.mem M0) (show ([dC rs cnt] : List (List Value))[0]? = some (dC rs cnt) from rfl) rfl) rfl (aB (aC ?_)))))))))))
 refine cC rfl (aL (aC (aD (aA (kS M0 rfl rfl (fun b1 w1 M1 => (wq (aI (.map _) rfl) rfl (aB (aC (aD (aD (aA (wq (aG (sL _ _) rfl) rfl ?_)))))))))))))
 refine wq (aGh (G.mem M1) (Nat.lt_of_le_of_lt (Nat.zero_le _) ((G.mem M1).below_len (show ([dC rs cnt] : List (List Value))[0]? = some (dC rs cnt) from rfl))) rfl) rfl (wq (bO 0 wI (G.mem M1) (Nat.lt_of_le_of_lt (Nat.zero_le _) ((G.mem M1).below_len (show ([dC rs cnt] : List (List Value))[0]? = some (dC rs cnt) from rfl))) rfl) rfl ?_)
 refine wq (xX (o := 0) (rs.map (fun r => Value.slice r.A r.n r.c)) bCg (G.mem M1) (show ([dC rs cnt] : List (List Value))[0]? = some (dC rs cnt) from rfl) rfl (aDp hlen) (by simp [hlen])) rfl (aV rfl rfl (aB (aC (aT (dN (σ := Nat × Nat × List ((Int × Int) × Nat)) [2, 3, 16] (fun (i, c0, L0) => [(17, .int .i64 (i : Int))]) (fun (i, c0, L0) w' => i ≤ 1024 ∧ (SetOk L0 c0 ∧ ∀ z, z ∈ L0.map (fun z => z.1) ↔ z ∈ mL g i) ∧ Mem w [] [(some b1, gX bG L0 c0)] w') (fun (i, c0, L0) => 1024 - i) (0, 0, []) (bK rfl fC) (⟨by omega, ⟨SetOk.nil, fun z => by simp [mL]⟩, M1⟩) ?_)))))
 rintro ⟨i, c0, L0⟩ ρ2 w2 ⟨hi, ⟨hS0, hI0⟩, hM2⟩
 refine aD (aA (cS rfl rfl rfl rfl (aB (aC (aD ?_)))))
 refine aX rfl (fun h18 => ?_) (fun h18 => ?_)
 ·obtain ⟨rj, hrj⟩ := cL (xs := rs) (k := i) hlen (by omega)
  obtain ⟨Rj, hcj⟩ := hrow i rj hrj
  have hlj : (g i).length = rj.n := by simpa using Rj.len
  have hbj := Rj.bound
  refine aL (aC (aD (aT (aD (aA (wq (tF (i) (.slice rj.A rj.n rj.c) aJd aDd rfl rfl (by omega) (by omega) rfl (by rw [kC]; exact aJ _ hrj)) rfl (fZ rfl rfl (aB (aC (aD (aA (eK rfl rfl (wq (cR Tryz.underlying188 rfl) rfl ?_)))))))))))))
  refine aV rfl rfl (aB (aC (aT (dN (σ := Nat × Nat × List ((Int × Int) × Nat)) [2, 3, 5, 16, 17, 20, 21] (fun (p, c2, L2) => [(22, .int .i64 (p : Int))]) (fun (p, c2, L2) w' => p ≤ rj.n ∧ (SetOk L2 c2 ∧ ∀ z, z ∈ L2.map (fun z => z.1) ↔ z ∈ mL g i ++ uC (g i) p) ∧ Mem w [] [(some b1, gX bG L2 c2)] w') (fun (p, c2, L2) => rj.n - p) (0, c0, L0) (bK rfl fC) (⟨by omega, ⟨hS0, fun z => by rw [hI0 z]; simp [uC]⟩, hM2⟩) ?_))))
  rintro ⟨p, c2, L2⟩ ρ3 w3 ⟨hp, ⟨hS2, hI2⟩, hM3⟩
  refine aD (aA (cS rfl rfl rfl rfl (aB (aC (aD ?_)))))
  refine aX rfl (fun h23 => ?_) (fun h23 => ?_)
  ·obtain ⟨xa, hxa⟩ := cL (xs := g i) (k := p) hlj (by omega)
   refine aL (aC (aD (aT (aD (aA (aV rfl rfl (wq (bX (p) aEg rfl rfl rfl ((Rj.mem hM3).below_len (aJ eS hxa)) ((Rj.mem hM3).someK (aJ eS hxa))) rfl (wq (iN (.int _ _) bU (Rj.mem hM3) (aJ eS hxa) rfl) rfl (bI rfl rfl (bI rfl rfl ?_))))))))))
   refine aB (aC (aD (aA (eK rfl rfl (aV rfl rfl (wq (fM (0) ((p : Int)) aEg rfl rfl ⟨_, rfl⟩ (by decide) (by omega) (by omega)) rfl (wq (cR Tryz.underlying188 rfl) rfl (aV rfl rfl ?_))))))))
   refine aB (aC (aT (dN (σ := Nat × Nat × List ((Int × Int) × Nat)) [2, 3, 5, 7, 16, 17, 20, 21, 22, 29, 30] (fun (q, c4, L4) => [(31, .int .i64 (q : Int))]) (fun (q, c4, L4) w' => q ≤ p ∧ (SetOk L4 c4 ∧ ∀ z, z ∈ L4.map (fun z => z.1) ↔ z ∈ (mL g i ++ uC (g i) p) ++ uS xa ((g i).take q)) ∧ Mem w [] [(some b1, gX bG L4 c4)] w') (fun (q, c4, L4) => p - q) (0, c2, L2) (bK rfl fC) (⟨by omega, ⟨hS2, fun z => by rw [hI2 z]; simp [uS]⟩, hM3⟩) ?_)))
   rintro ⟨q, c4, L4⟩ ρ4 w4 ⟨hq, ⟨hS4, hI4⟩, hM4⟩
   refine aD (aA (cS rfl rfl rfl rfl (aB (aC (aD ?_)))))
   refine aX rfl (fun h32 => ?_) (fun h32 => ?_)
   ·obtain ⟨xb, hxb⟩ := cL (xs := g i) (k := q) hlj (by omega)
    refine aL (aC (aD (aT (aD (aA (wq (bX (q) aEg rfl rfl rfl (((Rj.mem hM4).sub 0 p (by omega) (by omega) hcj).below_len (wO hxb (by omega))) (((Rj.mem hM4).sub 0 p (by omega) (by omega) hcj).someK (wO hxb (by omega)))) rfl (wq (iN (.int _ _) bU ((Rj.mem hM4).sub 0 p (by omega) (by omega) hcj) (wO hxb (by omega)) rfl) rfl ?_)))))))
    refine bI rfl rfl (aB (aC (aD (aA (aV rfl rfl (aV rfl rfl (cS rfl rfl rfl rfl (aB (aC ?_)))))))))
    refine aX rfl (fun h37 => ?_) (fun h37 => ?_)
    ·refine aA (wq (aG (.map _) rfl) rfl (aV rfl rfl (aV rfl rfl (bY aZr rfl rfl (aMz _ xa xb) ?_))))
     rintro v5 w5 ⟨rfl, hb5⟩
     have M5 := hM4.callB hb5
     refine wq (cI [] _ aOn rfl rfl) rfl (aNk (enc := bG) 0 (yU xa xb) aPv M5 rfl rfl hS4 rfl rfl rfl (fun L6 c6 w6 hS6 hZ6 hN6 M6 => (aB (cV (aC (aA (wq (bM rfl rfl (by omega) (by omega)) rfl ?_)))))))
     refine aV rfl rfl (aB ?_)
     refine cQ (q + 1, c6, L6) (bK rfl fC) (cU rfl (cU rfl (cU rfl (cU rfl (cU rfl (cU rfl (cU rfl (cU rfl (cU rfl (cU rfl (cU rfl kE))))))))))) ?_ ?_
     ·exact ⟨by omega, ⟨hS6, aNm hZ6 hI4 hxb h37⟩, M6⟩
     ·(show p - (q + 1) < p - q; omega)
    ·refine aL (cV (aC (aA (wq (bM rfl rfl (by omega) (by omega)) rfl (aV rfl rfl (aB ?_))))))
     refine cQ (q + 1, c4, L4) (bK rfl fC) (cU rfl (cU rfl (cU rfl (cU rfl (cU rfl (cU rfl (cU rfl (cU rfl (cU rfl (cU rfl (cU rfl kE))))))))))) ?_ ?_
     ·exact ⟨by omega, ⟨hS4, aMo hI4 hxb h37⟩, hM4⟩
     ·(show p - (q + 1) < p - q; omega)
   ·have hqp : q = p := by omega
    refine cN (dB (cZ (eZ (cV (aC (aA ?_))))))
    refine wq (bM rfl rfl (by omega) (by omega)) rfl (aV rfl rfl (aB ?_))
    refine cQ (p + 1, c4, L4) (bK rfl fC) (cU rfl (cU rfl (cU rfl (cU rfl (cU rfl (cU rfl (cU rfl kE))))))) ?_ ?_
    ·exact ⟨by omega, ⟨hS4, fun z => by rw [hI4 z, aHd hxa, ← hqp, List.append_assoc]⟩, hM4⟩
    ·(show rj.n - (p + 1) < rj.n - p; omega)
  ·have hpn : p = rj.n := by omega
   refine cN (dB (cZ (eZ (cV (aC (aA ?_))))))
   refine wq (bM rfl rfl (by omega) (by omega)) rfl (aV rfl rfl (aB ?_))
   refine cQ (i + 1, c2, L2) (bK rfl fC) (cU rfl (cU rfl (cU rfl kE))) ?_ ?_
   ·exact ⟨by omega, ⟨hS2, fun z => by rw [hI2 z, aIb]; unfold aSc; rw [hlj, ← hpn]⟩, hM3⟩
   ·(show 1024 - (i + 1) < 1024 - i; omega)
 ·have hi' : i = 1024 := by omega
  rw [hi'] at hI0
  have hLb : (L0.map (fun z => z.1)).length ≤ (wB ks).length := xZ hS0.keys (fun z hz => aMj hks ((hI0 z).1 hz))
  rw [List.length_map, aNj] at hLb
  have hkk : ks.length * ks.length ≤ 65536 * 65536 := Nat.mul_le_mul hkl hkl
  refine cN (dB (cZ (eZ (aC (aD (aA (wq (aG (.map _) rfl) rfl ?_)))))))
  refine bY aZt rfl rfl (aIh _ b1) ?_
  rintro v7 w7 ⟨bb, rfl, hM7⟩
  have M7 : Mem _ _ [_, _] _ := hM2.call0 hM7
  refine bY bAx rfl rfl (qI _ bb b1 c0 L0 (M7.at_ (i := 0) rfl) (M7.lt List.mem_cons_self) hS0 (by omega) (lJ 1 M7 rfl rfl)) ?_
  rintro v8 w8 ⟨r, ys, hasc, hys, rfl, hr, hM8⟩
  have M8 : Mem _ _ [_, _, _] _ := M7.call0 hM8
  refine fZ rfl rfl (aB (aC (aN (cA (.slice _ _ _) rfl ?_))))
  exact ⟨r, ys, hasc, fun z => (hys z).trans (hI0 z), rfl, hr, M8.keep [false, false, true]⟩
set_option maxHeartbeats 4000000 in
theorem aEk (w : World) (A : Option Addr) (n c : Nat) (xs : List Body) (R : Rd w 10 A n (xs.map aF)) (hb : ∀ b ∈ xs, Okb b) :
  Calls Tryz.prog 132 #[.slice A n c] w (fun ex w' => ∃ v, ex = .returned v ∧ (fun v w' => ∃ (pm : Nat) (em : dL), v = .map (some pm) ∧ iP .u32 qB (bxM xs) (some pm) em ∧ Mem w [] [em] w') v w') := by
 have hlen : xs.length = n := by simpa using R.len
 have hbd := R.bound
 refine aH #[.tmp 2] 20 Tryz.func132 rfl Tryz.results132 Tryz.ntmps132 rfl ?_
 have M0 := Mem.refl w
 refine aD (aA (wq (aI (.map _) rfl) rfl (aB (aC (aD (aA (kS M0 rfl rfl (fun b1 w1 M1 => (wq (aI (.map _) rfl) rfl (aB (aC (aD (aD (aA ?_))))))))))))))
 refine eK rfl rfl (wq (cR Tryz.underlying22 rfl) rfl (aV rfl rfl (aB (aC (aT (dN (σ := Nat × dL) [2, 3, 7, 8] (fun (k, em) => [(9, .int .i64 (k : Int))]) (fun (k, em) w' => (k ≤ n ∧ iP .u32 qB (bxM (xs.take k)) (some b1) em) ∧ Mem w [] [em] w') (fun (k, em) => n - k) (0, (some b1, .map #[] 0)) (bK rfl fC) (⟨⟨by omega, (iP.empty _ _ b1).congr (fun q => by rw [List.take_zero]; exact aWl q)⟩, M1⟩) ?_))))))
 rintro ⟨k, em⟩ ρ2 w2 ⟨⟨hk, hme⟩, hM2⟩
 refine aD (aA (cS rfl rfl rfl rfl (aB (aC (aD ?_)))))
 refine aX rfl (fun h10 => ?_) (fun h10 => ?_)
 ·obtain ⟨xb, hxb⟩ := cL (k := k) hlen (by omega)
  refine aL (aC (aD (aT (aD (aA (wq (bX (k) eX rfl rfl rfl ((R.mem hM2).below_len (aJ aF hxb)) ((R.mem hM2).someK (aJ aF hxb))) rfl (wq (eB _ bL (R.mem hM2) (aJ aF hxb) rfl) rfl (aQ fQ hM2 rfl rfl (fun b3 w3 M3 => (bB 1 _ bL M3 rfl rfl rfl rfl rfl (aP rfl) rfl (fun w4 M4 => ?_)))))))))))
  refine aB (aC (bV [(0, 0), (1, 0), (2, 1), (3, 1), (4, 2), (5, 2)] mixed rfl (by kernel_rfl) (fun w5 hb5 hh5 => ?_)))
  have M5 := M4.drew hb5 hh5
  refine aZ rfl rfl rfl (fun _ => aG (.map _) rfl) (aZ rfl rfl rfl (fun _ => aE 0 eJ rfl) (cB rfl rfl rfl (aM 1 (.int _ _) bU M5 rfl rfl rfl) (cB rfl rfl rfl (aY 1 bL M5 rfl rfl rfl) (dR [true, false] rfl (by kernel_rfl) (bY aZb rfl rfl (bAw _ xb (hb xb (List.mem_of_getElem? hxb))) ?_)))))
  rintro v6 w6 ⟨rfl, hb6⟩
  have M6 := M5.callB hb6
  refine aB (aC ⟨(eQ (bP rfl (aM 1 (.int _ _) bU M6 rfl rfl rfl)) dS), ?_⟩)
  refine dR [true] rfl (by kernel_rfl) (gS (enc := qB) 0 aCz M6 rfl rfl hme rfl rfl rfl rfl (fun e7 w7 hm7 M7 => ?_))
  refine aB (aC ⟨dS, ?_⟩)
  refine cG (cV (aC (aA (wq (bM rfl rfl (by omega) (by omega)) rfl (aV rfl rfl (aB ?_))))))
  refine cQ (k + 1, e7) (bK rfl fC) (cU rfl (cU rfl (cU rfl (cU rfl kE)))) ?_ ?_
  ·exact ⟨⟨by omega, hm7.congr (fun q => aSl hxb q)⟩, M7.keep [true, false]⟩
  ·(show n - (k + 1) < n - k; omega)
 ·have hkn : k = n := by omega
  rw [List.take_of_length_le (by omega)] at hme
  refine cN (dB (cZ (eZ (aC (aD (aA (wq (aG (.map _) rfl) rfl ?_)))))))
  refine wq (aI (.map _) rfl) rfl (aB (aC (aN (cA (.map _) rfl ?_))))
  exact ⟨_, _, rfl, hme, hM2⟩
set_option maxHeartbeats 4000000 in
theorem xV (w : World) (pm : Nat) :
  Calls Tryz.prog 134 #[.map (some pm)] w (fun ex w' => ∃ v, ex = .returned v ∧ (fun v w' => ∃ bm bn, v = .tuple #[.func (.func 163) #[] #[.pointer (some ⟨bn, 0, none⟩), .pointer (some ⟨bm, 0, none⟩)], .func (.func 165) #[] #[.pointer (some ⟨bn, 0, none⟩)]] ∧ Mem w [] [(some bm, bc [.map (some pm)] 186), (some bn, bc [.int .i64 0] 3)] w') v w') := by
 refine aH #[.tmp 2, .tmp 3] 8 Tryz.func134 rfl Tryz.results134 Tryz.ntmps134 rfl ?_
 have M0 := Mem.refl w
 refine aD (aA (bJ (.map _) M0 rfl rfl rfl (fun b1 w1 M1 => (wq (aI (_) rfl) rfl (wq (aI (_) rfl) rfl (aB (aC (aD (aA (aQ bEl M1 rfl rfl (fun b2 w2 M2 => ?_)))))))))))
 refine dF 1 (.int _ _) mA M2 rfl rfl rfl rfl rfl rfl (fun w3 M3 => (aB (aC (aD (aA (wq (cM [] [.pointer _, .pointer _] rfl rfl) rfl (wq (aI (.func _ _ _) rfl) rfl (aB (aC (aD (aA (wq (aG (.func _ _ _) rfl) rfl ?_))))))))))))
 refine wq (cM [] [.pointer _] rfl rfl) rfl (wq (aI (.func _ _ _) rfl) rfl (wq (aI (.func _ _ _) rfl) rfl (aB (aC (aN (gV (.func _ _ _) (.func _ _ _) rfl rfl ?_))))))
 exact ⟨b1, b2, rfl, M3⟩
set_option maxHeartbeats 4000000 in
theorem zI (w : World) (bn : Nat) (m : Int) (K : Rd w 1 (some ⟨bn, 0, none⟩) 1 [[.int .i64 m]]) :
  Calls Tryz.prog 165 #[.pointer (some ⟨bn, 0, none⟩)] w (fun ex w' => ∃ v, ex = .returned v ∧ (fun v w' => v = .int .i64 m ∧ Below w.heap.size w w') v w') := by
 rw [← eO bn]
 refine aH #[.tmp 1] 3 Tryz.func165 rfl Tryz.results165 Tryz.ntmps165 rfl ?_
 have M0 := Mem.refl w
 refine aD (aA (bI rfl rfl (aB (aC (aD (aA (wq (eH (o := 0) (.int _ _) mA (K.mem M0) (show ([[.int .i64 m]] : List (List Value))[0]? = some [.int .i64 m] from rfl) rfl rfl) rfl (bI rfl rfl (aB (aC (aN ?_)))))))))))
 refine cA (.int _ _) rfl ?_
 exact ⟨rfl, M0.below⟩
set_option maxHeartbeats 4000000 in
theorem uK (w : World) (z : Int × Int) (bn bm m : Nat) (f : Int → Option Bx) (pm : Nat) (em : dL) (hme : iP .u32 qB f (some pm) em) (B : Rd w 1 (some ⟨bm, 0, none⟩) 1 [[.map (some pm)]]) (N : Rd w 4 (some ⟨3, 0, none⟩) 1 [dD iS]) (hO : Own [(some bn, bc [.int .i64 (m : Int)] 3), em] w) (hdB : 0 < 1 → ∀ q off, (some ⟨bm, 0, none⟩ : Option Addr) = some ⟨q, off, none⟩ → q ∉ bQ [(some bn, bc [.int .i64 (m : Int)] 3), em]) (hdN : 0 < 1 → ∀ q off, (some ⟨3, 0, none⟩ : Option Addr) = some ⟨q, off, none⟩ → q ∉ bQ [(some bn, bc [.int .i64 (m : Int)] 3), em]) (hm : m ≤ 1125899906842624) :
  Calls Tryz.prog 163 #[(.agg (bG z).toArray), .pointer (some ⟨bn, 0, none⟩), .pointer (some ⟨bm, 0, none⟩)] w (fun ex w' => ∃ v, ex = .returned v ∧ (fun v w' => v = .bool (apB f z) ∧ Mem w (bQ [(some bn, bc [.int .i64 (m : Int)] 3), em]) [(some bn, bc [.int .i64 ((m + 1 : Nat) : Int)] 3), em] w') v w') := by
 rw [← eO bm]
 refine aH #[.tmp 4] 17 Tryz.func163 rfl Tryz.results163 Tryz.ntmps163 rfl ?_
 have M0 := hO.mem
 refine aD (aA (bJ (.agg (List.toArray _)) M0 rfl rfl rfl (fun b1 w1 M1 => (wq (aI (.bool false) rfl) rfl (aB (aC (aD (aA (wq (aM 0 (.int _ _) mA M1 rfl rfl rfl) rfl (wq (bM rfl rfl (by omega) (by omega)) rfl ?_))))))))))
 refine aS 6 (.int .i64 ((m + 1 : Nat) : Int)) (iE (by omega)) (dF 0 (.int _ _) mA M1 rfl rfl rfl rfl rfl rfl (fun w2 M2 => (aB (aC (aD (aA (wq (eH (o := 0) (.map _) aSi (B.memY M2 hdB) (show ([[.map (some pm)]] : List (List Value))[0]? = some ([.map (some pm)]) from rfl) rfl rfl) rfl ?_)))))))
 refine wq (aE 0 mT rfl) rfl (wq (aM 2 (.int _ _) bU M2 rfl rfl rfl) rfl (wq (iR (enc := qB) z0B 1 aCz aTo M2 rfl hme rfl rfl) rfl (wq (eH (o := 0) (.map _) aSi (B.memY M2 hdB) (show ([[.map (some pm)]] : List (List Value))[0]? = some ([.map (some pm)]) from rfl) rfl rfl) rfl ?_)))
 refine wq (aE 1 mE rfl) rfl (wq (aM 2 (.int _ _) bU M2 rfl rfl rfl) rfl (wq (iR (enc := qB) z0B 1 aCz aTo M2 rfl hme rfl rfl) rfl (bY bCf rfl rfl (aDu _ (N.memY M2 hdN) ((f z.1).getD z0B) ((f z.2).getD z0B)) ?_)))
 rintro v3 w3 ⟨rfl, hb3⟩
 have M3 := M2.callB hb3
 refine wq (qC rfl) rfl (wq (aI (.bool (decide _)) rfl) rfl (aB (aC (aN (cA (.bool (decide _)) rfl ?_)))))
 exact ⟨rfl, M3.keep [true, true, false]⟩
set_option maxHeartbeats 4000000 in
theorem sK (w : World) (A : Option Addr) (n c : Nat) (zs : List (Int × Int)) (R : Rd w 2 A n (zs.map bG)) (bn bm m : Nat) (f : Int → Option Bx) (pm : Nat) (em : dL) (hme : iP .u32 qB f (some pm) em) (B : Rd w 1 (some ⟨bm, 0, none⟩) 1 [[.map (some pm)]]) (N : Rd w 4 (some ⟨3, 0, none⟩) 1 [dD iS]) (hO : Own [(some bn, bc [.int .i64 (m : Int)] 3), em] w) (hdA : 0 < n → ∀ q off, A = some ⟨q, off, none⟩ → q ∉ bQ [(some bn, bc [.int .i64 (m : Int)] 3), em]) (hdB : 0 < 1 → ∀ q off, (some ⟨bm, 0, none⟩ : Option Addr) = some ⟨q, off, none⟩ → q ∉ bQ [(some bn, bc [.int .i64 (m : Int)] 3), em]) (hdN : 0 < 1 → ∀ q off, (some ⟨3, 0, none⟩ : Option Addr) = some ⟨q, off, none⟩ → q ∉ bQ [(some bn, bc [.int .i64 (m : Int)] 3), em]) (hm : m + n ≤ 1125899906842624) (hn : n ≤ 1099511627776) :
  Calls Tryz.prog 166 #[.slice A n c, .func (.func 163) #[] #[.pointer (some ⟨bn, 0, none⟩), .pointer (some ⟨bm, 0, none⟩)]] w (fun ex w' => ∃ v, ex = .returned v ∧ (fun v w' => v = .int .i64 (if zs.findIdx (apB f) < n then (zs.findIdx (apB f) : Int) else -1) ∧ Mem w (bQ [(some bn, bc [.int .i64 (m : Int)] 3), em]) [(some bn, bc [.int .i64 ((m + min n (zs.findIdx (apB f) + 1) : Nat) : Int)] 3), em] w') v w') := by
 have hlen : zs.length = n := by simpa using R.len
 refine aH #[.tmp 4] 19 Tryz.func166 rfl Tryz.results166 Tryz.ntmps166 rfl ?_
 have M0 := hO.mem
 refine aD (aA (bI rfl rfl (aB (aC (aD (aD (aA (eK rfl rfl (wq (cR Tryz.underlying159 rfl) rfl (aV rfl rfl ?_))))))))))
 refine aB (aC (aT (dN (σ := Nat) [0, 1, 7] (fun k => [(8, .int .i64 (k : Int))]) (fun k w' => (k ≤ n ∧ ∀ (j : Nat) (x : Int × Int), j < k → zs[j]? = some x → apB f x = false) ∧ Mem w (bQ [(some bn, bc [.int .i64 (m : Int)] 3), em]) [(some bn, bc [.int .i64 ((m + k : Nat) : Int)] 3), em] w') (fun k => n - k) 0 (bK rfl fC) (⟨⟨by omega, fun j c hj => by omega⟩, M0⟩) ?_)))
 rintro k ρ1 w1 ⟨⟨hk, hno⟩, hM1⟩
 refine aD (aA (cS rfl rfl rfl rfl (aB (aC (aD ?_)))))
 refine aX rfl (fun h9 => ?_) (fun h9 => ?_)
 ·obtain ⟨xz, hxz⟩ := cL (k := k) hlen (by omega)
  refine aL (aC (aD (aT (aD (aA (aV rfl rfl (bI rfl rfl (aB (aC (aD (aA (wq (aG (.func _ _ _) rfl) rfl (eK rfl rfl ?_)))))))))))))
  refine aV rfl rfl (wq (bX (k) rW rfl rfl rfl ((R.memY hM1 hdA).below_len (aJ bG hxz)) ((R.memY hM1 hdA).someK (aJ bG hxz))) rfl (wq (eB _ fU (R.memY hM1 hdA) (aJ bG hxz) rfl) rfl (bY aPl rfl rfl (uK _ xz bn bm (m + k) f pm em hme (B.memY hM1 hdB) (N.memY hM1 hdN) (hM1.ownSeg 0 2) hdB hdN (by omega)) ?_)))
  rintro v2 w2 ⟨rfl, hM2⟩
  have M2 : Mem _ _ [_, _] _ := hM1.seg 0 2 hM2
  refine aB (aC ?_)
  refine gJ _ rfl (fun h16 => ?_) (fun h16 => ?_)
  ·refine aD (aA (aV rfl rfl (bI rfl rfl (aB (aC (aN (jC (cH ?_))))))))
   refine sQ (jC (cH (cA (.int _ _) rfl ?_)))
   have hfi := wT hxz h16 hno
   exact ⟨iE (by rw [hfi, if_pos (by omega)]), by rw [hfi, Nat.min_eq_right (by omega)]; exact M2⟩
  ·refine aL (cV (aC (aA (wq (bM rfl rfl (by omega) (by omega)) rfl (aV rfl rfl (aB ?_))))))
   refine cQ (k + 1) (bK rfl fC) (cU rfl (cU rfl (cU rfl kE))) ?_ ?_
   ·exact ⟨⟨by omega, rU (p := fun _ x => apB f x = false) hno hxz h16⟩, M2⟩
   ·omega
 ·refine cN (dB (cZ (eZ (aC (aD (aA (bI rfl rfl ?_)))))))
  refine aB (aC (aN (cA (.int _ _) rfl ?_)))
  have hkn : k = n := by omega
  have hfi := xH (p := apB f) (l := zs) (fun j y hy => hno j y (by have := (List.getElem?_eq_some_iff.1 hy).1; omega) hy)
  exact ⟨iE (by rw [hfi, if_neg (by omega)]), by rw [hfi, Nat.min_eq_left (by omega), ← hkn]; exact hM1⟩
set_option maxHeartbeats 16000000 in
theorem qQ (w : World) (A : Option Addr) (n c : Nat) (zs : List (Int × Int)) (er : dL) (hr : aW 119 2 A n c ((zs).map bG) er) (bn bm m : Nat) (f : Int → Option Bx) (pm : Nat) (em : dL) (hme : iP .u32 qB f (some pm) em) (B : Rd w 1 (some ⟨bm, 0, none⟩) 1 [[.map (some pm)]]) (N : Rd w 4 (some ⟨3, 0, none⟩) 1 [dD iS]) (hO : Own [er, (some bn, bc [.int .i64 (m : Int)] 3), em] w) (hdB : 0 < 1 → ∀ q off, (some ⟨bm, 0, none⟩ : Option Addr) = some ⟨q, off, none⟩ → q ∉ bQ [er, (some bn, bc [.int .i64 (m : Int)] 3), em]) (hdN : 0 < 1 → ∀ q off, (some ⟨3, 0, none⟩ : Option Addr) = some ⟨q, off, none⟩ → q ∉ bQ [er, (some bn, bc [.int .i64 (m : Int)] 3), em]) (hm : m + n ≤ 1125899906842624) (hn : n ≤ 1099511627776) :
  Calls Tryz.prog 135 #[.slice A n c, .func (.func 163) #[] #[.pointer (some ⟨bn, 0, none⟩), .pointer (some ⟨bm, 0, none⟩)]] w (fun ex w' => ∃ v, ex = .returned v ∧ (fun v w' => ∃ r : Row, v = .slice r.A r.n r.c ∧ aW 119 2 r.A r.n r.c ((zs.filter (fun z => !apB f z)).map bG) r.e ∧ Mem w (bQ [er, (some bn, bc [.int .i64 (m : Int)] 3), em]) [r.e, (some bn, bc [.int .i64 ((m + n : Nat) : Int)] 3), em] w') v w') := by
 have hlen : zs.length = n := by simpa using hr.1
 have hcap := hr.slice
 refine aH #[.tmp 4] 42 Tryz.func135 rfl Tryz.results135 Tryz.ntmps135 rfl ?_
 have M0 := hO.mem
 refine aD (aA (fZ rfl rfl (aB (aC (aD (aA (eK rfl rfl (wq (aG (.func _ _ _) rfl) rfl (bY aYz rfl rfl (sK _ A n c zs (hr.rd M0 (bC (i := 0) rfl)) bn bm m f pm em hme (B.memY M0 hdB) (N.memY M0 hdN) (M0.ownSeg 1 2) (hr.apartTail M0) (M0.away 1 2 B hdB) (M0.away 1 2 N hdN) hm hn) ?_)))))))))
 rintro v1 w1 ⟨rfl, hM1⟩
 have M1 : Mem _ _ [_, _, _] _ := M0.seg 1 2 hM1
 refine bI rfl rfl (aB (aC (aD (aD (aA (aV rfl rfl (cS rfl rfl rfl rfl (aB (aC ?_)))))))))
 refine aX rfl (fun h12 => ?_) (fun h12 => ?_)
 ·have hge : ¬ zs.findIdx (apB f) < n := fun h => by rw [if_pos h] at h12; omega
  refine aD (aA (eK rfl rfl (fZ rfl rfl (aB (aC (aN (cH (cA (.slice _ _ _) rfl ?_))))))))
  have e1 : m + min n (zs.findIdx (apB f) + 1) = m + n := by omega
  rw [e1] at M1
  exact ⟨⟨A, n, c, er⟩, rfl, by rw [aFy (by omega)]; exact hr, M1⟩
 ·have hlt : zs.findIdx (apB f) < n := Decidable.by_contra fun h => h12 (if_neg h)
  refine aL (aC (aD (aD (aA (aV rfl rfl (wq (bM rfl rfl (by omega) (by omega)) rfl (aS 15 (.int .i64 ((zs.findIdx (apB f) + 1 : Nat) : Int)) (iE (by rw [if_pos hlt]; omega)) (bI rfl rfl (aB (aC (aT ?_)))))))))))
  refine dN (σ := Nat × Nat × List (Int × Int) × dL) [0, 1, 4] (fun (j, k, zs2, en) => [(5, .int .i64 (k : Int)), (6, .int .i64 (j : Int))]) (fun (j, k, zs2, en) w' => (j ≤ n ∧ k < j ∧ zs2.take k = (zs.take j).filter (fun z => !apB f z) ∧ zs2.drop j = zs.drop j ∧ aW 119 2 A n c ((zs2).map bG) en) ∧ Mem w (bQ [er, (some bn, bc [.int .i64 (m : Int)] 3), em]) [en, (some bn, bc [.int .i64 ((m + j : Nat) : Int)] 3), em] w') (fun (j, k, zs2, en) => n - j) (zs.findIdx (apB f) + 1, zs.findIdx (apB f), zs, er) (bK (iv rfl (if_pos hlt)) (bK rfl fC)) (⟨⟨by omega, by omega, aBp (by omega), rfl, hr⟩, by
   have e1 : min n (zs.findIdx (apB f) + 1) = zs.findIdx (apB f) + 1 := by omega
   rw [e1] at M1
   exact M1⟩) ?_
  rintro ⟨j, k, zs2, en⟩ ρ2 w2 ⟨⟨hj, hkj, hpre, hsuf, hz2⟩, hM2⟩
  have hl2 : zs2.length = n := by simpa using hz2.1
  refine aD (aD (aA (aV rfl rfl (eK rfl rfl (wq (cR Tryz.underlying159 rfl) rfl (cS rfl rfl rfl rfl (aB (aC ?_))))))))
  refine aX rfl (fun h19 => ?_) (fun h19 => ?_)
  ·obtain ⟨xz, hxz⟩ := cL (k := j) hlen (by omega)
   have hxz2 : zs2[j]? = some xz := (aPg hsuf).trans hxz
   obtain ⟨xk, hxk⟩ := cL (k := k) hl2 (by omega)
   refine aL (aC (aD (aT (aD (aA (eK rfl rfl (aV rfl rfl (wq (bX (j) rW rfl rfl rfl ((hz2.rd hM2 (bC (i := 0) rfl)).below_len (aJ bG hxz2)) ((hz2.rd hM2 (bC (i := 0) rfl)).someK (aJ bG hxz2))) rfl (wq (eB _ fU (hz2.rd hM2 (bC (i := 0) rfl)) (aJ bG hxz2) rfl) rfl ?_)))))))))
   refine aQ pD hM2 rfl rfl (fun b3 w3 M3 => (bB 3 _ fU M3 rfl rfl rfl rfl rfl (aP rfl) rfl (fun w4 M4 => (aB (aC (aD (aA (wq (aG (.func _ _ _) rfl) rfl (wq (aY 3 fU M4 rfl rfl rfl) rfl (bY aPl rfl rfl (uK _ xz bn bm (m + j) f pm em hme (B.memY M4 hdB) (N.memY M4 hdN) (M4.ownSeg 1 2) (M4.away 1 2 B hdB) (M4.away 1 2 N hdN) (by omega)) ?_))))))))))
   rintro v5 w5 ⟨rfl, hM5⟩
   have M5 : Mem _ _ [_, _, _, _] _ := M4.seg 1 2 hM5
   refine wq (jJ _ rfl rfl) rfl (aB (aC ?_))
   refine gJ _ rfl (fun h29 => ?_) (fun h29 => ?_)
   ·refine aD (aA (eK rfl rfl (aV rfl rfl (wq (aY 3 fU M5 rfl rfl rfl) rfl (wq (bX (k) rW rfl rfl rfl ((hz2.rd M5 (bC (i := 0) rfl)).below_len (aJ bG hxk)) ((hz2.rd M5 (bC (i := 0) rfl)).someK (aJ bG hxk))) rfl (aBu 0 _ fU M5 rfl hz2 (aJ bG hxk) rfl rfl rfl rfl (aP rfl) (fun e6 w6 hR6 M6 => ?_)))))))
    have hQ6 := hR6.mapSet (f := bG) (x := xz) rfl
    refine aB (aC (aA (aV rfl rfl (wq (bM rfl rfl (by omega) (by omega)) rfl (bI rfl rfl (aB (cV ?_)))))))
    refine aC (aA (aV rfl rfl (wq (bM rfl rfl (by omega) (by omega)) rfl (bI rfl rfl (aB ?_)))))
    refine cQ (j + 1, k + 1, zs2.set k xz, e6) (bK rfl (bK rfl fC)) (cU rfl (cU rfl (cU rfl kE))) ?_ ?_
    ·exact ⟨⟨by omega, by omega, by rw [aPx (by omega), hpre, tS hxz, if_neg (by simpa using h29)], by rw [aSo (by omega)]; exact zT hsuf, hQ6⟩, M6.keep [true, true, true, false]⟩
    ·(show n - (j + 1) < n - j; omega)
   ·refine aL (cV (aC (aA (aV rfl rfl (wq (bM rfl rfl (by omega) (by omega)) rfl (bI rfl rfl ?_))))))
    refine aB ?_
    refine cQ (j + 1, k, zs2, en) (bK rfl (bK rfl fC)) (cU rfl (cU rfl (cU rfl kE))) ?_ ?_
    ·exact ⟨⟨by omega, by omega, by rw [hpre, tS hxz, if_pos (by simpa using h29), List.append_nil], zT hsuf, hz2⟩, M5.keep [true, true, true, false]⟩
    ·(show n - (j + 1) < n - j; omega)
  ·have hjn : j = n := by omega
   rw [hjn, show List.take n zs = zs from List.take_of_length_le (by omega)] at hpre
   refine cN (dB (cZ (eZ (aC (aD (aA (eK rfl rfl ?_)))))))
   refine aV rfl rfl (wq (fM ((k : Int)) ((n : Int)) rW rfl ⟨_, rfl⟩ rfl (by omega) (by omega) (by omega)) rfl (aTk 0 (k) rW (fun zv hz => by rw [bDc] at hz; injection hz with hz; subst hz; simp [Go.Bil.one, Value.cells]) hM2 rfl rfl hz2 (by omega) rfl (fun e7 w7 hR7 M7 => (aB (aC (aD (aA ?_)))))))
   refine eK rfl rfl (aV rfl rfl (wq (fM (0) ((k : Int)) rW rfl rfl ⟨_, rfl⟩ (by decide) (by omega) (by omega)) rfl (fZ rfl rfl (aB (aC (aN (cA (.slice _ _ _) rfl ?_)))))))
   rw [hjn] at M7
   have hpf := hR7
   rw [← List.map_take, hpre] at hpf
   exact ⟨⟨_, _, _, e7⟩, rfl, hpf, M7⟩
set_option maxRecDepth 100000 in
theorem bEg : fG Tryz.prog 191 = some (dC (List.replicate 1024 iG) 0) := by kernel_rfl
set_option maxHeartbeats 16000000 in
theorem aJn (w : World) (F : Rd w 2 (some ⟨0, 0, none⟩) 1 [[.int .u32 73856093, .int .u32 19349663]]) (N : Rd w 4 (some ⟨3, 0, none⟩) 1 [dD iS]) (A : Option Addr) (n c : Nat) (xs : List Body) (R : Rd w 10 A n (xs.map aF)) (hb : ∀ b ∈ xs, Okb b) (hs : bS xs) (hn : n ≤ 4096) :
  Calls Tryz.prog 105 #[.slice A n c] w (fun ex w' => ∃ v, ex = .returned v ∧ (fun v w' => ∃ (r : Row) (m : Nat), v = .tuple #[.slice r.A r.n r.c, .int .i64 (m : Int)] ∧ (kP xs).length ≤ m ∧ 2 * m ≤ xs.length * (xs.length - 1) ∧ aW 119 2 r.A r.n r.c ((kP xs).map bG) r.e ∧ Mem w [] [r.e] w') v w') := by
 have hlen : xs.length = n := by simpa using R.len
 have hbd := R.bound
 refine aH #[.tmp 2, .tmp 3] 37 Tryz.func105 rfl Tryz.results105 Tryz.ntmps105 rfl ?_
 have M0 := Mem.refl w
 refine aD (aA (fZ rfl rfl (bI rfl rfl (aB (aC (aD (aA (eK rfl rfl (bY bBs rfl rfl (aEk _ _ _ _ xs (R.mem M0) hb) ?_)))))))))
 rintro v1 w1 ⟨pm, em, rfl, hme, hM1⟩
 have M1 : Mem _ _ [_] _ := M0.call0 hM1
 refine wq (aI (.map _) rfl) rfl (aB (aC (aD (aA (aQ bEg M1 rfl rfl (fun b2 w2 M2 => ?_))))))
 have M3 := Mem.gridNew (L := [_]) M2
 refine aB (aC (aD (aD (aA (eK rfl rfl (wq (cR Tryz.underlying22 rfl) rfl (aV rfl rfl (aB (aC (aT (dN (σ := Nat × List Row) [2, 3, 4, 5, 12, 13] (fun (k, rs) => [(14, .int .i64 (k : Int))]) (fun (k, rs) w' => (k ≤ n ∧ GridRows 36 rs (gOf (xs.take k))) ∧ Mem w [] ([em] ++ ((some b2, bc (dC rs (k : Int)) 191) :: rs.map Row.e)) w') (fun (k, rs) => n - k) (0, List.replicate 1024 iG) (bK rfl fC) (⟨⟨by omega, by rw [List.take_zero]; exact aTq _⟩, M3⟩) ?_)))))))))))
 rintro ⟨k, rs⟩ ρ4 w4 ⟨⟨hk, hrs⟩, hM4⟩
 refine aD (aA (cS rfl rfl rfl rfl (aB (aC (aD ?_)))))
 refine aX rfl (fun h15 => ?_) (fun h15 => ?_)
 ·obtain ⟨xb, hxb⟩ := cL (k := k) hlen (by omega)
  refine aL (aC (aD (aT (aD (aA (wq (bX (k) eX rfl rfl rfl ((R.mem hM4).below_len (aJ aF hxb)) ((R.mem hM4).someK (aJ aF hxb))) rfl (wq (eB _ bL (R.mem hM4) (aJ aF hxb) rfl) rfl (aQ fQ hM4 rfl rfl (fun b5 w5 M5 => ?_)))))))))
  have M6 : Mem _ _ ([_, _] ++ _) _ := Mem.front (L := [_]) M5
  refine bB 1 _ bL M6 rfl rfl rfl rfl rfl (aP rfl) rfl (fun w7 M7 => (aB (aC (aA (wq (aE 0 eJ rfl) rfl (wq (aM 1 (.int _ _) bU M7 rfl rfl rfl) rfl (wq (aG (.map _) rfl) rfl (wq (aE 0 eJ rfl) rfl ?_))))))))
  refine wq (aM 1 (.int _ _) bU M7 rfl rfl rfl) rfl (wq (iR (enc := qB) z0B 0 aCz aTo M7 rfl hme rfl rfl) rfl (aS 23 (.agg (dD (gZ xb)).toArray) (congrArg qB (by rw [nF hs (List.mem_of_getElem? hxb)]; rfl)) (bY bBn rfl rfl (aDs _ (F.mem M7) b2 rs (k : Int) (gOf (xs.take k)) hrs ⟨by omega, by omega⟩ (fun j _ => Nat.le_trans (aWb _ _) (by simp; omega)) xb.key (gZ xb) (bAg (hb xb (List.mem_of_getElem? hxb))) (Mem.ownTail (L := [_, _]) M7) (Mem.awayTail (L := [_, _]) M7 F)) ?_)))
  rintro v8 w8 ⟨rfl, rs2, hrs2, hM8⟩
  have M8 : Mem _ _ ([_, _] ++ _) _ := Mem.tail (L := [_, _]) M7 hM8
  refine aB (cV (aC (aA (wq (bM rfl rfl (by omega) (by omega)) rfl (aV rfl rfl (aB ?_))))))
  refine cQ (k + 1, rs2) (bK rfl fC) (cU rfl (cU rfl (cU rfl (cU rfl (cU rfl (cU rfl kE)))))) ?_ ?_
  ·exact ⟨⟨by omega, by rw [aTj hxb]; exact hrs2⟩, Mem.keepL (L := [_, _]) [true, false] M8⟩
  ·(show n - (k + 1) < n - k; omega)
 ·have hkn : k = n := by omega
  rw [List.take_of_length_le (by omega)] at hrs
  refine cN (dB (cZ (eZ (aC (aD (aA (wq (aG (.map _) rfl) rfl ?_)))))))
  refine bY aZe rfl rfl (xV _ pm) ?_
  rintro v9 w9 ⟨bm, bn, rfl, hM9⟩
  have M9 : Mem _ _ ([_, _, _] ++ _) _ := Mem.front (L := [_]) (hM4.call0 hM9)
  refine wq (aG (.tuple (List.toArray _)) rfl) rfl (wq (bE (.func _ _ _) rfl rfl) rfl (wq (bE (.func _ _ _) rfl rfl) rfl (wq (aI (.func _ _ _) rfl) rfl (wq (aI (.func _ _ _) rfl) rfl (aB (aC (aD (aA ?_))))))))
  refine bY aZx rfl rfl (uZ _ b2 rs (k : Int) (gOf xs) hrs.len (Mem.gridRd (L := [_, _, _]) M9 hrs.len) (fun j r hr => Mem.rowRd (L := [_, _, _]) M9 hrs j r hr) (xs.map (·.key)) (fun j _ x hx => by obtain ⟨b, h1, _, rfl⟩ := nL.1 hx; exact List.mem_map.2 ⟨b, h1, rfl⟩) (by simp; omega)) ?_
  rintro v10 w10 ⟨r, ps, hasc, hps, rfl, hr, hM10⟩
  have M10 : Mem _ _ ([_, _, _, _] ++ _) _ := Mem.front (L := [_, _, _]) (M9.call0 hM10)
  have hpl := aNw hs hasc hps
  have hrl : ps.length = r.n := by simpa using hr.1
  have hnn : xs.length * (xs.length - 1) ≤ 4096 * 4096 := Nat.mul_le_mul (by omega) (by omega)
  refine wq (aG (.func _ _ _) rfl) rfl ?_
  have M11 : Mem _ _ [_, _, _, _] _ := Mem.order4 M10
  refine bY bBu rfl rfl (qQ _ r.A r.n r.c ps r.e hr bn bm 0 (bxM xs) pm em hme (lJ 3 M11 rfl rfl) (N.mem M11) (M11.ownSeg 0 3) (M11.apartTake 3 3 rfl rfl) (M11.away 0 3 N (fun _ q off _ h => by simp at h)) (by omega) (by omega)) ?_
  rintro v12 w12 ⟨r2, rfl, hr2, hM12⟩
  have M12 : Mem _ _ [_, _, _, _] _ := M11.seg 0 3 hM12
  have hfl : (kP xs).length ≤ ps.length := by rw [← vZ hs hasc hps]; exact List.length_filter_le _ _
  rw [vZ hs hasc hps] at hr2
  refine fZ rfl rfl (aB (aC (aD (aA (eK rfl rfl (wq (aG (.func _ _ _) rfl) rfl (bY bBa rfl rfl (zI _ bn _ (lJ 1 M12 rfl rfl)) ?_)))))))
  rintro v13 w13 ⟨rfl, hb13⟩
  have M13 := M12.callB hb13
  refine fZ rfl rfl (bI rfl rfl (aB (aC (aN (gV (.slice _ _ _) (.int _ _) rfl rfl ?_)))))
  exact ⟨r2, 0 + r.n, rfl, by omega, by omega, hr2, M13.keep [true, false, false, false]⟩
end Go.Proofs.YtlmcphcgiclanaaGreatDoor
