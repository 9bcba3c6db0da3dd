/- Part of the proof of the laws of this seat: P10, Q10, U11, V11, W11, Aw11. No conditions. -/
import Derived.Test.YtaoaknafiegfoaaGreatDoorK2
import Derived.Test.YtaoaknafiegfoaaGreatDoorK5
import Derived.Test.YtaoaknafiegfoaaGreatDoorK25
import Derived.Test.YtaoaknafiegfoaaGreatDoorK17
import Derived.Test.YtaoaknafiegfoaaGreatDoorK21
import Derived.Test.YtaoaknafiegfoaaGreatDoorK24
set_option linter.unusedVariables false
set_option linter.unusedSimpArgs false
set_option linter.unnecessarySimpa false
namespace Go.Proofs.YtaoaknafiegfoaaGreatDoor
open Go.Bil
open Go.RowKit (Below)
open Go.Proofs
set_option maxHeartbeats 4000000 in
theorem aNq (w : World) (a b : Int) :
  Calls Tryz.prog 210 #[.int .u32 a, .int .u32 b] w (fun ex w' => ∃ v, ex = .returned v ∧ (fun v w' => v = (.agg (bI (prI a b)).toArray) ∧ Below w.heap.size w w') v w') := by
 refine aH #[.cell 4 209] 12 Tryz.func210 rfl Tryz.results210 Tryz.ntmps210 rfl ?_
 have M0 := Mem.refl w
 refine aD (aA (aP qD M0 rfl rfl (fun b1 w1 M1 => (aB (aC (aD (aA (aY rfl rfl (aY rfl rfl (wq (xU rfl rfl ) rfl ?_))))))))))
 refine aY rfl rfl (aY rfl rfl (wq (nP rfl rfl ) rfl (wq (cD [(0, .int _ _), (1, .int _ _)] _ aCj rfl rfl) rfl (bB 0 _ gA M1 rfl rfl rfl rfl rfl (aQ rfl) rfl (fun w2 M2 => (aB (aC (aN ?_))))))))
 refine eP 0 gA M2 rfl rfl rfl ?_
 exact ⟨rfl, M2.below⟩
set_option maxHeartbeats 4000000 in
theorem aZm (w : World) (A : Option Addr) (x y : Int) (R : Rd w 1 A 2 [[.int .i64 x], [.int .i64 y]]) :
  Calls Tryz.prog 236 #[.slice A 2 2] w (fun ex w' => ∃ v, ex = .returned v ∧ (fun v w' => v = .int .i64 (if x = 0 then y else x) ∧ w' = w) v w') := by
 refine aH #[.tmp 2] 18 Tryz.func236 rfl Tryz.results236 Tryz.ntmps236 rfl ?_
 have M0 := Mem.refl w
 refine aD (aA (bP rfl rfl (aB (aC (aD (aA (bP rfl rfl (aB (aC (aD (aD (aA (eC rfl rfl ?_)))))))))))))
 refine wq (cR Tryz.underlying353 rfl) rfl (aS 7 (.int .i64 2) (iE rfl) (aY rfl rfl (aB (aC (aT (lO 3 (iC (aD (aA ?_)))))))))
 refine cY rfl rfl rfl rfl (oG 9 rfl (by first | decide | omega) (aB (aC (aD (cQ rfl (aM (aC (aD (aT (aD (aA (wq (bV (0) aTd rfl rfl rfl (R.below_len ((rfl : ([[.int .i64 x], [.int .i64 y]] : List (List Value))[0]? = some [.int .i64 x]))) (R.someK ((rfl : ([[.int .i64 x], [.int .i64 y]] : List (List Value))[0]? = some [.int .i64 x])))) rfl ?_))))))))))))
 refine wq (gT (.int _ _) iM R ((rfl : ([[.int .i64 x], [.int .i64 y]] : List (List Value))[0]? = some [.int .i64 x])) rfl) rfl (bP rfl rfl (aB (aC (aD (aA (aY rfl rfl (aY rfl rfl (cY rfl rfl rfl rfl ?_))))))))
 refine aB (aC ?_)
 refine bE rfl (fun h14 => ?_) (fun h14 => ?_)
 ·refine aD (aA (aY rfl rfl (bP rfl rfl (aB (aC (aN (jN (cJ (cJ ?_)))))))))
  refine jN (cJ (cB (.int _ _) rfl ?_))
  exact ⟨iE (by split <;> omega), rfl⟩
 ·refine aM (dJ (aC (aA (wq (bQ rfl rfl (by first | decide | omega) (by first | decide | omega)) rfl (aS 16 (.int .i64 1) (iE (by first | decide | omega)) (aY rfl rfl ?_))))))
  refine aB (aC (iC (aD (aA (cY rfl rfl rfl rfl (oG 9 rfl (by first | decide | omega) (aB (aC (aD ?_)))))))))
  refine cQ rfl (aM (aC (aD (aT (aD (aA (wq (bV (1) aTd rfl rfl rfl (R.below_len ((rfl : ([[.int .i64 x], [.int .i64 y]] : List (List Value))[1]? = some [.int .i64 y]))) (R.someK ((rfl : ([[.int .i64 x], [.int .i64 y]] : List (List Value))[1]? = some [.int .i64 y])))) rfl (wq (gT (.int _ _) iM R ((rfl : ([[.int .i64 x], [.int .i64 y]] : List (List Value))[1]? = some [.int .i64 y])) rfl) rfl ?_))))))))
  refine bP rfl rfl (aB (aC (aD (aA (aY rfl rfl (aY rfl rfl (cY rfl rfl rfl rfl (aB (aC ?_)))))))))
  refine bE rfl (fun h14 => ?_) (fun h14 => ?_)
  ·refine aD (aA (aY rfl rfl (bP rfl rfl (aB (aC (aN (jN (cJ (cJ ?_)))))))))
   refine jN (cJ (cB (.int _ _) rfl ?_))
   exact ⟨iE (by split <;> omega), rfl⟩
  ·refine aM (dJ (aC (aA (wq (bQ rfl rfl (by first | decide | omega) (by first | decide | omega)) rfl (aS 16 (.int .i64 2) (iE (by first | decide | omega)) (aY rfl rfl ?_))))))
   refine aB (aC (iC (aD (aA (cY rfl rfl rfl rfl (tW 9 rfl (by first | decide | omega) (aB (aC (aD ?_)))))))))
   refine cC rfl (cO (dC (dC (eV (aC (aD (aA (aY rfl rfl ?_))))))))
   refine bP rfl rfl (aB (aC (aN (cB (.int _ _) rfl ?_))))
   exact ⟨iE (by split <;> omega), rfl⟩
set_option maxHeartbeats 4000000 in
theorem aDy (a b : Int × Int) (w : World) :
  Calls Tryz.prog 213 #[(.agg (bI a).toArray), (.agg (bI b).toArray)] w (fun ex w' => ∃ v, ex = .returned v ∧ (fun v w' => v = .int .i64 (aPv a b) ∧ ∃ q os, w' = Go.Sort.grow (w.drewN q) os) v w') := by
 refine aH #[.tmp 4] 17 Tryz.func213 rfl Tryz.results213 Tryz.ntmps213 rfl ?_
 have M0 := Mem.refl w
 refine aD (aA (wV (.agg (List.toArray _)) M0 rfl rfl rfl (fun M1 => (wV (.agg (List.toArray _)) M1 rfl rfl rfl (fun M2 => (bP rfl rfl (aB (aC (aD (aZx [(0, 0), (1, 1), (2, 0), (3, 1), (5, 0), (6, 1), (7, 0), (8, 1), (4, 2), (9, 2), (10, 2), (11, 2), (12, 0)] mixed rfl (by kernel_rfl) ?_))))))))))
 have M3 := M2.drewE
 refine aX rfl rfl rfl (fun _ => aE 0 nL rfl) (cA rfl rfl rfl (aK 0 (.int _ _) bY M3 rfl rfl rfl) (aX rfl rfl rfl (fun _ => aE 0 nL rfl) (cA rfl rfl rfl (aK 1 (.int _ _) bY M3 rfl rfl rfl) (aX rfl rfl rfl (fun _ => aE 1 mT rfl) (cA rfl rfl rfl (aK 0 (.int _ _) bY M3 rfl rfl rfl) ?_)))))
 refine aX rfl rfl rfl (fun _ => aE 1 mT rfl) (cA rfl rfl rfl (aK 1 (.int _ _) bY M3 rfl rfl rfl) (dL [false, false, true, true] rfl (by kernel_rfl) (bX aEq rfl rfl (kD _ _ _) ?_)))
 rintro v4 w4 ⟨rfl, rfl⟩
 have M4 : Mem _ _ [_, _] _ := M3
 refine aB (aC ⟨(eK (bL rfl (aK 1 (.int _ _) bY M4 rfl rfl rfl)) (eK (bL rfl (aK 0 (.int _ _) bY M4 rfl rfl rfl)) dM)), ?_⟩)
 refine dL [true, true] rfl (by kernel_rfl) (bX aEq rfl rfl (kD _ _ _) ?_)
 rintro v5 w5 ⟨rfl, rfl⟩
 have M5 : Mem _ _ [_, _] _ := M4
 refine aB (aC ⟨dM, ?_⟩)
 refine dL [] rfl (by kernel_rfl) (aKg [.int _ _, .int _ _] [[.int .i64 (lB a.1 b.1)], [.int .i64 (lB a.2 b.2)]] rfl aTd M5 rfl rfl rfl rfl (dD rfl) (by decide) (fun M6 => ?_))
 refine aB (aC ⟨dM, ?_⟩)
 refine dL [] rfl (by kernel_rfl) (bX bFk rfl rfl (aZm _ _ _ _ ((jZ (T := 3) [[.int .i64 (lB a.1 b.1)], [.int .i64 (lB a.2 b.2)]] (by simp) rfl (show 2 ≤ 281474976710656 by decide)).rd M6 (aV (i := 2) rfl))) ?_)
 rintro v7 w7 ⟨rfl, rfl⟩
 have M7 : Mem _ _ [_, _, _] _ := M6
 refine aB (aC ⟨dM, ?_⟩)
 refine qL rfl rfl rfl (cF (aC (aN (cB (.int _ _) rfl ?_))))
 exact ⟨iE rfl, bIi _ _ _ _⟩
theorem aTv : aMc Tryz.prog 213 bI aPv := fun x y w => aDy x y w
theorem aRg : KeyT Tryz.prog 287 209 288 bI := by
 refine ⟨Tryz.underlying287, ⟨_, Tryz.underlying209⟩, fun a w => ?_, fun a b w => ?_, fun a => by simp [bI, Instr.sameBits]⟩
 ·have h42 := aZ (w := w) Tryz.underlying209
  have hc : ∀ x : Int, (Instr.checkKey false 9999 35 (.int .u32 x)).run Tryz.prog w = .ok () w := fun x => MapKept.run_checkKey (d := .int .u32) Tryz.underlying35 (by simp [MapKept.IsKey]) false 9998
  have p0 : (Go.part 35 #[.int .u32 a.1, .int .u32 a.2] 0).run Tryz.prog w = .ok (.int .u32 a.1) w := jJ (l := [.int .u32 a.1, .int .u32 a.2]) bY rfl
  have p1 : (Go.part 35 #[.int .u32 a.1, .int .u32 a.2] 1).run Tryz.prog w = .ok (.int .u32 a.2) w := jJ (l := [.int .u32 a.1, .int .u32 a.2]) bY rfl
  show (Instr.checkKey false (9999 + 1) 209 _).run _ w = _
  unfold Instr.checkKey
  simp only [Sem.run_bind, h42, Result.andThen_ok, bI]
  simp [p0, p1, hc, Sem.run_bind, Sem.run_pure]
 ·have h := (bEq a.1 a.2 b.1 b.2).2 w
  have e : decide (a.1 = b.1 ∧ a.2 = b.2) = decide (a = b) := decide_eq_decide.2 Prod.ext_iff.symm
  rw [e] at h
  exact h
theorem yR (w : World) (A : Option Addr) (n c : Nat) (xs : List (Int × Int)) (e : dG) (hR : aU 209 2 A n c (xs.map bI) e) (hw : Own [e] w) (hn : n ≤ 1099511627776) :
  Calls Tryz.prog 234 #[.slice A n c, .func (.func 213) #[] #[]] w (fun ex w' => ∃ v, ex = .returned v ∧ v = .tuple #[] ∧ ∃ (ys : List (Int × Int)) (e' : dG), ys.Perm xs ∧ (ys.Pairwise fun a b => ¬ ltP b a) ∧ aU 209 2 A n c (ys.map bI) e' ∧ Mem w (bH [e]) [e'] w') := by
 have h := qZ aOx (T := 209) gA bI aAl (fun x v hv => by simp only [bI, List.mem_cons, List.not_mem_nil, or_false] at hv; rcases hv with h | h <;> subst h <;> rfl) _ aUi 213 bCs aTv w A xs e hR hw (by omega)
 refine Calls.mono h ?_
 rintro ex w' ⟨v, h1, h2, ys, e', h3, h4, h5, h6⟩
 refine ⟨v, h1, h2, ys, e', h3, ?_, h5, h6⟩
 refine List.pairwise_iff_getElem.2 fun i j hi hj hij => ?_
 have := h4 i j _ _ hij (List.getElem?_eq_getElem hi) (List.getElem?_eq_getElem hj)
 have h := of_decide_eq_false this
 rwa [aGs] at h
set_option maxHeartbeats 4000000 in
theorem aJp (w : World) (mb : Nat) :
  Calls Tryz.prog 212 #[.map (some mb)] w (fun ex w' => ∃ v, ex = .returned v ∧ (fun v w' => ∃ bb, v = .func (.func 235) #[] #[.pointer (some ⟨bb, 0, none⟩)] ∧ Mem w [] [(some bb, bc [.map (some mb)] 287)] w') v w') := by
 refine aH #[.tmp 2] 4 Tryz.func212 rfl Tryz.results212 Tryz.ntmps212 rfl ?_
 have M0 := Mem.refl w
 refine aD (aA (bC (.map _) M0 rfl rfl rfl (fun b1 w1 M1 => (wq (aI (_) rfl) rfl (aB (aC (aD (aA (wq (cM [] [.pointer _] rfl rfl) rfl (wq (aI (.func _ _ _) rfl) rfl ?_))))))))))
 refine aB (aC (aN (cB (.func _ _ _) rfl ?_)))
 exact ⟨b1, rfl, M1⟩
set_option maxHeartbeats 4000000 in
theorem aFg (w : World) (bb : Nat) (mb clock : Nat) (L : List ((Int × Int) × Nat)) (hmb : w.heap[mb]? = some (iL bI L clock)) (hml : mb < w.heap.size) (hS : SetOk L clock) (hLN : L.length < 1099511627776) (B1 : Rd w 1 (some ⟨bb, 0, none⟩) 1 [[.map (some mb)]]) (lp ob : Nat) (rec : Loop) (hY : tD Tryz.prog lp ob rec 220 209 2 1099511627776 (fun x => ∃ a b, x = [.int .u32 a, .int .u32 b])) (r0 : Row) (hr0 : aU 209 2 r0.A r0.n r0.c [] r0.e) (hO : Own [(some lp, .loop rec), (some ob, bc [.slice r0.A r0.n r0.c] 220), r0.e] w) (hd1 : 0 < 1 → ∀ q off, (some ⟨bb, 0, none⟩ : Option Addr) = some ⟨q, off, none⟩ → q ∉ bH [(some lp, .loop rec), (some ob, bc [.slice r0.A r0.n r0.c] 220), r0.e]) (hmX : mb ∉ bH [(some lp, .loop rec), (some ob, bc [.slice r0.A r0.n r0.c] 220), r0.e]) :
  Calls Tryz.prog 235 #[.func (.yield lp) #[] #[], .pointer (some ⟨bb, 0, none⟩)] w (fun ex w' => ∃ v, ex = .returned v ∧ (fun v w' => v = .tuple #[] ∧ ∃ (r : Row) (T : List ((Int × Int) × Nat)), T.Perm L ∧ aU 209 2 r.A r.n r.c ((T.map (fun z => z.1)).map bI) r.e ∧ Mem w (bH [(some lp, .loop rec), (some ob, bc [.slice r0.A r0.n r0.c] 220), r0.e]) [(some lp, .loop rec), (some ob, bc [.slice r.A r.n r.c] 220), r.e] w') v w') := by
 rw [← eM bb]
 refine aH #[] 14 Tryz.func235 rfl Tryz.results235 Tryz.ntmps235 rfl ?_
 have M0 := hO.mem
 refine aD (aA (wq (eI (o := 0) (.map _) bEv (B1.memY M0 hd1) (show ([[.map (some mb)]] : List (List Value))[0]? = some ([.map (some mb)]) from rfl) rfl rfl) rfl (aTi (α := Int × Int) Tryz.underlying287 M0 rfl rfl rfl ((M0.old mb hml hmX).trans hmb) (fun b1 w1 M1 => (aB (aC (aT ?_)))))))
 refine dP (σ := List ((Int × Int) × Nat) × Row) [0, 5] (fun (T, r) => []) (fun (T, r) w' => ((∀ p ∈ T, p ∈ L) ∧ (T.map (·.2)).Nodup ∧ aU 209 2 r.A r.n r.c ((T.map (fun z => z.1)).map bI) r.e) ∧ Mem w (bH [(some lp, .loop rec), (some ob, bc [.slice r0.A r0.n r0.c] 220), r0.e]) [(some lp, .loop rec), (some ob, bc [.slice r.A r.n r.c] 220), r.e, (some b1, rW mb clock T)] w') (fun (T, r) => L.length - T.length) ([], r0) fD (⟨⟨(fun p hp => nomatch hp), by simp, hr0⟩, M1⟩) ?_
 rintro ⟨T, r⟩ ρ2 w2 ⟨⟨hTs, hTn, hr⟩, hM2⟩
 have hrl : T.length = r.n := by simpa using hr.1
 have hTl := aHr hTn hTs
 refine aD (aA ?_)
 refine aXl (enc := bI) 3 hM2 rfl rfl rfl rfl ((hM2.old mb hml hmX).trans hmb) hS.lt (fun hover => ?_) (fun p3 w3 hp3 hnp3 M3 => ?_)
 ·refine wq (bG (.bool false) rfl rfl) rfl (aB (aC (aD (cC rfl (cO (dC (dA ?_)))))))
  refine eV (iX ?_)
  exact ⟨rfl, r, T, aTk hS.nd hTn hTs hover, hr, hM2.keep [true, true, true, false]⟩
 ·refine wq (bG (.bool true) rfl rfl) rfl (aB (aC (aD (cQ rfl (aM (aC (aT (aD (aA (wq (aWp (enc := bI) 3 (p3) M3 rfl rfl ((M3.old mb hml hmX).trans hmb) hp3 hS.nd) rfl (wq (bG (.agg (List.toArray _)) rfl rfl) rfl ?_)))))))))))
  refine aP qD M3 rfl rfl (fun b4 w4 M4 => (bB 4 _ gA M4 rfl rfl rfl rfl rfl (aQ rfl) rfl (fun w5 M5 => (aB (aC (aD (aBh (aCa (aG (.func _ _ _) rfl) rfl rfl (aCa (bA 4 gA M5 rfl rfl rfl) rfl rfl ?_)))))))))
  obtain ⟨fy, ty, ay, by1, hy1, hy2⟩ := hY _ r ((T.map (fun z => z.1)).map bI) (bI p3.1) ⟨_, _, rfl⟩ (by omega) hr (M5.ownSeg 0 3)
  refine aCp rfl rfl rfl rfl hy1 (hy2.mono ?_)
  rintro _ w6 ⟨rfl, q6, hqn6, hq6, hM6⟩
  have M6 : Mem _ _ [_, _, _, _, _] _ := M5.seg 0 3 hM6
  refine ⟨_, rfl, ?_⟩
  refine aVn rfl (fun _ _ h => h) (wq (gE false rfl rfl) rfl (aB (aC (cC rfl (aM (dJ ?_))))))
  have hTs2 : ∀ p ∈ T ++ [p3], p ∈ L := fun p hp => (List.mem_append.1 hp).elim (hTs p) (fun h => by rw [List.mem_singleton] at h; rw [h]; exact hp3)
  have hTn2 := aOr hTn hnp3
  have hTl2 := aHr hTn2 hTs2
  rw [List.length_append, List.length_singleton] at hTl2
  refine cT (T ++ [p3], q6) fD (cW rfl (cW rfl kK)) ?_ ?_
  ·exact ⟨⟨hTs2, hTn2, by rw [List.map_append, List.map_append]; exact hq6⟩, M6.keep [true, true, true, true, false]⟩
  ·(show L.length - (T ++ [p3]).length < L.length - T.length; rw [List.length_append, List.length_singleton]; omega)
set_option maxHeartbeats 4000000 in
theorem sQ (w : World) (bb : Nat) (mb clock : Nat) (L : List ((Int × Int) × Nat)) (hmb : w.heap[mb]? = some (iL bI L clock)) (hml : mb < w.heap.size) (hS : SetOk L clock) (hLN : L.length < 1099511627776) (B1 : Rd w 1 (some ⟨bb, 0, none⟩) 1 [[.map (some mb)]]) :
  Calls Tryz.prog 256 #[.slice none 0 0, .func (.func 235) #[] #[.pointer (some ⟨bb, 0, none⟩)]] w (fun ex w' => ∃ v, ex = .returned v ∧ (fun v w' => ∃ (r : Row) (T : List ((Int × Int) × Nat)), T.Perm L ∧ v = .slice r.A r.n r.c ∧ aU 209 2 r.A r.n r.c ((T.map (fun z => z.1)).map bI) r.e ∧ Mem w [] [r.e] w') v w') := by
 refine vC #[.tmp 4] 13 Tryz.func256 rfl Tryz.results256 Tryz.ntmps256 rfl ?_
 have M0 := Mem.refl w
 refine oD (lT (bC (.slice _ _ _) M0 rfl rfl rfl (fun b1 w1 M1 => (fL rfl rfl (aB (nZ ?_))))))
 refine oD (oD (lT (wq (aG (.func _ _ _) rfl) rfl (aB (nZ ?_)))))
 refine aHa ?_
 have M2 : Mem _ _ [_, _] _ := M1.dummy default
 refine aIc bDa M2 rfl (fun fnn B lp tmps w1 hρ hn M1 => ?_)
 refine zD (P := Tryz.prog) (ob := b1) (Tsl := 220) (Te := 209) (sz := 2) (N := 1099511627776) (ok := (fun x => ∃ a b, x = [.int .u32 a, .int .u32 b])) M1 ?_ (fun hY => ?_)
 ·intro wr r ls x hok hlt hrow hO
  obtain ⟨xa, xb, rfl⟩ := hok
  refine ⟨_, _, _, _, aGu hO rfl rfl rfl hn (by decide) hρ ?_⟩
  have MR0 := hO.mem
  refine qJ rfl (fun _ _ h => nomatch h.1) (aP qD MR0 rfl rfl (fun b3 w3 M3 => (bB 3 _ gA M3 rfl rfl rfl rfl rfl (aQ rfl) rfl (fun w4 M4 => (aB ?_)))))
  refine ⟨rfl, _, M4, rfl, fun w5 M5 => ?_⟩
  refine aId (qJ rfl (fun _ _ h => nomatch h.1) (wq (aK 1 (.slice _ _ _) aJh M5 rfl rfl rfl) rfl (wq (bA 3 gA M5 rfl rfl rfl) rfl (cV [.agg (List.toArray _)] [[.int .u32 xa, .int .u32 xb]] rfl sR M5 rfl rfl rfl rfl (dD rfl) (by decide) (fun b6 w6 M6 => (dZ 2 [[.int .u32 xa, .int .u32 xb]] sR M6 rfl rfl rfl rfl rfl hrow rfl (by simp [Go.Bil.one]) (cZ.ofMem 4 M6 rfl) (by omega) (fun A7 c7 e7 w7 M7 hR7 => ?_)))))))
  refine dX 1 (.slice _ _ _) aJh M7 rfl rfl rfl rfl rfl rfl (fun w8 M8 => (aB (dJ ?_)))
  refine ⟨rfl, _, M8, rfl, fun w9 M9 => ?_⟩
  exact ⟨⟨A7, r.n + 1, c7, e7⟩, rfl, hR7, M9.keep [true, true, true, false, false]⟩
 ·refine (aFg _ bb mb clock L ((M1.old mb hml List.not_mem_nil).trans hmb) (Nat.lt_of_lt_of_le hml M1.size) hS hLN (B1.mem M1) lp b1 _ hY ⟨none, 0, 0, (none, default)⟩ (aU.nil _ _ _) (M1.ownSeg 0 3) (M1.away 0 3 B1 (fun _ q off _ h => by simp at h)) (M1.notNew 3 hml)).mono ?_
  rintro _ w5 ⟨v5, rfl, rfl, r, T, hT, hr, hM⟩
  have M5 : Mem _ _ (_ :: [_, _, _]) _ := M1.seg 0 3 hM
  refine ⟨_, rfl, _, M5, fun w6 M6 => ?_⟩
  refine bBa (nZ (oD (aCl (aMw (aK 1 (.slice _ _ _) aJh M6 rfl rfl rfl) rfl rfl (aMw (aI (.slice _ _ _) rfl) rfl rfl ?_)))))
  refine aMq (nZ (aRx (bAo (i := 3) (.slice _ _ _) rfl M6 rfl (fun w9 M9 => ?_))))
  exact ⟨r, T, hT, rfl, hr, M9.keep [false, false, true, false]⟩
set_option maxHeartbeats 4000000 in
theorem wB (w : World) (bb : Nat) (mb clock : Nat) (L : List ((Int × Int) × Nat)) (hmb : w.heap[mb]? = some (iL bI L clock)) (hml : mb < w.heap.size) (hS : SetOk L clock) (hLN : L.length < 1099511627776) (B1 : Rd w 1 (some ⟨bb, 0, none⟩) 1 [[.map (some mb)]]) :
  Calls Tryz.prog 233 #[.func (.func 235) #[] #[.pointer (some ⟨bb, 0, none⟩)]] w (fun ex w' => ∃ v, ex = .returned v ∧ (fun v w' => ∃ (r : Row) (T : List ((Int × Int) × Nat)), T.Perm L ∧ v = .slice r.A r.n r.c ∧ aU 209 2 r.A r.n r.c ((T.map (fun z => z.1)).map bI) r.e ∧ Mem w [] [r.e] w') v w') := by
 refine aH #[.tmp 2] 5 Tryz.func233 rfl Tryz.results233 Tryz.ntmps233 rfl ?_
 have M0 := Mem.refl w
 refine aD (aA (fL rfl rfl (aB (aC (aD (aA (wq (aG (.func _ _ _) rfl) rfl (bX bFr rfl rfl (sQ _ bb mb clock L ((M0.old mb hml List.not_mem_nil).trans hmb) (Nat.lt_of_lt_of_le hml M0.size) hS hLN (B1.mem M0)) ?_))))))))
 rintro v1 w1 ⟨r, T, hT, rfl, hr, hM1⟩
 have M1 : Mem _ _ [_] _ := M0.call0 hM1
 refine fL rfl rfl (aB (aC (aN (cB (.slice _ _ _) rfl ?_))))
 exact ⟨r, T, hT, rfl, hr, M1⟩
set_option maxHeartbeats 4000000 in
theorem rH (w : World) (bb : Nat) (mb clock : Nat) (L : List ((Int × Int) × Nat)) (hmb : w.heap[mb]? = some (iL bI L clock)) (hml : mb < w.heap.size) (hS : SetOk L clock) (hLN : L.length < 1099511627776) (B1 : Rd w 1 (some ⟨bb, 0, none⟩) 1 [[.map (some mb)]]) :
  Calls Tryz.prog 211 #[.func (.func 235) #[] #[.pointer (some ⟨bb, 0, none⟩)], .func (.func 213) #[] #[]] w (fun ex w' => ∃ v, ex = .returned v ∧ (fun v w' => ∃ (r : Row) (ys : List (Int × Int)), Asc ys ∧ (∀ z, z ∈ ys ↔ z ∈ L.map (·.1)) ∧ v = .slice r.A r.n r.c ∧ aU 209 2 r.A r.n r.c ((ys).map bI) r.e ∧ Mem w [] [r.e] w') v w') := by
 refine aH #[.tmp 4] 12 Tryz.func211 rfl Tryz.results211 Tryz.ntmps211 rfl ?_
 have M0 := Mem.refl w
 refine aD (aA (fL rfl rfl (aB (aC (aD (aA (wq (aG (.func _ _ _) rfl) rfl (bX bFh rfl rfl (wB _ bb mb clock L ((M0.old mb hml List.not_mem_nil).trans hmb) (Nat.lt_of_lt_of_le hml M0.size) hS hLN (B1.mem M0)) ?_))))))))
 rintro v1 w1 ⟨r, T, hT, rfl, hr, hM1⟩
 have M1 : Mem _ _ [_] _ := M0.call0 hM1
 have hrl : T.length = r.n := by simpa using hr.1
 have hTL := hT.length_eq
 refine fL rfl rfl (aB (aC (aD (aA (eC rfl rfl (wq (aG (.func _ _ _) rfl) rfl (bX bCd rfl rfl (yR _ _ _ _ (T.map (fun z => z.1)) _ hr (M1.ownAt (i := 0) rfl) (by omega)) ?_)))))))
 rintro v2 w2 ⟨rfl, ys, e2, hpp, huu, hR2, hM2⟩
 have M2 : Mem _ _ [_] _ := M1.seg 0 1 hM2
 refine aB (aC (aD (aA (eC rfl rfl (fL rfl rfl (aB (aC (aN (cB (.slice _ _ _) rfl ?_)))))))))
 have hpl : ys.Perm (L.map (·.1)) := hpp.trans (hT.map _)
 exact ⟨⟨r.A, r.n, r.c, e2⟩, ys, bDl (hpl.nodup_iff.2 hS.keys) huu, fun z => hpl.mem_iff, rfl, hR2, M2⟩
set_option maxHeartbeats 16000000 in
theorem vX (w : World) (b : Nat) (rs : List Row) (cnt : Int) (g : Nat → List Int) (hlen : rs.length = 1024) (G : Rd w 1025 (some ⟨b, 0, none⟩) 1 [dE rs cnt]) (hrow : ∀ (j : Nat) (r : Row), rs[j]? = some r → Rd w 1 r.A r.n ((g j).map eZ) ∧ r.n ≤ r.c) (ks : List Int) (hks : ∀ j, j < 1024 → ∀ x ∈ g j, x ∈ ks) (hkl : ks.length ≤ 65536) :
  Calls Tryz.prog 184 #[.pointer (some ⟨b, 0, none⟩)] w (fun ex w' => ∃ v, ex = .returned v ∧ (fun v w' => ∃ (r : Row) (ps : List (Int × Int)), Asc ps ∧ (∀ z, z ∈ ps ↔ z ∈ mZ g 1024) ∧ v = .slice r.A r.n r.c ∧ aU 209 2 r.A r.n r.c ((ps).map bI) r.e ∧ Mem w [] [r.e] w') v w') := by
 rw [← eM b]
 refine aH #[.tmp 2] 49 Tryz.func184 rfl Tryz.results184 Tryz.ntmps184 rfl ?_
 have M0 := Mem.refl w
 refine aD (aA (fL rfl rfl (aB (aC (aD (aD (aA (wq (aG (tM _ _) rfl) rfl (wq (aHo Tryz.underlying279 (G.mem M0) (show ([dE rs cnt] : List (List Value))[0]? = some (dE rs cnt) from rfl) rfl) rfl (aB (aC ?_)))))))))))
 refine cC rfl (aM (aC (aD (aA (jT M0 rfl rfl (fun b1 w1 M1 => (wq (aI (.map _) rfl) rfl (aB (aC (aD (aD (aA (wq (aG (tM _ _) rfl) rfl ?_)))))))))))))
 refine wq (aIe (G.mem M1) (Nat.lt_of_le_of_lt (Nat.zero_le _) ((G.mem M1).below_len (show ([dE rs cnt] : List (List Value))[0]? = some (dE rs cnt) from rfl))) rfl) rfl (wq (bN 0 wX (G.mem M1) (Nat.lt_of_le_of_lt (Nat.zero_le _) ((G.mem M1).below_len (show ([dE rs cnt] : List (List Value))[0]? = some (dE rs cnt) from rfl))) rfl) rfl ?_)
 refine wq (zJ (o := 0) (rs.map (fun r => Value.slice r.A r.n r.c)) bDg (G.mem M1) (show ([dE rs cnt] : List (List Value))[0]? = some (dE rs cnt) from rfl) rfl (aGk hlen) (by simp [hlen])) rfl (aY rfl rfl (aB (aC (aT (dP (σ := Nat × Nat × List ((Int × Int) × Nat)) [2, 3, 16] (fun (i, c0, L0) => [(17, .int .i64 (i : Int))]) (fun (i, c0, L0) w' => i ≤ 1024 ∧ (SetOk L0 c0 ∧ ∀ z, z ∈ L0.map (fun z => z.1) ↔ z ∈ mZ g i) ∧ Mem w [] [(some b1, iL bI L0 c0)] w') (fun (i, c0, L0) => 1024 - i) (0, 0, []) (bM rfl fD) (⟨by omega, ⟨SetOk.nil, fun z => by simp [mZ]⟩, M1⟩) ?_)))))
 rintro ⟨i, c0, L0⟩ ρ2 w2 ⟨hi, ⟨hS0, hI0⟩, hM2⟩
 refine aD (aA (cY rfl rfl rfl rfl (aB (aC (aD ?_)))))
 refine bE rfl (fun h18 => ?_) (fun h18 => ?_)
 ·obtain ⟨rj, hrj⟩ := cL (xs := rs) (k := i) hlen (by omega)
  obtain ⟨Rj, hcj⟩ := hrow i rj hrj
  have hlj : (g i).length = rj.n := by simpa using Rj.len
  have hbj := Rj.bound
  refine aM (aC (aD (aT (aD (aA (wq (uR (i) (.slice rj.A rj.n rj.c) aJt aDg rfl rfl (by omega) (by omega) rfl (by rw [kR]; exact aJ _ hrj)) rfl (fL rfl rfl (aB (aC (aD (aA (eC rfl rfl (wq (cR Tryz.underlying247 rfl) rfl ?_)))))))))))))
  refine aY rfl rfl (aB (aC (aT (dP (σ := Nat × Nat × List ((Int × Int) × Nat)) [2, 3, 5, 16, 17, 20, 21] (fun (p, c2, L2) => [(22, .int .i64 (p : Int))]) (fun (p, c2, L2) w' => p ≤ rj.n ∧ (SetOk L2 c2 ∧ ∀ z, z ∈ L2.map (fun z => z.1) ↔ z ∈ mZ g i ++ vE (g i) p) ∧ Mem w [] [(some b1, iL bI L2 c2)] w') (fun (p, c2, L2) => rj.n - p) (0, c0, L0) (bM rfl fD) (⟨by omega, ⟨hS0, fun z => by rw [hI0 z]; simp [vE]⟩, hM2⟩) ?_))))
  rintro ⟨p, c2, L2⟩ ρ3 w3 ⟨hp, ⟨hS2, hI2⟩, hM3⟩
  refine aD (aA (cY rfl rfl rfl rfl (aB (aC (aD ?_)))))
  refine bE rfl (fun h23 => ?_) (fun h23 => ?_)
  ·obtain ⟨xa, hxa⟩ := cL (xs := g i) (k := p) hlj (by omega)
   refine aM (aC (aD (aT (aD (aA (aY rfl rfl (wq (bV (p) aFk rfl rfl rfl ((Rj.mem hM3).below_len (aJ eZ hxa)) ((Rj.mem hM3).someK (aJ eZ hxa))) rfl (wq (gT (.int _ _) bY (Rj.mem hM3) (aJ eZ hxa) rfl) rfl (bP rfl rfl (bP rfl rfl ?_))))))))))
   refine aB (aC (aD (aA (eC rfl rfl (aY rfl rfl (wq (fS (0) ((p : Int)) aFk rfl rfl ⟨_, rfl⟩ (by decide) (by omega) (by omega)) rfl (wq (cR Tryz.underlying247 rfl) rfl (aY rfl rfl ?_))))))))
   refine aB (aC (aT (dP (σ := Nat × Nat × List ((Int × Int) × Nat)) [2, 3, 5, 7, 16, 17, 20, 21, 22, 29, 30] (fun (q, c4, L4) => [(31, .int .i64 (q : Int))]) (fun (q, c4, L4) w' => q ≤ p ∧ (SetOk L4 c4 ∧ ∀ z, z ∈ L4.map (fun z => z.1) ↔ z ∈ (mZ g i ++ vE (g i) p) ++ wF xa ((g i).take q)) ∧ Mem w [] [(some b1, iL bI L4 c4)] w') (fun (q, c4, L4) => p - q) (0, c2, L2) (bM rfl fD) (⟨by omega, ⟨hS2, fun z => by rw [hI2 z]; simp [wF]⟩, hM3⟩) ?_)))
   rintro ⟨q, c4, L4⟩ ρ4 w4 ⟨hq, ⟨hS4, hI4⟩, hM4⟩
   refine aD (aA (cY rfl rfl rfl rfl (aB (aC (aD ?_)))))
   refine bE rfl (fun h32 => ?_) (fun h32 => ?_)
   ·obtain ⟨xb, hxb⟩ := cL (xs := g i) (k := q) hlj (by omega)
    refine aM (aC (aD (aT (aD (aA (wq (bV (q) aFk rfl rfl rfl (((Rj.mem hM4).sub 0 p (by omega) (by omega) hcj).below_len (yP hxb (by omega))) (((Rj.mem hM4).sub 0 p (by omega) (by omega) hcj).someK (yP hxb (by omega)))) rfl (wq (gT (.int _ _) bY ((Rj.mem hM4).sub 0 p (by omega) (by omega) hcj) (yP hxb (by omega)) rfl) rfl ?_)))))))
    refine bP rfl rfl (aB (aC (aD (aA (aY rfl rfl (aY rfl rfl (cY rfl rfl rfl rfl (aB (aC ?_)))))))))
    refine bE rfl (fun h37 => ?_) (fun h37 => ?_)
    ·refine aA (wq (aG (.map _) rfl) rfl (aY rfl rfl (aY rfl rfl (bX bFx rfl rfl (aNq _ xa xb) ?_))))
     rintro v5 w5 ⟨rfl, hb5⟩
     have M5 := hM4.callB hb5
     refine wq (cD [] _ aPm rfl rfl) rfl (aPd (enc := bI) 0 (prI xa xb) aRg M5 rfl rfl hS4 rfl rfl rfl (fun L6 c6 w6 hS6 hZ6 hN6 M6 => (aB (dJ (aC (aA (wq (bQ rfl rfl (by omega) (by omega)) rfl ?_)))))))
     refine aY rfl rfl (aB ?_)
     refine cT (q + 1, c6, L6) (bM rfl fD) (cW rfl (cW rfl (cW rfl (cW rfl (cW rfl (cW rfl (cW rfl (cW rfl (cW rfl (cW rfl (cW rfl kK))))))))))) ?_ ?_
     ·exact ⟨by omega, ⟨hS6, aPa hZ6 hI4 hxb h37⟩, M6⟩
     ·(show p - (q + 1) < p - q; omega)
    ·refine aM (dJ (aC (aA (wq (bQ rfl rfl (by omega) (by omega)) rfl (aY rfl rfl (aB ?_))))))
     refine cT (q + 1, c4, L4) (bM rfl fD) (cW rfl (cW rfl (cW rfl (cW rfl (cW rfl (cW rfl (cW rfl (cW rfl (cW rfl (cW rfl (cW rfl kK))))))))))) ?_ ?_
     ·exact ⟨by omega, ⟨hS4, aOs hI4 hxb h37⟩, hM4⟩
     ·(show p - (q + 1) < p - q; omega)
   ·have hqp : q = p := by omega
    refine cO (dC (dA (eV (dJ (aC (aA ?_))))))
    refine wq (bQ rfl rfl (by omega) (by omega)) rfl (aY rfl rfl (aB ?_))
    refine cT (p + 1, c4, L4) (bM rfl fD) (cW rfl (cW rfl (cW rfl (cW rfl (cW rfl (cW rfl (cW rfl kK))))))) ?_ ?_
    ·exact ⟨by omega, ⟨hS4, fun z => by rw [hI4 z, aIw hxa, ← hqp, List.append_assoc]⟩, hM4⟩
    ·(show rj.n - (p + 1) < rj.n - p; omega)
  ·have hpn : p = rj.n := by omega
   refine cO (dC (dA (eV (dJ (aC (aA ?_))))))
   refine wq (bQ rfl rfl (by omega) (by omega)) rfl (aY rfl rfl (aB ?_))
   refine cT (i + 1, c2, L2) (bM rfl fD) (cW rfl (cW rfl (cW rfl kK))) ?_ ?_
   ·exact ⟨by omega, ⟨hS2, fun z => by rw [hI2 z, aKw]; unfold aSr; rw [hlj, ← hpn]⟩, hM3⟩
   ·(show 1024 - (i + 1) < 1024 - i; omega)
 ·have hi' : i = 1024 := by omega
  rw [hi'] at hI0
  have hLb : (L0.map (fun z => z.1)).length ≤ (yC ks).length := xY hS0.keys (fun z hz => aNr hks ((hI0 z).1 hz))
  rw [List.length_map, aPu] at hLb
  have hkk : ks.length * ks.length ≤ 65536 * 65536 := Nat.mul_le_mul hkl hkl
  refine cO (dC (dA (eV (aC (aD (aA (wq (aG (.map _) rfl) rfl ?_)))))))
  refine bX bDq rfl rfl (aJp _ b1) ?_
  rintro v7 w7 ⟨bb, rfl, hM7⟩
  have M7 : Mem _ _ [_, _] _ := hM2.call0 hM7
  refine bX bDp rfl rfl (rH _ bb b1 c0 L0 (M7.at_ (i := 0) rfl) (M7.lt List.mem_cons_self) hS0 (by omega) (lX 1 M7 rfl rfl)) ?_
  rintro v8 w8 ⟨r, ys, hasc, hys, rfl, hr, hM8⟩
  have M8 : Mem _ _ [_, _, _] _ := M7.call0 hM8
  refine fL rfl rfl (aB (aC (aN (cB (.slice _ _ _) rfl ?_))))
  exact ⟨r, ys, hasc, fun z => (hys z).trans (hI0 z), rfl, hr, M8.keep [false, false, true]⟩
set_option maxHeartbeats 4000000 in
theorem aEz (w : World) (A : Option Addr) (n c : Nat) (xs : List Body) (R : Rd w 10 A n (xs.map aF)) (hb : ∀ b ∈ xs, Okb b) :
  Calls Tryz.prog 180 #[.slice A n c] w (fun ex w' => ∃ v, ex = .returned v ∧ (fun v w' => ∃ (pm : Nat) (em : dG), v = .map (some pm) ∧ iA .u32 qW (bxM xs) (some pm) em ∧ Mem w [] [em] w') v w') := by
 have hlen : xs.length = n := by simpa using R.len
 have hbd := R.bound
 refine aH #[.tmp 2] 20 Tryz.func180 rfl Tryz.results180 Tryz.ntmps180 rfl ?_
 have M0 := Mem.refl w
 refine aD (aA (wq (aI (.map _) rfl) rfl (aB (aC (aD (aA (jT M0 rfl rfl (fun b1 w1 M1 => (wq (aI (.map _) rfl) rfl (aB (aC (aD (aD (aA ?_))))))))))))))
 refine eC rfl rfl (wq (cR Tryz.underlying29 rfl) rfl (aY rfl rfl (aB (aC (aT (dP (σ := Nat × dG) [2, 3, 7, 8] (fun (k, em) => [(9, .int .i64 (k : Int))]) (fun (k, em) w' => (k ≤ n ∧ iA .u32 qW (bxM (xs.take k)) (some b1) em) ∧ Mem w [] [em] w') (fun (k, em) => n - k) (0, (some b1, .map #[] 0)) (bM rfl fD) (⟨⟨by omega, (iA.empty _ _ b1).congr (fun q => by rw [List.take_zero]; exact aYu q)⟩, M1⟩) ?_))))))
 rintro ⟨k, em⟩ ρ2 w2 ⟨⟨hk, hme⟩, hM2⟩
 refine aD (aA (cY rfl rfl rfl rfl (aB (aC (aD ?_)))))
 refine bE rfl (fun h10 => ?_) (fun h10 => ?_)
 ·obtain ⟨xb, hxb⟩ := cL (k := k) hlen (by omega)
  refine aM (aC (aD (aT (aD (aA (wq (bV (k) fE rfl rfl rfl ((R.mem hM2).below_len (aJ aF hxb)) ((R.mem hM2).someK (aJ aF hxb))) rfl (wq (eB _ bR (R.mem hM2) (aJ aF hxb) rfl) rfl (aP iD hM2 rfl rfl (fun b3 w3 M3 => (bB 1 _ bR M3 rfl rfl rfl rfl rfl (aQ rfl) rfl (fun w4 M4 => ?_)))))))))))
  refine aB (aC (bO [(0, 0), (1, 0), (2, 1), (3, 1), (4, 2), (5, 2)] mixed rfl (by kernel_rfl) (fun w5 hb5 hh5 => ?_)))
  have M5 := M4.drew hb5 hh5
  refine aX rfl rfl rfl (fun _ => aG (.map _) rfl) (aX rfl rfl rfl (fun _ => aE 0 eX rfl) (cA rfl rfl rfl (aK 1 (.int _ _) bY M5 rfl rfl rfl) (cA rfl rfl rfl (bA 1 bR M5 rfl rfl rfl) (dL [true, false] rfl (by kernel_rfl) (bX bBz rfl rfl (bFn _ xb (hb xb (List.mem_of_getElem? hxb))) ?_)))))
  rintro v6 w6 ⟨rfl, hb6⟩
  have M6 := M5.callB hb6
  refine aB (aC ⟨(eK (bL rfl (aK 1 (.int _ _) bY M6 rfl rfl rfl)) dM), ?_⟩)
  refine dL [true] rfl (by kernel_rfl) (iN (enc := qW) 0 aEu M6 rfl rfl hme rfl rfl rfl rfl (fun e7 w7 hm7 M7 => ?_))
  refine aB (aC ⟨dM, ?_⟩)
  refine cF (dJ (aC (aA (wq (bQ rfl rfl (by omega) (by omega)) rfl (aY rfl rfl (aB ?_))))))
  refine cT (k + 1, e7) (bM rfl fD) (cW rfl (cW rfl (cW rfl (cW rfl kK)))) ?_ ?_
  ·exact ⟨⟨by omega, hm7.congr (fun q => aVk hxb q)⟩, M7.keep [true, false]⟩
  ·(show n - (k + 1) < n - k; omega)
 ·have hkn : k = n := by omega
  rw [List.take_of_length_le (by omega)] at hme
  refine cO (dC (dA (eV (aC (aD (aA (wq (aG (.map _) rfl) rfl ?_)))))))
  refine wq (aI (.map _) rfl) rfl (aB (aC (aN (cB (.map _) rfl ?_))))
  exact ⟨_, _, rfl, hme, hM2⟩
set_option maxHeartbeats 4000000 in
theorem yH (w : World) (pm : Nat) :
  Calls Tryz.prog 182 #[.map (some pm)] w (fun ex w' => ∃ v, ex = .returned v ∧ (fun v w' => ∃ bm bn, v = .tuple #[.func (.func 206) #[] #[.pointer (some ⟨bn, 0, none⟩), .pointer (some ⟨bm, 0, none⟩)], .func (.func 208) #[] #[.pointer (some ⟨bn, 0, none⟩)]] ∧ Mem w [] [(some bm, bc [.map (some pm)] 245), (some bn, bc [.int .i64 0] 3)] w') v w') := by
 refine aH #[.tmp 2, .tmp 3] 8 Tryz.func182 rfl Tryz.results182 Tryz.ntmps182 rfl ?_
 have M0 := Mem.refl w
 refine aD (aA (bC (.map _) M0 rfl rfl rfl (fun b1 w1 M1 => (wq (aI (_) rfl) rfl (wq (aI (_) rfl) rfl (aB (aC (aD (aA (aP bIb M1 rfl rfl (fun b2 w2 M2 => ?_)))))))))))
 refine dX 1 (.int _ _) iM M2 rfl rfl rfl rfl rfl rfl (fun w3 M3 => (aB (aC (aD (aA (wq (cM [] [.pointer _, .pointer _] rfl rfl) rfl (wq (aI (.func _ _ _) rfl) rfl (aB (aC (aD (aA (wq (aG (.func _ _ _) rfl) rfl ?_))))))))))))
 refine wq (cM [] [.pointer _] rfl rfl) rfl (wq (aI (.func _ _ _) rfl) rfl (wq (aI (.func _ _ _) rfl) rfl (aB (aC (aN (iK (.func _ _ _) (.func _ _ _) rfl rfl ?_))))))
 exact ⟨b1, b2, rfl, M3⟩
set_option maxHeartbeats 4000000 in
theorem aAo (w : World) (bn : Nat) (m : Int) (K : Rd w 1 (some ⟨bn, 0, none⟩) 1 [[.int .i64 m]]) :
  Calls Tryz.prog 208 #[.pointer (some ⟨bn, 0, none⟩)] w (fun ex w' => ∃ v, ex = .returned v ∧ (fun v w' => v = .int .i64 m ∧ Below w.heap.size w w') v w') := by
 rw [← eM bn]
 refine aH #[.tmp 1] 3 Tryz.func208 rfl Tryz.results208 Tryz.ntmps208 rfl ?_
 have M0 := Mem.refl w
 refine aD (aA (bP rfl rfl (aB (aC (aD (aA (wq (eI (o := 0) (.int _ _) iM (K.mem M0) (show ([[.int .i64 m]] : List (List Value))[0]? = some [.int .i64 m] from rfl) rfl rfl) rfl (bP rfl rfl (aB (aC (aN ?_)))))))))))
 refine cB (.int _ _) rfl ?_
 exact ⟨rfl, M0.below⟩
set_option maxHeartbeats 4000000 in
theorem vF (w : World) (z : Int × Int) (bn bm m : Nat) (f : Int → Option Bx) (pm : Nat) (em : dG) (hme : iA .u32 qW f (some pm) em) (B : Rd w 1 (some ⟨bm, 0, none⟩) 1 [[.map (some pm)]]) (N : Rd w 4 (some ⟨3, 0, none⟩) 1 [cU gP]) (hO : Own [(some bn, bc [.int .i64 (m : Int)] 3), em] w) (hdB : 0 < 1 → ∀ q off, (some ⟨bm, 0, none⟩ : Option Addr) = some ⟨q, off, none⟩ → q ∉ bH [(some bn, bc [.int .i64 (m : Int)] 3), em]) (hdN : 0 < 1 → ∀ q off, (some ⟨3, 0, none⟩ : Option Addr) = some ⟨q, off, none⟩ → q ∉ bH [(some bn, bc [.int .i64 (m : Int)] 3), em]) (hm : m ≤ 1125899906842624) :
  Calls Tryz.prog 206 #[(.agg (bI z).toArray), .pointer (some ⟨bn, 0, none⟩), .pointer (some ⟨bm, 0, none⟩)] w (fun ex w' => ∃ v, ex = .returned v ∧ (fun v w' => v = .bool (apB f z) ∧ Mem w (bH [(some bn, bc [.int .i64 (m : Int)] 3), em]) [(some bn, bc [.int .i64 ((m + 1 : Nat) : Int)] 3), em] w') v w') := by
 rw [← eM bm]
 refine aH #[.tmp 4] 17 Tryz.func206 rfl Tryz.results206 Tryz.ntmps206 rfl ?_
 have M0 := hO.mem
 refine aD (aA (bC (.agg (List.toArray _)) M0 rfl rfl rfl (fun b1 w1 M1 => (wq (aI (.bool false) rfl) rfl (aB (aC (aD (aA (wq (aK 0 (.int _ _) iM M1 rfl rfl rfl) rfl (wq (bQ rfl rfl (by omega) (by omega)) rfl ?_))))))))))
 refine aS 6 (.int .i64 ((m + 1 : Nat) : Int)) (iE (by omega)) (dX 0 (.int _ _) iM M1 rfl rfl rfl rfl rfl rfl (fun w2 M2 => (aB (aC (aD (aA (wq (eI (o := 0) (.map _) aRr (B.memY M2 hdB) (show ([[.map (some pm)]] : List (List Value))[0]? = some ([.map (some pm)]) from rfl) rfl rfl) rfl ?_)))))))
 refine wq (aE 0 nL rfl) rfl (wq (aK 2 (.int _ _) bY M2 rfl rfl rfl) rfl (wq (jC (enc := qW) z0B 1 aEu aSi M2 rfl hme rfl rfl) rfl (wq (eI (o := 0) (.map _) aRr (B.memY M2 hdB) (show ([[.map (some pm)]] : List (List Value))[0]? = some ([.map (some pm)]) from rfl) rfl rfl) rfl ?_)))
 refine wq (aE 1 mT rfl) rfl (wq (aK 2 (.int _ _) bY M2 rfl rfl rfl) rfl (wq (jC (enc := qW) z0B 1 aEu aSi M2 rfl hme rfl rfl) rfl (bX bBo rfl rfl (aFe _ (N.memY M2 hdN) ((f z.1).getD z0B) ((f z.2).getD z0B)) ?_)))
 rintro v3 w3 ⟨rfl, hb3⟩
 have M3 := M2.callB hb3
 refine wq (tE rfl) rfl (wq (aI (.bool (decide _)) rfl) rfl (aB (aC (aN (cB (.bool (decide _)) rfl ?_)))))
 exact ⟨rfl, M3.keep [true, true, false]⟩
set_option maxHeartbeats 4000000 in
theorem tI (w : World) (A : Option Addr) (n c : Nat) (zs : List (Int × Int)) (R : Rd w 2 A n (zs.map bI)) (bn bm m : Nat) (f : Int → Option Bx) (pm : Nat) (em : dG) (hme : iA .u32 qW f (some pm) em) (B : Rd w 1 (some ⟨bm, 0, none⟩) 1 [[.map (some pm)]]) (N : Rd w 4 (some ⟨3, 0, none⟩) 1 [cU gP]) (hO : Own [(some bn, bc [.int .i64 (m : Int)] 3), em] w) (hdA : 0 < n → ∀ q off, A = some ⟨q, off, none⟩ → q ∉ bH [(some bn, bc [.int .i64 (m : Int)] 3), em]) (hdB : 0 < 1 → ∀ q off, (some ⟨bm, 0, none⟩ : Option Addr) = some ⟨q, off, none⟩ → q ∉ bH [(some bn, bc [.int .i64 (m : Int)] 3), em]) (hdN : 0 < 1 → ∀ q off, (some ⟨3, 0, none⟩ : Option Addr) = some ⟨q, off, none⟩ → q ∉ bH [(some bn, bc [.int .i64 (m : Int)] 3), em]) (hm : m + n ≤ 1125899906842624) (hn : n ≤ 1099511627776) :
  Calls Tryz.prog 209 #[.slice A n c, .func (.func 206) #[] #[.pointer (some ⟨bn, 0, none⟩), .pointer (some ⟨bm, 0, none⟩)]] w (fun ex w' => ∃ v, ex = .returned v ∧ (fun v w' => v = .int .i64 (if zs.findIdx (apB f) < n then (zs.findIdx (apB f) : Int) else -1) ∧ Mem w (bH [(some bn, bc [.int .i64 (m : Int)] 3), em]) [(some bn, bc [.int .i64 ((m + min n (zs.findIdx (apB f) + 1) : Nat) : Int)] 3), em] w') v w') := by
 have hlen : zs.length = n := by simpa using R.len
 refine aH #[.tmp 4] 19 Tryz.func209 rfl Tryz.results209 Tryz.ntmps209 rfl ?_
 have M0 := hO.mem
 refine aD (aA (bP rfl rfl (aB (aC (aD (aD (aA (eC rfl rfl (wq (cR Tryz.underlying220 rfl) rfl (aY rfl rfl ?_))))))))))
 refine aB (aC (aT (dP (σ := Nat) [0, 1, 7] (fun k => [(8, .int .i64 (k : Int))]) (fun k w' => (k ≤ n ∧ ∀ (j : Nat) (x : Int × Int), j < k → zs[j]? = some x → apB f x = false) ∧ Mem w (bH [(some bn, bc [.int .i64 (m : Int)] 3), em]) [(some bn, bc [.int .i64 ((m + k : Nat) : Int)] 3), em] w') (fun k => n - k) 0 (bM rfl fD) (⟨⟨by omega, fun j c hj => by omega⟩, M0⟩) ?_)))
 rintro k ρ1 w1 ⟨⟨hk, hno⟩, hM1⟩
 refine aD (aA (cY rfl rfl rfl rfl (aB (aC (aD ?_)))))
 refine bE rfl (fun h9 => ?_) (fun h9 => ?_)
 ·obtain ⟨xz, hxz⟩ := cL (k := k) hlen (by omega)
  refine aM (aC (aD (aT (aD (aA (aY rfl rfl (bP rfl rfl (aB (aC (aD (aA (wq (aG (.func _ _ _) rfl) rfl (eC rfl rfl ?_)))))))))))))
  refine aY rfl rfl (wq (bV (k) sR rfl rfl rfl ((R.memY hM1 hdA).below_len (aJ bI hxz)) ((R.memY hM1 hdA).someK (aJ bI hxz))) rfl (wq (eB _ gA (R.memY hM1 hdA) (aJ bI hxz) rfl) rfl (bX aVy rfl rfl (vF _ xz bn bm (m + k) f pm em hme (B.memY hM1 hdB) (N.memY hM1 hdN) (hM1.ownSeg 0 2) hdB hdN (by omega)) ?_)))
  rintro v2 w2 ⟨rfl, hM2⟩
  have M2 : Mem _ _ [_, _] _ := hM1.seg 0 2 hM2
  refine aB (aC ?_)
  refine iS _ rfl (fun h16 => ?_) (fun h16 => ?_)
  ·refine aD (aA (aY rfl rfl (bP rfl rfl (aB (aC (aN (jN (cJ ?_))))))))
   refine uK (jN (cJ (cB (.int _ _) rfl ?_)))
   have hfi := zV hxz h16 hno
   exact ⟨iE (by rw [hfi, if_pos (by omega)]), by rw [hfi, Nat.min_eq_right (by omega)]; exact M2⟩
  ·refine aM (dJ (aC (aA (wq (bQ rfl rfl (by omega) (by omega)) rfl (aY rfl rfl (aB ?_))))))
   refine cT (k + 1) (bM rfl fD) (cW rfl (cW rfl (cW rfl kK))) ?_ ?_
   ·exact ⟨⟨by omega, qO (p := fun _ x => apB f x = false) hno hxz h16⟩, M2⟩
   ·omega
 ·refine cO (dC (dA (eV (aC (aD (aA (bP rfl rfl ?_)))))))
  refine aB (aC (aN (cB (.int _ _) rfl ?_)))
  have hkn : k = n := by omega
  have hfi := xR (p := apB f) (l := zs) (fun j y hy => hno j y (by have := (List.getElem?_eq_some_iff.1 hy).1; omega) hy)
  exact ⟨iE (by rw [hfi, if_neg (by omega)]), by rw [hfi, Nat.min_eq_left (by omega), ← hkn]; exact hM1⟩
set_option maxHeartbeats 16000000 in
theorem rM (w : World) (A : Option Addr) (n c : Nat) (zs : List (Int × Int)) (er : dG) (hr : aU 209 2 A n c ((zs).map bI) er) (bn bm m : Nat) (f : Int → Option Bx) (pm : Nat) (em : dG) (hme : iA .u32 qW f (some pm) em) (B : Rd w 1 (some ⟨bm, 0, none⟩) 1 [[.map (some pm)]]) (N : Rd w 4 (some ⟨3, 0, none⟩) 1 [cU gP]) (hO : Own [er, (some bn, bc [.int .i64 (m : Int)] 3), em] w) (hdB : 0 < 1 → ∀ q off, (some ⟨bm, 0, none⟩ : Option Addr) = some ⟨q, off, none⟩ → q ∉ bH [er, (some bn, bc [.int .i64 (m : Int)] 3), em]) (hdN : 0 < 1 → ∀ q off, (some ⟨3, 0, none⟩ : Option Addr) = some ⟨q, off, none⟩ → q ∉ bH [er, (some bn, bc [.int .i64 (m : Int)] 3), em]) (hm : m + n ≤ 1125899906842624) (hn : n ≤ 1099511627776) :
  Calls Tryz.prog 183 #[.slice A n c, .func (.func 206) #[] #[.pointer (some ⟨bn, 0, none⟩), .pointer (some ⟨bm, 0, none⟩)]] w (fun ex w' => ∃ v, ex = .returned v ∧ (fun v w' => ∃ r : Row, v = .slice r.A r.n r.c ∧ aU 209 2 r.A r.n r.c ((zs.filter (fun z => !apB f z)).map bI) r.e ∧ Mem w (bH [er, (some bn, bc [.int .i64 (m : Int)] 3), em]) [r.e, (some bn, bc [.int .i64 ((m + n : Nat) : Int)] 3), em] w') v w') := by
 have hlen : zs.length = n := by simpa using hr.1
 have hcap := hr.slice
 refine aH #[.tmp 4] 42 Tryz.func183 rfl Tryz.results183 Tryz.ntmps183 rfl ?_
 have M0 := hO.mem
 refine aD (aA (fL rfl rfl (aB (aC (aD (aA (eC rfl rfl (wq (aG (.func _ _ _) rfl) rfl (bX bEw rfl rfl (tI _ A n c zs (hr.rd M0 (aV (i := 0) rfl)) bn bm m f pm em hme (B.memY M0 hdB) (N.memY M0 hdN) (M0.ownSeg 1 2) (hr.apartTail M0) (M0.away 1 2 B hdB) (M0.away 1 2 N hdN) hm hn) ?_)))))))))
 rintro v1 w1 ⟨rfl, hM1⟩
 have M1 : Mem _ _ [_, _, _] _ := M0.seg 1 2 hM1
 refine bP rfl rfl (aB (aC (aD (aD (aA (aY rfl rfl (cY rfl rfl rfl rfl (aB (aC ?_)))))))))
 refine bE rfl (fun h12 => ?_) (fun h12 => ?_)
 ·have hge : ¬ zs.findIdx (apB f) < n := fun h => by rw [if_pos h] at h12; omega
  refine aD (aA (eC rfl rfl (fL rfl rfl (aB (aC (aN (cJ (cB (.slice _ _ _) rfl ?_))))))))
  have e1 : m + min n (zs.findIdx (apB f) + 1) = m + n := by omega
  rw [e1] at M1
  exact ⟨⟨A, n, c, er⟩, rfl, by rw [aGa (by omega)]; exact hr, M1⟩
 ·have hlt : zs.findIdx (apB f) < n := Decidable.by_contra fun h => h12 (if_neg h)
  refine aM (aC (aD (aD (aA (aY rfl rfl (wq (bQ rfl rfl (by omega) (by omega)) rfl (aS 15 (.int .i64 ((zs.findIdx (apB f) + 1 : Nat) : Int)) (iE (by rw [if_pos hlt]; omega)) (bP rfl rfl (aB (aC (aT ?_)))))))))))
  refine dP (σ := Nat × Nat × List (Int × Int) × dG) [0, 1, 4] (fun (j, k, zs2, en) => [(5, .int .i64 (k : Int)), (6, .int .i64 (j : Int))]) (fun (j, k, zs2, en) w' => (j ≤ n ∧ k < j ∧ zs2.take k = (zs.take j).filter (fun z => !apB f z) ∧ zs2.drop j = zs.drop j ∧ aU 209 2 A n c ((zs2).map bI) en) ∧ Mem w (bH [er, (some bn, bc [.int .i64 (m : Int)] 3), em]) [en, (some bn, bc [.int .i64 ((m + j : Nat) : Int)] 3), em] w') (fun (j, k, zs2, en) => n - j) (zs.findIdx (apB f) + 1, zs.findIdx (apB f), zs, er) (bM (iv rfl (if_pos hlt)) (bM rfl fD)) (⟨⟨by omega, by omega, aDn (by omega), rfl, hr⟩, by
   have e1 : min n (zs.findIdx (apB f) + 1) = zs.findIdx (apB f) + 1 := by omega
   rw [e1] at M1
   exact M1⟩) ?_
  rintro ⟨j, k, zs2, en⟩ ρ2 w2 ⟨⟨hj, hkj, hpre, hsuf, hz2⟩, hM2⟩
  have hl2 : zs2.length = n := by simpa using hz2.1
  refine aD (aD (aA (aY rfl rfl (eC rfl rfl (wq (cR Tryz.underlying220 rfl) rfl (cY rfl rfl rfl rfl (aB (aC ?_))))))))
  refine bE rfl (fun h19 => ?_) (fun h19 => ?_)
  ·obtain ⟨xz, hxz⟩ := cL (k := j) hlen (by omega)
   have hxz2 : zs2[j]? = some xz := (aUl hsuf).trans hxz
   obtain ⟨xk, hxk⟩ := cL (k := k) hl2 (by omega)
   refine aM (aC (aD (aT (aD (aA (eC rfl rfl (aY rfl rfl (wq (bV (j) sR rfl rfl rfl ((hz2.rd hM2 (aV (i := 0) rfl)).below_len (aJ bI hxz2)) ((hz2.rd hM2 (aV (i := 0) rfl)).someK (aJ bI hxz2))) rfl (wq (eB _ gA (hz2.rd hM2 (aV (i := 0) rfl)) (aJ bI hxz2) rfl) rfl ?_)))))))))
   refine aP qD hM2 rfl rfl (fun b3 w3 M3 => (bB 3 _ gA M3 rfl rfl rfl rfl rfl (aQ rfl) rfl (fun w4 M4 => (aB (aC (aD (aA (wq (aG (.func _ _ _) rfl) rfl (wq (bA 3 gA M4 rfl rfl rfl) rfl (bX aVy rfl rfl (vF _ xz bn bm (m + j) f pm em hme (B.memY M4 hdB) (N.memY M4 hdN) (M4.ownSeg 1 2) (M4.away 1 2 B hdB) (M4.away 1 2 N hdN) (by omega)) ?_))))))))))
   rintro v5 w5 ⟨rfl, hM5⟩
   have M5 : Mem _ _ [_, _, _, _] _ := M4.seg 1 2 hM5
   refine wq (gE _ rfl rfl) rfl (aB (aC ?_))
   refine iS _ rfl (fun h29 => ?_) (fun h29 => ?_)
   ·refine aD (aA (eC rfl rfl (aY rfl rfl (wq (bA 3 gA M5 rfl rfl rfl) rfl (wq (bV (k) sR rfl rfl rfl ((hz2.rd M5 (aV (i := 0) rfl)).below_len (aJ bI hxk)) ((hz2.rd M5 (aV (i := 0) rfl)).someK (aJ bI hxk))) rfl (aEs 0 _ gA M5 rfl hz2 (aJ bI hxk) rfl rfl rfl rfl (aQ rfl) (fun e6 w6 hR6 M6 => ?_)))))))
    have hQ6 := hR6.mapSet (f := bI) (x := xz) rfl
    refine aB (aC (aA (aY rfl rfl (wq (bQ rfl rfl (by omega) (by omega)) rfl (bP rfl rfl (aB (dJ ?_)))))))
    refine aC (aA (aY rfl rfl (wq (bQ rfl rfl (by omega) (by omega)) rfl (bP rfl rfl (aB ?_)))))
    refine cT (j + 1, k + 1, zs2.set k xz, e6) (bM rfl (bM rfl fD)) (cW rfl (cW rfl (cW rfl kK))) ?_ ?_
    ·exact ⟨⟨by omega, by omega, by rw [aRh (by omega), hpre, vM hxz, if_neg (by simpa using h29)], by rw [aSa (by omega)]; exact aBz hsuf, hQ6⟩, M6.keep [true, true, true, false]⟩
    ·(show n - (j + 1) < n - j; omega)
   ·refine aM (dJ (aC (aA (aY rfl rfl (wq (bQ rfl rfl (by omega) (by omega)) rfl (bP rfl rfl ?_))))))
    refine aB ?_
    refine cT (j + 1, k, zs2, en) (bM rfl (bM rfl fD)) (cW rfl (cW rfl (cW rfl kK))) ?_ ?_
    ·exact ⟨⟨by omega, by omega, by rw [hpre, vM hxz, if_pos (by simpa using h29), List.append_nil], aBz hsuf, hz2⟩, M5.keep [true, true, true, false]⟩
    ·(show n - (j + 1) < n - j; omega)
  ·have hjn : j = n := by omega
   rw [hjn, show List.take n zs = zs from List.take_of_length_le (by omega)] at hpre
   refine cO (dC (dA (eV (aC (aD (aA (eC rfl rfl ?_)))))))
   refine aY rfl rfl (wq (fS ((k : Int)) ((n : Int)) sR rfl ⟨_, rfl⟩ rfl (by omega) (by omega) (by omega)) rfl (aSf 0 (k) sR (fun zv hz => by rw [bHy] at hz; injection hz with hz; subst hz; simp [Go.Bil.one, Value.cells]) hM2 rfl rfl hz2 (by omega) rfl (fun e7 w7 hR7 M7 => (aB (aC (aD (aA ?_)))))))
   refine eC rfl rfl (aY rfl rfl (wq (fS (0) ((k : Int)) sR rfl rfl ⟨_, rfl⟩ (by decide) (by omega) (by omega)) rfl (fL rfl rfl (aB (aC (aN (cB (.slice _ _ _) rfl ?_)))))))
   rw [hjn] at M7
   have hpf := hR7
   rw [← List.map_take, hpre] at hpf
   exact ⟨⟨_, _, _, e7⟩, rfl, hpf, M7⟩
set_option maxRecDepth 100000 in
theorem bGv : fI Tryz.prog 250 = some (dE (List.replicate 1024 fP) 0) := by kernel_rfl
set_option maxHeartbeats 16000000 in
theorem aKx (w : World) (F : Rd w 2 (some ⟨0, 0, none⟩) 1 [[.int .u32 73856093, .int .u32 19349663]]) (N : Rd w 4 (some ⟨3, 0, none⟩) 1 [cU gP]) (A : Option Addr) (n c : Nat) (xs : List Body) (R : Rd w 10 A n (xs.map aF)) (hb : ∀ b ∈ xs, Okb b) (hs : bU xs) (hn : n ≤ 4096) :
  Calls Tryz.prog 157 #[.slice A n c] w (fun ex w' => ∃ v, ex = .returned v ∧ (fun v w' => ∃ (r : Row) (m : Nat), v = .tuple #[.slice r.A r.n r.c, .int .i64 (m : Int)] ∧ (lJ xs).length ≤ m ∧ 2 * m ≤ xs.length * (xs.length - 1) ∧ aU 209 2 r.A r.n r.c ((lJ xs).map bI) r.e ∧ Mem w [] [r.e] w') v w') := by
 have hlen : xs.length = n := by simpa using R.len
 have hbd := R.bound
 refine aH #[.tmp 2, .tmp 3] 37 Tryz.func157 rfl Tryz.results157 Tryz.ntmps157 rfl ?_
 have M0 := Mem.refl w
 refine aD (aA (fL rfl rfl (bP rfl rfl (aB (aC (aD (aA (eC rfl rfl (bX bDx rfl rfl (aEz _ _ _ _ xs (R.mem M0) hb) ?_)))))))))
 rintro v1 w1 ⟨pm, em, rfl, hme, hM1⟩
 have M1 : Mem _ _ [_] _ := M0.call0 hM1
 refine wq (aI (.map _) rfl) rfl (aB (aC (aD (aA (aP bGv M1 rfl rfl (fun b2 w2 M2 => ?_))))))
 have M3 := Mem.gridNew (L := [_]) M2
 refine aB (aC (aD (aD (aA (eC rfl rfl (wq (cR Tryz.underlying29 rfl) rfl (aY rfl rfl (aB (aC (aT (dP (σ := Nat × List Row) [2, 3, 4, 5, 12, 13] (fun (k, rs) => [(14, .int .i64 (k : Int))]) (fun (k, rs) w' => (k ≤ n ∧ GridRows 35 rs (gOf (xs.take k))) ∧ Mem w [] ([em] ++ ((some b2, bc (dE rs (k : Int)) 250) :: rs.map Row.e)) w') (fun (k, rs) => n - k) (0, List.replicate 1024 fP) (bM rfl fD) (⟨⟨by omega, by rw [List.take_zero]; exact aRy _⟩, M3⟩) ?_)))))))))))
 rintro ⟨k, rs⟩ ρ4 w4 ⟨⟨hk, hrs⟩, hM4⟩
 refine aD (aA (cY rfl rfl rfl rfl (aB (aC (aD ?_)))))
 refine bE rfl (fun h15 => ?_) (fun h15 => ?_)
 ·obtain ⟨xb, hxb⟩ := cL (k := k) hlen (by omega)
  refine aM (aC (aD (aT (aD (aA (wq (bV (k) fE rfl rfl rfl ((R.mem hM4).below_len (aJ aF hxb)) ((R.mem hM4).someK (aJ aF hxb))) rfl (wq (eB _ bR (R.mem hM4) (aJ aF hxb) rfl) rfl (aP iD hM4 rfl rfl (fun b5 w5 M5 => ?_)))))))))
  have M6 : Mem _ _ ([_, _] ++ _) _ := Mem.front (L := [_]) M5
  refine bB 1 _ bR M6 rfl rfl rfl rfl rfl (aQ rfl) rfl (fun w7 M7 => (aB (aC (aA (wq (aE 0 eX rfl) rfl (wq (aK 1 (.int _ _) bY M7 rfl rfl rfl) rfl (wq (aG (.map _) rfl) rfl (wq (aE 0 eX rfl) rfl ?_))))))))
  refine wq (aK 1 (.int _ _) bY M7 rfl rfl rfl) rfl (wq (jC (enc := qW) z0B 0 aEu aSi M7 rfl hme rfl rfl) rfl (aS 23 (.agg (cU (iR xb)).toArray) (congrArg qW (by rw [oI hs (List.mem_of_getElem? hxb)]; rfl)) (bX bFi rfl rfl (aGi _ (F.mem M7) b2 rs (k : Int) (gOf (xs.take k)) hrs ⟨by omega, by omega⟩ (fun j _ => Nat.le_trans (aXm _ _) (by simp; omega)) xb.key (iR xb) (bFv (hb xb (List.mem_of_getElem? hxb))) (Mem.ownTail (L := [_, _]) M7) (Mem.awayTail (L := [_, _]) M7 F)) ?_)))
  rintro v8 w8 ⟨rfl, rs2, hrs2, hM8⟩
  have M8 : Mem _ _ ([_, _] ++ _) _ := Mem.tail (L := [_, _]) M7 hM8
  refine aB (dJ (aC (aA (wq (bQ rfl rfl (by omega) (by omega)) rfl (aY rfl rfl (aB ?_))))))
  refine cT (k + 1, rs2) (bM rfl fD) (cW rfl (cW rfl (cW rfl (cW rfl (cW rfl (cW rfl kK)))))) ?_ ?_
  ·exact ⟨⟨by omega, by rw [aTc hxb]; exact hrs2⟩, Mem.keepL (L := [_, _]) [true, false] M8⟩
  ·(show n - (k + 1) < n - k; omega)
 ·have hkn : k = n := by omega
  rw [List.take_of_length_le (by omega)] at hrs
  refine cO (dC (dA (eV (aC (aD (aA (wq (aG (.map _) rfl) rfl ?_)))))))
  refine bX bCy rfl rfl (yH _ pm) ?_
  rintro v9 w9 ⟨bm, bn, rfl, hM9⟩
  have M9 : Mem _ _ ([_, _, _] ++ _) _ := Mem.front (L := [_]) (hM4.call0 hM9)
  refine wq (aG (.tuple (List.toArray _)) rfl) rfl (wq (bG (.func _ _ _) rfl rfl) rfl (wq (bG (.func _ _ _) rfl rfl) rfl (wq (aI (.func _ _ _) rfl) rfl (wq (aI (.func _ _ _) rfl) rfl (aB (aC (aD (aA ?_))))))))
  refine bX bCn rfl rfl (vX _ b2 rs (k : Int) (gOf xs) hrs.len (Mem.gridRd (L := [_, _, _]) M9 hrs.len) (fun j r hr => Mem.rowRd (L := [_, _, _]) M9 hrs j r hr) (xs.map (·.key)) (fun j _ x hx => by obtain ⟨b, h1, _, rfl⟩ := oC.1 hx; exact List.mem_map.2 ⟨b, h1, rfl⟩) (by simp; omega)) ?_
  rintro v10 w10 ⟨r, ps, hasc, hps, rfl, hr, hM10⟩
  have M10 : Mem _ _ ([_, _, _, _] ++ _) _ := Mem.front (L := [_, _, _]) (M9.call0 hM10)
  have hpl := aPf hs hasc hps
  have hrl : ps.length = r.n := by simpa using hr.1
  have hnn : xs.length * (xs.length - 1) ≤ 4096 * 4096 := Nat.mul_le_mul (by omega) (by omega)
  refine wq (aG (.func _ _ _) rfl) rfl ?_
  have M11 : Mem _ _ [_, _, _, _] _ := Mem.order4 M10
  refine bX bCo rfl rfl (rM _ r.A r.n r.c ps r.e hr bn bm 0 (bxM xs) pm em hme (lX 3 M11 rfl rfl) (N.mem M11) (M11.ownSeg 0 3) (M11.apartTake 3 3 rfl rfl) (M11.away 0 3 N (fun _ q off _ h => by simp at h)) (by omega) (by omega)) ?_
  rintro v12 w12 ⟨r2, rfl, hr2, hM12⟩
  have M12 : Mem _ _ [_, _, _, _] _ := M11.seg 0 3 hM12
  have hfl : (lJ xs).length ≤ ps.length := by rw [← yQ hs hasc hps]; exact List.length_filter_le _ _
  rw [yQ hs hasc hps] at hr2
  refine fL rfl rfl (aB (aC (aD (aA (eC rfl rfl (wq (aG (.func _ _ _) rfl) rfl (bX bFq rfl rfl (aAo _ bn _ (lX 1 M12 rfl rfl)) ?_)))))))
  rintro v13 w13 ⟨rfl, hb13⟩
  have M13 := M12.callB hb13
  refine fL rfl rfl (bP rfl rfl (aB (aC (aN (iK (.slice _ _ _) (.int _ _) rfl rfl ?_)))))
  exact ⟨r2, 0 + r.n, rfl, by omega, by omega, hr2, M13.keep [true, false, false, false]⟩
end Go.Proofs.YtaoaknafiegfoaaGreatDoor
