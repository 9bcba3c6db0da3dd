/- Part of the proof of the laws of this seat: P10, Q10, U11, V11, W11, Aw11. No conditions. -/
import Derived.Test.YtaoaknafiegfoaaGreatDoorK2
import Derived.Test.YtaoaknafiegfoaaGreatDoorK5
import Derived.Test.YtaoaknafiegfoaaGreatDoorK25
import Derived.Test.YtaoaknafiegfoaaGreatDoorK17
import Derived.Test.YtaoaknafiegfoaaGreatDoorK21
import Derived.Test.YtaoaknafiegfoaaGreatDoorK24
set_option linter.unusedVariables false
set_option linter.unusedSimpArgs false
set_option linter.unnecessarySimpa false
namespace Go.Proofs.YtaoaknafiegfoaaGreatDoor
open Go.Bil
open Go.RowKit (Below)
open Go.Proofs
set_option maxHeartbeats 4000000 in
theorem aUx (w : World) (a b : Int) :
  Calls Tryz.prog 210 #[.int .u32 a, .int .u32 b] w (fun ex w' => ∃ v, ex = .returned v ∧ (fun v w' => v = (.agg (cM (prI a b)).toArray) ∧ Below w.heap.size w w') v w') := by
 refine aI #[.cell 4 209] 12 Tryz.func210 rfl Tryz.results210 Tryz.ntmps210 rfl ?_
 have M0 := Mem.refl w
 refine aE (aA (aT uC M0 rfl rfl (fun b1 w1 M1 => (aB (aC (aE (aA (aP rfl rfl (aP rfl rfl (wq (aEl rfl rfl ) rfl ?_))))))))))
 refine aP rfl rfl (aP rfl rfl (wq (pV rfl rfl ) rfl (wq (cF [(0, .int _ _), (1, .int _ _)] _ yU rfl rfl) rfl (bI 0 _ jI M1 rfl rfl rfl rfl rfl (aR rfl) rfl (fun w2 M2 => (aB (aC (aO ?_))))))))
 refine eL 0 jI M2 rfl rfl rfl ?_
 exact ⟨rfl, M2.below⟩
set_option maxHeartbeats 4000000 in
theorem bIi (w : World) (A : Option Addr) (x y : Int) (R : Rd w 1 A 2 [[.int .i64 x], [.int .i64 y]]) :
  Calls Tryz.prog 236 #[.slice A 2 2] w (fun ex w' => ∃ v, ex = .returned v ∧ (fun v w' => v = .int .i64 (if x = 0 then y else x) ∧ w' = w) v w') := by
 refine aI #[.tmp 2] 18 Tryz.func236 rfl Tryz.results236 Tryz.ntmps236 rfl ?_
 have M0 := Mem.refl w
 refine aE (aA (bH rfl rfl (aB (aC (aE (aA (bH rfl rfl (aB (aC (aE (aE (aA (dH rfl rfl ?_)))))))))))))
 refine wq (cZ Tryz.underlying353 rfl) rfl (aK 7 (.int .i64 2) (iE rfl) (aP rfl rfl (aB (aC (aQ (iU 3 (fI (aE (aA ?_)))))))))
 refine cY rfl rfl rfl rfl (kH 9 rfl (by first | decide | omega) (aB (aC (aE (cE rfl (aL (aC (aE (aQ (aE (aA (wq (bO (0) bDy rfl rfl rfl (R.below_len ((rfl : ([[.int .i64 x], [.int .i64 y]] : List (List Value))[0]? = some [.int .i64 x]))) (R.someK ((rfl : ([[.int .i64 x], [.int .i64 y]] : List (List Value))[0]? = some [.int .i64 x])))) rfl ?_))))))))))))
 refine wq (iW (.int _ _) iP R ((rfl : ([[.int .i64 x], [.int .i64 y]] : List (List Value))[0]? = some [.int .i64 x])) rfl) rfl (bH rfl rfl (aB (aC (aE (aA (aP rfl rfl (aP rfl rfl (cY rfl rfl rfl rfl ?_))))))))
 refine aB (aC ?_)
 refine aW rfl (fun h14 => ?_) (fun h14 => ?_)
 ·refine aE (aA (aP rfl rfl (bH rfl rfl (aB (aC (aO (lD (cO (cO ?_)))))))))
  refine lD (cO (cG (.int _ _) rfl ?_))
  exact ⟨iE (by split <;> omega), rfl⟩
 ·refine aL (cT (aC (aA (wq (aY rfl rfl (by first | decide | omega) (by first | decide | omega)) rfl (aK 16 (.int .i64 1) (iE (by first | decide | omega)) (aP rfl rfl ?_))))))
  refine aB (aC (fI (aE (aA (cY rfl rfl rfl rfl (kH 9 rfl (by first | decide | omega) (aB (aC (aE ?_)))))))))
  refine cE rfl (aL (aC (aE (aQ (aE (aA (wq (bO (1) bDy rfl rfl rfl (R.below_len ((rfl : ([[.int .i64 x], [.int .i64 y]] : List (List Value))[1]? = some [.int .i64 y]))) (R.someK ((rfl : ([[.int .i64 x], [.int .i64 y]] : List (List Value))[1]? = some [.int .i64 y])))) rfl (wq (iW (.int _ _) iP R ((rfl : ([[.int .i64 x], [.int .i64 y]] : List (List Value))[1]? = some [.int .i64 y])) rfl) rfl ?_))))))))
  refine bH rfl rfl (aB (aC (aE (aA (aP rfl rfl (aP rfl rfl (cY rfl rfl rfl rfl (aB (aC ?_)))))))))
  refine aW rfl (fun h14 => ?_) (fun h14 => ?_)
  ·refine aE (aA (aP rfl rfl (bH rfl rfl (aB (aC (aO (lD (cO (cO ?_)))))))))
   refine lD (cO (cG (.int _ _) rfl ?_))
   exact ⟨iE (by split <;> omega), rfl⟩
  ·refine aL (cT (aC (aA (wq (aY rfl rfl (by first | decide | omega) (by first | decide | omega)) rfl (aK 16 (.int .i64 2) (iE (by first | decide | omega)) (aP rfl rfl ?_))))))
   refine aB (aC (fI (aE (aA (cY rfl rfl rfl rfl (oG 9 rfl (by first | decide | omega) (aB (aC (aE ?_)))))))))
   refine cJ rfl (cW (dE (dE (eS (aC (aE (aA (aP rfl rfl ?_))))))))
   refine bH rfl rfl (aB (aC (aO (cG (.int _ _) rfl ?_))))
   exact ⟨iE (by split <;> omega), rfl⟩
set_option maxHeartbeats 4000000 in
theorem aKd (a b : Int × Int) (w : World) :
  Calls Tryz.prog 213 #[(.agg (cM a).toArray), (.agg (cM b).toArray)] w (fun ex w' => ∃ v, ex = .returned v ∧ (fun v w' => v = .int .i64 (aVp a b) ∧ ∃ q os, w' = Go.Sort.grow (w.drewN q) os) v w') := by
 refine aI #[.tmp 4] 17 Tryz.func213 rfl Tryz.results213 Tryz.ntmps213 rfl ?_
 have M0 := Mem.refl w
 refine aE (aA (aBv (.agg (List.toArray _)) M0 rfl rfl rfl (fun M1 => (aBv (.agg (List.toArray _)) M1 rfl rfl rfl (fun M2 => (bH rfl rfl (aB (aC (aE (bGx [(0, 0), (1, 1), (2, 0), (3, 1), (5, 0), (6, 1), (7, 0), (8, 1), (4, 2), (9, 2), (10, 2), (11, 2), (12, 0)] mixed rfl (by kernel_rfl) ?_))))))))))
 have M3 := M2.drewE
 refine aU rfl rfl rfl (fun _ => aD 0 gE rfl) (bS rfl rfl rfl (aM 0 (.int _ _) bW M3 rfl rfl rfl) (aU rfl rfl rfl (fun _ => aD 0 gE rfl) (bS rfl rfl rfl (aM 1 (.int _ _) bW M3 rfl rfl rfl) (aU rfl rfl rfl (fun _ => aD 1 jQ rfl) (bS rfl rfl rfl (aM 0 (.int _ _) bW M3 rfl rfl rfl) ?_)))))
 refine aU rfl rfl rfl (fun _ => aD 1 jQ rfl) (bS rfl rfl rfl (aM 1 (.int _ _) bW M3 rfl rfl rfl) (dU [false, false, true, true] rfl (by kernel_rfl) (bY aKb rfl rfl (mZ _ _ _) ?_)))
 rintro v4 w4 ⟨rfl, rfl⟩
 have M4 : Mem _ _ [_, _] _ := M3
 refine aB (aC ⟨(eD (bL rfl (aM 1 (.int _ _) bW M4 rfl rfl rfl)) (eD (bL rfl (aM 0 (.int _ _) bW M4 rfl rfl rfl)) dT)), ?_⟩)
 refine dU [true, true] rfl (by kernel_rfl) (bY aKb rfl rfl (mZ _ _ _) ?_)
 rintro v5 w5 ⟨rfl, rfl⟩
 have M5 : Mem _ _ [_, _] _ := M4
 refine aB (aC ⟨dT, ?_⟩)
 refine dU [] rfl (by kernel_rfl) (aPq [.int _ _, .int _ _] [[.int .i64 (pD a.1 b.1)], [.int .i64 (pD a.2 b.2)]] rfl bDy M5 rfl rfl rfl rfl (dD rfl) (by decide) (fun M6 => ?_))
 refine aB (aC ⟨dT, ?_⟩)
 refine dU [] rfl (by kernel_rfl) (bY bNk rfl rfl (bIi _ _ _ _ ((kB (T := 3) [[.int .i64 (pD a.1 b.1)], [.int .i64 (pD a.2 b.2)]] (by simp) rfl (show 2 ≤ 281474976710656 by decide)).rd M6 (aZ (i := 2) rfl))) ?_)
 rintro v7 w7 ⟨rfl, rfl⟩
 have M7 : Mem _ _ [_, _, _] _ := M6
 refine aB (aC ⟨dT, ?_⟩)
 refine mG rfl rfl rfl (bX (aC (aO (cG (.int _ _) rfl ?_))))
 exact ⟨iE rfl, bPe _ _ _ _⟩
theorem bAp : aSm Tryz.prog 213 cM aVp := fun x y w => aKd x y w
theorem aYp : KeyT Tryz.prog 287 209 288 cM := by
 refine ⟨Tryz.underlying287, ⟨_, Tryz.underlying209⟩, fun a w => ?_, fun a b w => ?_, fun a => by simp [cM, Instr.sameBits]⟩
 ·have h42 := bV (w := w) Tryz.underlying209
  have hc : ∀ x : Int, (Instr.checkKey false 9999 35 (.int .u32 x)).run Tryz.prog w = .ok () w := fun x => MapKept.run_checkKey (d := .int .u32) Tryz.underlying35 (by simp [MapKept.IsKey]) false 9998
  have p0 : (Go.part 35 #[.int .u32 a.1, .int .u32 a.2] 0).run Tryz.prog w = .ok (.int .u32 a.1) w := aFd (l := [.int .u32 a.1, .int .u32 a.2]) bW rfl
  have p1 : (Go.part 35 #[.int .u32 a.1, .int .u32 a.2] 1).run Tryz.prog w = .ok (.int .u32 a.2) w := aFd (l := [.int .u32 a.1, .int .u32 a.2]) bW rfl
  show (Instr.checkKey false (9999 + 1) 209 _).run _ w = _
  unfold Instr.checkKey
  simp only [Sem.run_bind, h42, Result.andThen_ok, cM]
  simp [p0, p1, hc, Sem.run_bind, Sem.run_pure]
 ·have h := (bJz a.1 a.2 b.1 b.2).2 w
  have e : decide (a.1 = b.1 ∧ a.2 = b.2) = decide (a = b) := decide_eq_decide.2 Prod.ext_iff.symm
  rw [e] at h
  exact h
theorem aDe (w : World) (A : Option Addr) (n c : Nat) (xs : List (Int × Int)) (e : eX) (hR : bC 209 2 A n c (xs.map cM) e) (hw : Own [e] w) (hn : n ≤ 1099511627776) :
  Calls Tryz.prog 234 #[.slice A n c, .func (.func 213) #[] #[]] w (fun ex w' => ∃ v, ex = .returned v ∧ v = .tuple #[] ∧ ∃ (ys : List (Int × Int)) (e' : eX), ys.Perm xs ∧ (ys.Pairwise fun a b => ¬ ltP b a) ∧ bC 209 2 A n c (ys.map cM) e' ∧ Mem w (cB [e]) [e'] w') := by
 have h := vQ aXf (T := 209) jI cM aFv (fun x v hv => by simp only [cM, List.mem_cons, List.not_mem_nil, or_false] at hv; rcases hv with h | h <;> subst h <;> rfl) _ bBf 213 bKn bAp w A xs e hR hw (by omega)
 refine Calls.mono h ?_
 rintro ex w' ⟨v, h1, h2, ys, e', h3, h4, h5, h6⟩
 refine ⟨v, h1, h2, ys, e', h3, ?_, h5, h6⟩
 refine List.pairwise_iff_getElem.2 fun i j hi hj hij => ?_
 have := h4 i j _ _ hij (List.getElem?_eq_getElem hi) (List.getElem?_eq_getElem hj)
 have h := of_decide_eq_false this
 rwa [aNr] at h
set_option maxHeartbeats 4000000 in
theorem aRb (w : World) (mb : Nat) :
  Calls Tryz.prog 212 #[.map (some mb)] w (fun ex w' => ∃ v, ex = .returned v ∧ (fun v w' => ∃ bb, v = .func (.func 235) #[] #[.pointer (some ⟨bb, 0, none⟩)] ∧ Mem w [] [(some bb, bc [.map (some mb)] 287)] w') v w') := by
 refine aI #[.tmp 2] 4 Tryz.func212 rfl Tryz.results212 Tryz.ntmps212 rfl ?_
 have M0 := Mem.refl w
 refine aE (aA (bJ (.map _) M0 rfl rfl rfl (fun b1 w1 M1 => (wq (aJ (_) rfl) rfl (aB (aC (aE (aA (wq (dR [] [.pointer _] rfl rfl) rfl (wq (aJ (.func _ _ _) rfl) rfl ?_))))))))))
 refine aB (aC (aO (cG (.func _ _ _) rfl ?_)))
 exact ⟨b1, rfl, M1⟩
set_option maxHeartbeats 4000000 in
theorem aMc (w : World) (bb : Nat) (mb clock : Nat) (L : List ((Int × Int) × Nat)) (hmb : w.heap[mb]? = some (kI cM L clock)) (hml : mb < w.heap.size) (hS : SetOk L clock) (hLN : L.length < 1099511627776) (B1 : Rd w 1 (some ⟨bb, 0, none⟩) 1 [[.map (some mb)]]) (lp ob : Nat) (rec : Loop) (hY : wX Tryz.prog lp ob rec 220 209 2 1099511627776 (fun x => ∃ a b, x = [.int .u32 a, .int .u32 b])) (r0 : Row) (hr0 : bC 209 2 r0.A r0.n r0.c [] r0.e) (hO : Own [(some lp, .loop rec), (some ob, bc [.slice r0.A r0.n r0.c] 220), r0.e] w) (hd1 : 0 < 1 → ∀ q off, (some ⟨bb, 0, none⟩ : Option Addr) = some ⟨q, off, none⟩ → q ∉ cB [(some lp, .loop rec), (some ob, bc [.slice r0.A r0.n r0.c] 220), r0.e]) (hmX : mb ∉ cB [(some lp, .loop rec), (some ob, bc [.slice r0.A r0.n r0.c] 220), r0.e]) :
  Calls Tryz.prog 235 #[.func (.yield lp) #[] #[], .pointer (some ⟨bb, 0, none⟩)] w (fun ex w' => ∃ v, ex = .returned v ∧ (fun v w' => v = .tuple #[] ∧ ∃ (r : Row) (T : List ((Int × Int) × Nat)), T.Perm L ∧ bC 209 2 r.A r.n r.c ((T.map (fun z => z.1)).map cM) r.e ∧ Mem w (cB [(some lp, .loop rec), (some ob, bc [.slice r0.A r0.n r0.c] 220), r0.e]) [(some lp, .loop rec), (some ob, bc [.slice r.A r.n r.c] 220), r.e] w') v w') := by
 rw [← gQ bb]
 refine aI #[] 14 Tryz.func235 rfl Tryz.results235 Tryz.ntmps235 rfl ?_
 have M0 := hO.mem
 refine aE (aA (wq (dX (o := 0) (.map _) bKh (B1.memY M0 hd1) (show ([[.map (some mb)]] : List (List Value))[0]? = some ([.map (some mb)]) from rfl) rfl rfl) rfl (aYx (α := Int × Int) Tryz.underlying287 M0 rfl rfl rfl ((M0.old mb hml hmX).trans hmb) (fun b1 w1 M1 => (aB (aC (aQ ?_)))))))
 refine dS (σ := List ((Int × Int) × Nat) × Row) [0, 5] (fun (T, r) => []) (fun (T, r) w' => ((∀ p ∈ T, p ∈ L) ∧ (T.map (·.2)).Nodup ∧ bC 209 2 r.A r.n r.c ((T.map (fun z => z.1)).map cM) r.e) ∧ Mem w (cB [(some lp, .loop rec), (some ob, bc [.slice r0.A r0.n r0.c] 220), r0.e]) [(some lp, .loop rec), (some ob, bc [.slice r.A r.n r.c] 220), r.e, (some b1, xX mb clock T)] w') (fun (T, r) => L.length - T.length) ([], r0) dZ (⟨⟨(fun p hp => nomatch hp), by simp, hr0⟩, M1⟩) ?_
 rintro ⟨T, r⟩ ρ2 w2 ⟨⟨hTs, hTn, hr⟩, hM2⟩
 have hrl : T.length = r.n := by simpa using hr.1
 have hTl := aLj hTn hTs
 refine aE (aA ?_)
 refine bFl (enc := cM) 3 hM2 rfl rfl rfl rfl ((hM2.old mb hml hmX).trans hmb) hS.lt (fun hover => ?_) (fun p3 w3 hp3 hnp3 M3 => ?_)
 ·refine wq (bN (.bool false) rfl rfl) rfl (aB (aC (aE (cJ rfl (cW (dE (dL ?_)))))))
  refine eS (lB ?_)
  exact ⟨rfl, r, T, bCf hS.nd hTn hTs hover, hr, hM2.keep [true, true, true, false]⟩
 ·refine wq (bN (.bool true) rfl rfl) rfl (aB (aC (aE (cE rfl (aL (aC (aQ (aE (aA (wq (bFc (enc := cM) 3 (p3) M3 rfl rfl ((M3.old mb hml hmX).trans hmb) hp3 hS.nd) rfl (wq (bN (.agg (List.toArray _)) rfl rfl) rfl ?_)))))))))))
  refine aT uC M3 rfl rfl (fun b4 w4 M4 => (bI 4 _ jI M4 rfl rfl rfl rfl rfl (aR rfl) rfl (fun w5 M5 => (aB (aC (aE (aHe (aIp (aH (.func _ _ _) rfl) rfl rfl (aIp (aX 4 jI M5 rfl rfl rfl) rfl rfl ?_)))))))))
  obtain ⟨fy, ty, ay, by1, hy1, hy2⟩ := hY _ r ((T.map (fun z => z.1)).map cM) (cM p3.1) ⟨_, _, rfl⟩ (by omega) hr (M5.ownSeg 0 3)
  refine aGy rfl rfl rfl rfl hy1 (hy2.mono ?_)
  rintro _ w6 ⟨rfl, q6, hqn6, hq6, hM6⟩
  have M6 : Mem _ _ [_, _, _, _, _] _ := M5.seg 0 3 hM6
  refine ⟨_, rfl, ?_⟩
  refine bBe rfl (fun _ _ h => h) (wq (gI false rfl rfl) rfl (aB (aC (cJ rfl (aL (cT ?_))))))
  have hTs2 : ∀ p ∈ T ++ [p3], p ∈ L := fun p hp => (List.mem_append.1 hp).elim (hTs p) (fun h => by rw [List.mem_singleton] at h; rw [h]; exact hp3)
  have hTn2 := aYa hTn hnp3
  have hTl2 := aLj hTn2 hTs2
  rw [List.length_append, List.length_singleton] at hTl2
  refine cD (T ++ [p3], q6) dZ (cK rfl (cK rfl gW)) ?_ ?_
  ·exact ⟨⟨hTs2, hTn2, by rw [List.map_append, List.map_append]; exact hq6⟩, M6.keep [true, true, true, true, false]⟩
  ·(show L.length - (T ++ [p3]).length < L.length - T.length; rw [List.length_append, List.length_singleton]; omega)
set_option maxHeartbeats 4000000 in
theorem xB (w : World) (bb : Nat) (mb clock : Nat) (L : List ((Int × Int) × Nat)) (hmb : w.heap[mb]? = some (kI cM L clock)) (hml : mb < w.heap.size) (hS : SetOk L clock) (hLN : L.length < 1099511627776) (B1 : Rd w 1 (some ⟨bb, 0, none⟩) 1 [[.map (some mb)]]) :
  Calls Tryz.prog 256 #[.slice none 0 0, .func (.func 235) #[] #[.pointer (some ⟨bb, 0, none⟩)]] w (fun ex w' => ∃ v, ex = .returned v ∧ (fun v w' => ∃ (r : Row) (T : List ((Int × Int) × Nat)), T.Perm L ∧ v = .slice r.A r.n r.c ∧ bC 209 2 r.A r.n r.c ((T.map (fun z => z.1)).map cM) r.e ∧ Mem w [] [r.e] w') v w') := by
 refine aAq #[.tmp 4] 13 Tryz.func256 rfl Tryz.results256 Tryz.ntmps256 rfl ?_
 have M0 := Mem.refl w
 refine rO (oP (bJ (.slice _ _ _) M0 rfl rfl rfl (fun b1 w1 M1 => (eI rfl rfl (aB (rZ ?_))))))
 refine rO (rO (oP (wq (aH (.func _ _ _) rfl) rfl (aB (rZ ?_)))))
 refine aNv ?_
 have M2 : Mem _ _ [_, _] _ := M1.dummy default
 refine aNt bNl M2 rfl (fun fnn B lp tmps w1 hρ hn M1 => ?_)
 refine aDl (P := Tryz.prog) (ob := b1) (Tsl := 220) (Te := 209) (sz := 2) (N := 1099511627776) (ok := (fun x => ∃ a b, x = [.int .u32 a, .int .u32 b])) M1 ?_ (fun hY => ?_)
 ·intro wr r ls x hok hlt hrow hO
  obtain ⟨xa, xb, rfl⟩ := hok
  refine ⟨_, _, _, _, aMv hO rfl rfl rfl hn (by decide) hρ ?_⟩
  have MR0 := hO.mem
  refine uY rfl (fun _ _ h => nomatch h.1) (aT uC MR0 rfl rfl (fun b3 w3 M3 => (bI 3 _ jI M3 rfl rfl rfl rfl rfl (aR rfl) rfl (fun w4 M4 => (aB ?_)))))
  refine ⟨rfl, _, M4, rfl, fun w5 M5 => ?_⟩
  refine aNu (uY rfl (fun _ _ h => nomatch h.1) (wq (aM 1 (.slice _ _ _) aRg M5 rfl rfl rfl) rfl (wq (aX 3 jI M5 rfl rfl rfl) rfl (cR [.agg (List.toArray _)] [[.int .u32 xa, .int .u32 xb]] rfl yA M5 rfl rfl rfl rfl (dD rfl) (by decide) (fun b6 w6 M6 => (dG 2 [[.int .u32 xa, .int .u32 xb]] yA M6 rfl rfl rfl rfl rfl hrow rfl (by simp [Go.Bil.one]) (dV.ofMem 4 M6 rfl) (by omega) (fun A7 c7 e7 w7 M7 hR7 => ?_)))))))
  refine dB 1 (.slice _ _ _) aRg M7 rfl rfl rfl rfl rfl rfl (fun w8 M8 => (aB (cT ?_)))
  refine ⟨rfl, _, M8, rfl, fun w9 M9 => ?_⟩
  exact ⟨⟨A7, r.n + 1, c7, e7⟩, rfl, hR7, M9.keep [true, true, true, false, false]⟩
 ·refine (aMc _ bb mb clock L ((M1.old mb hml List.not_mem_nil).trans hmb) (Nat.lt_of_lt_of_le hml M1.size) hS hLN (B1.mem M1) lp b1 _ hY ⟨none, 0, 0, (none, default)⟩ (bC.nil _ _ _) (M1.ownSeg 0 3) (M1.away 0 3 B1 (fun _ q off _ h => by simp at h)) (M1.notNew 3 hml)).mono ?_
  rintro _ w5 ⟨v5, rfl, rfl, r, T, hT, hr, hM⟩
  have M5 : Mem _ _ (_ :: [_, _, _]) _ := M1.seg 0 3 hM
  refine ⟨_, rfl, _, M5, fun w6 M6 => ?_⟩
  refine bJs (rZ (rO (aIi (aSg (aM 1 (.slice _ _ _) aRg M6 rfl rfl rfl) rfl rfl (aSg (aJ (.slice _ _ _) rfl) rfl rfl ?_)))))
  refine aTx (rZ (aZa (bJq (i := 3) (.slice _ _ _) rfl M6 rfl (fun w9 M9 => ?_))))
  exact ⟨r, T, hT, rfl, hr, M9.keep [false, false, true, false]⟩
set_option maxHeartbeats 4000000 in
theorem aBd (w : World) (bb : Nat) (mb clock : Nat) (L : List ((Int × Int) × Nat)) (hmb : w.heap[mb]? = some (kI cM L clock)) (hml : mb < w.heap.size) (hS : SetOk L clock) (hLN : L.length < 1099511627776) (B1 : Rd w 1 (some ⟨bb, 0, none⟩) 1 [[.map (some mb)]]) :
  Calls Tryz.prog 233 #[.func (.func 235) #[] #[.pointer (some ⟨bb, 0, none⟩)]] w (fun ex w' => ∃ v, ex = .returned v ∧ (fun v w' => ∃ (r : Row) (T : List ((Int × Int) × Nat)), T.Perm L ∧ v = .slice r.A r.n r.c ∧ bC 209 2 r.A r.n r.c ((T.map (fun z => z.1)).map cM) r.e ∧ Mem w [] [r.e] w') v w') := by
 refine aI #[.tmp 2] 5 Tryz.func233 rfl Tryz.results233 Tryz.ntmps233 rfl ?_
 have M0 := Mem.refl w
 refine aE (aA (eI rfl rfl (aB (aC (aE (aA (wq (aH (.func _ _ _) rfl) rfl (bY bLs rfl rfl (xB _ bb mb clock L ((M0.old mb hml List.not_mem_nil).trans hmb) (Nat.lt_of_lt_of_le hml M0.size) hS hLN (B1.mem M0)) ?_))))))))
 rintro v1 w1 ⟨r, T, hT, rfl, hr, hM1⟩
 have M1 : Mem _ _ [_] _ := M0.call0 hM1
 refine eI rfl rfl (aB (aC (aO (cG (.slice _ _ _) rfl ?_))))
 exact ⟨r, T, hT, rfl, hr, M1⟩
set_option maxHeartbeats 4000000 in
theorem wK (w : World) (bb : Nat) (mb clock : Nat) (L : List ((Int × Int) × Nat)) (hmb : w.heap[mb]? = some (kI cM L clock)) (hml : mb < w.heap.size) (hS : SetOk L clock) (hLN : L.length < 1099511627776) (B1 : Rd w 1 (some ⟨bb, 0, none⟩) 1 [[.map (some mb)]]) :
  Calls Tryz.prog 211 #[.func (.func 235) #[] #[.pointer (some ⟨bb, 0, none⟩)], .func (.func 213) #[] #[]] w (fun ex w' => ∃ v, ex = .returned v ∧ (fun v w' => ∃ (r : Row) (ys : List (Int × Int)), Asc ys ∧ (∀ z, z ∈ ys ↔ z ∈ L.map (·.1)) ∧ v = .slice r.A r.n r.c ∧ bC 209 2 r.A r.n r.c ((ys).map cM) r.e ∧ Mem w [] [r.e] w') v w') := by
 refine aI #[.tmp 4] 12 Tryz.func211 rfl Tryz.results211 Tryz.ntmps211 rfl ?_
 have M0 := Mem.refl w
 refine aE (aA (eI rfl rfl (aB (aC (aE (aA (wq (aH (.func _ _ _) rfl) rfl (bY bNt rfl rfl (aBd _ bb mb clock L ((M0.old mb hml List.not_mem_nil).trans hmb) (Nat.lt_of_lt_of_le hml M0.size) hS hLN (B1.mem M0)) ?_))))))))
 rintro v1 w1 ⟨r, T, hT, rfl, hr, hM1⟩
 have M1 : Mem _ _ [_] _ := M0.call0 hM1
 have hrl : T.length = r.n := by simpa using hr.1
 have hTL := hT.length_eq
 refine eI rfl rfl (aB (aC (aE (aA (dH rfl rfl (wq (aH (.func _ _ _) rfl) rfl (bY bMw rfl rfl (aDe _ _ _ _ (T.map (fun z => z.1)) _ hr (M1.ownAt (i := 0) rfl) (by omega)) ?_)))))))
 rintro v2 w2 ⟨rfl, ys, e2, hpp, huu, hR2, hM2⟩
 have M2 : Mem _ _ [_] _ := M1.seg 0 1 hM2
 refine aB (aC (aE (aA (dH rfl rfl (eI rfl rfl (aB (aC (aO (cG (.slice _ _ _) rfl ?_)))))))))
 have hpl : ys.Perm (L.map (·.1)) := hpp.trans (hT.map _)
 exact ⟨⟨r.A, r.n, r.c, e2⟩, ys, bNj (hpl.nodup_iff.2 hS.keys) huu, fun z => hpl.mem_iff, rfl, hR2, M2⟩
set_option maxHeartbeats 16000000 in
theorem aBf (w : World) (b : Nat) (rs : List Row) (cnt : Int) (g : Nat → List Int) (hlen : rs.length = 1024) (G : Rd w 1025 (some ⟨b, 0, none⟩) 1 [eZ rs cnt]) (hrow : ∀ (j : Nat) (r : Row), rs[j]? = some r → Rd w 1 r.A r.n ((g j).map iA) ∧ r.n ≤ r.c) (ks : List Int) (hks : ∀ j, j < 1024 → ∀ x ∈ g j, x ∈ ks) (hkl : ks.length ≤ 65536) :
  Calls Tryz.prog 184 #[.pointer (some ⟨b, 0, none⟩)] w (fun ex w' => ∃ v, ex = .returned v ∧ (fun v w' => ∃ (r : Row) (ps : List (Int × Int)), Asc ps ∧ (∀ z, z ∈ ps ↔ z ∈ qM g 1024) ∧ v = .slice r.A r.n r.c ∧ bC 209 2 r.A r.n r.c ((ps).map cM) r.e ∧ Mem w [] [r.e] w') v w') := by
 rw [← gQ b]
 refine aI #[.tmp 2] 49 Tryz.func184 rfl Tryz.results184 Tryz.ntmps184 rfl ?_
 have M0 := Mem.refl w
 refine aE (aA (eI rfl rfl (aB (aC (aE (aE (aA (wq (aH (yK _ _) rfl) rfl (wq (aNn Tryz.underlying279 (G.mem M0) (show ([eZ rs cnt] : List (List Value))[0]? = some (eZ rs cnt) from rfl) rfl) rfl (aB (aC ?_)))))))))))
 refine cJ rfl (aL (aC (aE (aA (mM M0 rfl rfl (fun b1 w1 M1 => (wq (aJ (.map _) rfl) rfl (aB (aC (aE (aE (aA (wq (aH (yK _ _) rfl) rfl ?_)))))))))))))
 refine wq (aLu (G.mem M1) (Nat.lt_of_le_of_lt (Nat.zero_le _) ((G.mem M1).below_len (show ([eZ rs cnt] : List (List Value))[0]? = some (eZ rs cnt) from rfl))) rfl) rfl (wq (bG 0 aDp (G.mem M1) (Nat.lt_of_le_of_lt (Nat.zero_le _) ((G.mem M1).below_len (show ([eZ rs cnt] : List (List Value))[0]? = some (eZ rs cnt) from rfl))) rfl) rfl ?_)
 refine wq (aFj (o := 0) (rs.map (fun r => Value.slice r.A r.n r.c)) bLn (G.mem M1) (show ([eZ rs cnt] : List (List Value))[0]? = some (eZ rs cnt) from rfl) rfl (aNo hlen) (by simp [hlen])) rfl (aP rfl rfl (aB (aC (aQ (dS (σ := Nat × Nat × List ((Int × Int) × Nat)) [2, 3, 16] (fun (i, c0, L0) => [(17, .int .i64 (i : Int))]) (fun (i, c0, L0) w' => i ≤ 1024 ∧ (SetOk L0 c0 ∧ ∀ z, z ∈ L0.map (fun z => z.1) ↔ z ∈ qM g i) ∧ Mem w [] [(some b1, kI cM L0 c0)] w') (fun (i, c0, L0) => 1024 - i) (0, 0, []) (bB rfl dZ) (⟨by omega, ⟨SetOk.nil, fun z => by simp [qM]⟩, M1⟩) ?_)))))
 rintro ⟨i, c0, L0⟩ ρ2 w2 ⟨hi, ⟨hS0, hI0⟩, hM2⟩
 refine aE (aA (cY rfl rfl rfl rfl (aB (aC (aE ?_)))))
 refine aW rfl (fun h18 => ?_) (fun h18 => ?_)
 ·obtain ⟨rj, hrj⟩ := cV (xs := rs) (k := i) hlen (by omega)
  obtain ⟨Rj, hcj⟩ := hrow i rj hrj
  have hlj : (g i).length = rj.n := by simpa using Rj.len
  have hbj := Rj.bound
  refine aL (aC (aE (aQ (aE (aA (wq (zL (i) (.slice rj.A rj.n rj.c) aPp aJx rfl rfl (by omega) (by omega) rfl (by rw [mO]; exact aG _ hrj)) rfl (eI rfl rfl (aB (aC (aE (aA (dH rfl rfl (wq (cZ Tryz.underlying247 rfl) rfl ?_)))))))))))))
  refine aP rfl rfl (aB (aC (aQ (dS (σ := Nat × Nat × List ((Int × Int) × Nat)) [2, 3, 5, 16, 17, 20, 21] (fun (p, c2, L2) => [(22, .int .i64 (p : Int))]) (fun (p, c2, L2) w' => p ≤ rj.n ∧ (SetOk L2 c2 ∧ ∀ z, z ∈ L2.map (fun z => z.1) ↔ z ∈ qM g i ++ aAx (g i) p) ∧ Mem w [] [(some b1, kI cM L2 c2)] w') (fun (p, c2, L2) => rj.n - p) (0, c0, L0) (bB rfl dZ) (⟨by omega, ⟨hS0, fun z => by rw [hI0 z]; simp [aAx]⟩, hM2⟩) ?_))))
  rintro ⟨p, c2, L2⟩ ρ3 w3 ⟨hp, ⟨hS2, hI2⟩, hM3⟩
  refine aE (aA (cY rfl rfl rfl rfl (aB (aC (aE ?_)))))
  refine aW rfl (fun h23 => ?_) (fun h23 => ?_)
  ·obtain ⟨xa, hxa⟩ := cV (xs := g i) (k := p) hlj (by omega)
   refine aL (aC (aE (aQ (aE (aA (aP rfl rfl (wq (bO (p) aNk rfl rfl rfl ((Rj.mem hM3).below_len (aG iA hxa)) ((Rj.mem hM3).someK (aG iA hxa))) rfl (wq (iW (.int _ _) bW (Rj.mem hM3) (aG iA hxa) rfl) rfl (bH rfl rfl (bH rfl rfl ?_))))))))))
   refine aB (aC (aE (aA (dH rfl rfl (aP rfl rfl (wq (eM (0) ((p : Int)) aNk rfl rfl ⟨_, rfl⟩ (by decide) (by omega) (by omega)) rfl (wq (cZ Tryz.underlying247 rfl) rfl (aP rfl rfl ?_))))))))
   refine aB (aC (aQ (dS (σ := Nat × Nat × List ((Int × Int) × Nat)) [2, 3, 5, 7, 16, 17, 20, 21, 22, 29, 30] (fun (q, c4, L4) => [(31, .int .i64 (q : Int))]) (fun (q, c4, L4) w' => q ≤ p ∧ (SetOk L4 c4 ∧ ∀ z, z ∈ L4.map (fun z => z.1) ↔ z ∈ (qM g i ++ aAx (g i) p) ++ aBi xa ((g i).take q)) ∧ Mem w [] [(some b1, kI cM L4 c4)] w') (fun (q, c4, L4) => p - q) (0, c2, L2) (bB rfl dZ) (⟨by omega, ⟨hS2, fun z => by rw [hI2 z]; simp [aBi]⟩, hM3⟩) ?_)))
   rintro ⟨q, c4, L4⟩ ρ4 w4 ⟨hq, ⟨hS4, hI4⟩, hM4⟩
   refine aE (aA (cY rfl rfl rfl rfl (aB (aC (aE ?_)))))
   refine aW rfl (fun h32 => ?_) (fun h32 => ?_)
   ·obtain ⟨xb, hxb⟩ := cV (xs := g i) (k := q) hlj (by omega)
    refine aL (aC (aE (aQ (aE (aA (wq (bO (q) aNk rfl rfl rfl (((Rj.mem hM4).sub 0 p (by omega) (by omega) hcj).below_len (aEg hxb (by omega))) (((Rj.mem hM4).sub 0 p (by omega) (by omega) hcj).someK (aEg hxb (by omega)))) rfl (wq (iW (.int _ _) bW ((Rj.mem hM4).sub 0 p (by omega) (by omega) hcj) (aEg hxb (by omega)) rfl) rfl ?_)))))))
    refine bH rfl rfl (aB (aC (aE (aA (aP rfl rfl (aP rfl rfl (cY rfl rfl rfl rfl (aB (aC ?_)))))))))
    refine aW rfl (fun h37 => ?_) (fun h37 => ?_)
    ·refine aA (wq (aH (.map _) rfl) rfl (aP rfl rfl (aP rfl rfl (bY bOw rfl rfl (aUx _ xa xb) ?_))))
     rintro v5 w5 ⟨rfl, hb5⟩
     have M5 := hM4.callB hb5
     refine wq (cF [] _ aXw rfl rfl) rfl (aXe (enc := cM) 0 (prI xa xb) aYp M5 rfl rfl hS4 rfl rfl rfl (fun L6 c6 w6 hS6 hZ6 hN6 M6 => (aB (cT (aC (aA (wq (aY rfl rfl (by omega) (by omega)) rfl ?_)))))))
     refine aP rfl rfl (aB ?_)
     refine cD (q + 1, c6, L6) (bB rfl dZ) (cK rfl (cK rfl (cK rfl (cK rfl (cK rfl (cK rfl (cK rfl (cK rfl (cK rfl (cK rfl (cK rfl gW))))))))))) ?_ ?_
     ·exact ⟨by omega, ⟨hS6, aWu hZ6 hI4 hxb h37⟩, M6⟩
     ·(show p - (q + 1) < p - q; omega)
    ·refine aL (cT (aC (aA (wq (aY rfl rfl (by omega) (by omega)) rfl (aP rfl rfl (aB ?_))))))
     refine cD (q + 1, c4, L4) (bB rfl dZ) (cK rfl (cK rfl (cK rfl (cK rfl (cK rfl (cK rfl (cK rfl (cK rfl (cK rfl (cK rfl (cK rfl gW))))))))))) ?_ ?_
     ·exact ⟨by omega, ⟨hS4, aVq hI4 hxb h37⟩, hM4⟩
     ·(show p - (q + 1) < p - q; omega)
   ·have hqp : q = p := by omega
    refine cW (dE (dL (eS (cT (aC (aA ?_))))))
    refine wq (aY rfl rfl (by omega) (by omega)) rfl (aP rfl rfl (aB ?_))
    refine cD (p + 1, c4, L4) (bB rfl dZ) (cK rfl (cK rfl (cK rfl (cK rfl (cK rfl (cK rfl (cK rfl gW))))))) ?_ ?_
    ·exact ⟨by omega, ⟨hS4, fun z => by rw [hI4 z, aOn hxa, ← hqp, List.append_assoc]⟩, hM4⟩
    ·(show rj.n - (p + 1) < rj.n - p; omega)
  ·have hpn : p = rj.n := by omega
   refine cW (dE (dL (eS (cT (aC (aA ?_))))))
   refine wq (aY rfl rfl (by omega) (by omega)) rfl (aP rfl rfl (aB ?_))
   refine cD (i + 1, c2, L2) (bB rfl dZ) (cK rfl (cK rfl (cK rfl gW))) ?_ ?_
   ·exact ⟨by omega, ⟨hS2, fun z => by rw [hI2 z, aPw]; unfold aYo; rw [hlj, ← hpn]⟩, hM3⟩
   ·(show 1024 - (i + 1) < 1024 - i; omega)
 ·have hi' : i = 1024 := by omega
  rw [hi'] at hI0
  have hLb : (L0.map (fun z => z.1)).length ≤ (aFh ks).length := aFl hS0.keys (fun z hz => aVj hks ((hI0 z).1 hz))
  rw [List.length_map, aXz] at hLb
  have hkk : ks.length * ks.length ≤ 65536 * 65536 := Nat.mul_le_mul hkl hkl
  refine cW (dE (dL (eS (aC (aE (aA (wq (aH (.map _) rfl) rfl ?_)))))))
  refine bY bOm rfl rfl (aRb _ b1) ?_
  rintro v7 w7 ⟨bb, rfl, hM7⟩
  have M7 : Mem _ _ [_, _] _ := hM2.call0 hM7
  refine bY bMj rfl rfl (wK _ bb b1 c0 L0 (M7.at_ (i := 0) rfl) (M7.lt List.mem_cons_self) hS0 (by omega) (pF 1 M7 rfl rfl)) ?_
  rintro v8 w8 ⟨r, ys, hasc, hys, rfl, hr, hM8⟩
  have M8 : Mem _ _ [_, _, _] _ := M7.call0 hM8
  refine eI rfl rfl (aB (aC (aO (cG (.slice _ _ _) rfl ?_))))
  exact ⟨r, ys, hasc, fun z => (hys z).trans (hI0 z), rfl, hr, M8.keep [false, false, true]⟩
set_option maxHeartbeats 4000000 in
theorem aMl (w : World) (A : Option Addr) (n c : Nat) (xs : List Body) (R : Rd w 10 A n (xs.map aF)) (hb : ∀ b ∈ xs, Okb b) :
  Calls Tryz.prog 180 #[.slice A n c] w (fun ex w' => ∃ v, ex = .returned v ∧ (fun v w' => ∃ (pm : Nat) (em : eX), v = .map (some pm) ∧ kA .u32 vJ (bxM xs) (some pm) em ∧ Mem w [] [em] w') v w') := by
 have hlen : xs.length = n := by simpa using R.len
 have hbd := R.bound
 refine aI #[.tmp 2] 20 Tryz.func180 rfl Tryz.results180 Tryz.ntmps180 rfl ?_
 have M0 := Mem.refl w
 refine aE (aA (wq (aJ (.map _) rfl) rfl (aB (aC (aE (aA (mM M0 rfl rfl (fun b1 w1 M1 => (wq (aJ (.map _) rfl) rfl (aB (aC (aE (aE (aA ?_))))))))))))))
 refine dH rfl rfl (wq (cZ Tryz.underlying29 rfl) rfl (aP rfl rfl (aB (aC (aQ (dS (σ := Nat × eX) [2, 3, 7, 8] (fun (k, em) => [(9, .int .i64 (k : Int))]) (fun (k, em) w' => (k ≤ n ∧ kA .u32 vJ (bxM (xs.take k)) (some b1) em) ∧ Mem w [] [em] w') (fun (k, em) => n - k) (0, (some b1, .map #[] 0)) (bB rfl dZ) (⟨⟨by omega, (kA.empty _ _ b1).congr (fun q => by rw [List.take_zero]; exact bIn q)⟩, M1⟩) ?_))))))
 rintro ⟨k, em⟩ ρ2 w2 ⟨⟨hk, hme⟩, hM2⟩
 refine aE (aA (cY rfl rfl rfl rfl (aB (aC (aE ?_)))))
 refine aW rfl (fun h10 => ?_) (fun h10 => ?_)
 ·obtain ⟨xb, hxb⟩ := cV (k := k) hlen (by omega)
  refine aL (aC (aE (aQ (aE (aA (wq (bO (k) dK rfl rfl rfl ((R.mem hM2).below_len (aG aF hxb)) ((R.mem hM2).someK (aG aF hxb))) rfl (wq (dI _ bP (R.mem hM2) (aG aF hxb) rfl) rfl (aT fO hM2 rfl rfl (fun b3 w3 M3 => (bI 1 _ bP M3 rfl rfl rfl rfl rfl (aR rfl) rfl (fun w4 M4 => ?_)))))))))))
  refine aB (aC (bR [(0, 0), (1, 0), (2, 1), (3, 1), (4, 2), (5, 2)] mixed rfl (by kernel_rfl) (fun w5 hb5 hh5 => ?_)))
  have M5 := M4.drew hb5 hh5
  refine aU rfl rfl rfl (fun _ => aH (.map _) rfl) (aU rfl rfl rfl (fun _ => aD 0 dM rfl) (bS rfl rfl rfl (aM 1 (.int _ _) bW M5 rfl rfl rfl) (bS rfl rfl rfl (aX 1 bP M5 rfl rfl rfl) (dU [true, false] rfl (by kernel_rfl) (bY bMu rfl rfl (bMo _ xb (hb xb (List.mem_of_getElem? hxb))) ?_)))))
  rintro v6 w6 ⟨rfl, hb6⟩
  have M6 := M5.callB hb6
  refine aB (aC ⟨(eD (bL rfl (aM 1 (.int _ _) bW M6 rfl rfl rfl)) dT), ?_⟩)
  refine dU [true] rfl (by kernel_rfl) (kK (enc := vJ) 0 aKq M6 rfl rfl hme rfl rfl rfl rfl (fun e7 w7 hm7 M7 => ?_))
  refine aB (aC ⟨dT, ?_⟩)
  refine bX (cT (aC (aA (wq (aY rfl rfl (by omega) (by omega)) rfl (aP rfl rfl (aB ?_))))))
  refine cD (k + 1, e7) (bB rfl dZ) (cK rfl (cK rfl (cK rfl (cK rfl gW)))) ?_ ?_
  ·exact ⟨⟨by omega, hm7.congr (fun q => bCe hxb q)⟩, M7.keep [true, false]⟩
  ·(show n - (k + 1) < n - k; omega)
 ·have hkn : k = n := by omega
  rw [List.take_of_length_le (by omega)] at hme
  refine cW (dE (dL (eS (aC (aE (aA (wq (aH (.map _) rfl) rfl ?_)))))))
  refine wq (aJ (.map _) rfl) rfl (aB (aC (aO (cG (.map _) rfl ?_))))
  exact ⟨_, _, rfl, hme, hM2⟩
set_option maxHeartbeats 4000000 in
theorem aEt (w : World) (pm : Nat) :
  Calls Tryz.prog 182 #[.map (some pm)] w (fun ex w' => ∃ v, ex = .returned v ∧ (fun v w' => ∃ bm bn, v = .tuple #[.func (.func 206) #[] #[.pointer (some ⟨bn, 0, none⟩), .pointer (some ⟨bm, 0, none⟩)], .func (.func 208) #[] #[.pointer (some ⟨bn, 0, none⟩)]] ∧ Mem w [] [(some bm, bc [.map (some pm)] 245), (some bn, bc [.int .i64 0] 3)] w') v w') := by
 refine aI #[.tmp 2, .tmp 3] 8 Tryz.func182 rfl Tryz.results182 Tryz.ntmps182 rfl ?_
 have M0 := Mem.refl w
 refine aE (aA (bJ (.map _) M0 rfl rfl rfl (fun b1 w1 M1 => (wq (aJ (_) rfl) rfl (wq (aJ (_) rfl) rfl (aB (aC (aE (aA (aT bPn M1 rfl rfl (fun b2 w2 M2 => ?_)))))))))))
 refine dB 1 (.int _ _) iP M2 rfl rfl rfl rfl rfl rfl (fun w3 M3 => (aB (aC (aE (aA (wq (dR [] [.pointer _, .pointer _] rfl rfl) rfl (wq (aJ (.func _ _ _) rfl) rfl (aB (aC (aE (aA (wq (aH (.func _ _ _) rfl) rfl ?_))))))))))))
 refine wq (dR [] [.pointer _] rfl rfl) rfl (wq (aJ (.func _ _ _) rfl) rfl (wq (aJ (.func _ _ _) rfl) rfl (aB (aC (aO (fY (.func _ _ _) (.func _ _ _) rfl rfl ?_))))))
 exact ⟨b1, b2, rfl, M3⟩
set_option maxHeartbeats 4000000 in
theorem aGs (w : World) (bn : Nat) (m : Int) (K : Rd w 1 (some ⟨bn, 0, none⟩) 1 [[.int .i64 m]]) :
  Calls Tryz.prog 208 #[.pointer (some ⟨bn, 0, none⟩)] w (fun ex w' => ∃ v, ex = .returned v ∧ (fun v w' => v = .int .i64 m ∧ Below w.heap.size w w') v w') := by
 rw [← gQ bn]
 refine aI #[.tmp 1] 3 Tryz.func208 rfl Tryz.results208 Tryz.ntmps208 rfl ?_
 have M0 := Mem.refl w
 refine aE (aA (bH rfl rfl (aB (aC (aE (aA (wq (dX (o := 0) (.int _ _) iP (K.mem M0) (show ([[.int .i64 m]] : List (List Value))[0]? = some [.int .i64 m] from rfl) rfl rfl) rfl (bH rfl rfl (aB (aC (aO ?_)))))))))))
 refine cG (.int _ _) rfl ?_
 exact ⟨rfl, M0.below⟩
set_option maxHeartbeats 4000000 in
theorem aAf (w : World) (z : Int × Int) (bn bm m : Nat) (f : Int → Option Bx) (pm : Nat) (em : eX) (hme : kA .u32 vJ f (some pm) em) (B : Rd w 1 (some ⟨bm, 0, none⟩) 1 [[.map (some pm)]]) (N : Rd w 4 (some ⟨3, 0, none⟩) 1 [eK jY]) (hO : Own [(some bn, bc [.int .i64 (m : Int)] 3), em] w) (hdB : 0 < 1 → ∀ q off, (some ⟨bm, 0, none⟩ : Option Addr) = some ⟨q, off, none⟩ → q ∉ cB [(some bn, bc [.int .i64 (m : Int)] 3), em]) (hdN : 0 < 1 → ∀ q off, (some ⟨3, 0, none⟩ : Option Addr) = some ⟨q, off, none⟩ → q ∉ cB [(some bn, bc [.int .i64 (m : Int)] 3), em]) (hm : m ≤ 1125899906842624) :
  Calls Tryz.prog 206 #[(.agg (cM z).toArray), .pointer (some ⟨bn, 0, none⟩), .pointer (some ⟨bm, 0, none⟩)] w (fun ex w' => ∃ v, ex = .returned v ∧ (fun v w' => v = .bool (apB f z) ∧ Mem w (cB [(some bn, bc [.int .i64 (m : Int)] 3), em]) [(some bn, bc [.int .i64 ((m + 1 : Nat) : Int)] 3), em] w') v w') := by
 rw [← gQ bm]
 refine aI #[.tmp 4] 17 Tryz.func206 rfl Tryz.results206 Tryz.ntmps206 rfl ?_
 have M0 := hO.mem
 refine aE (aA (bJ (.agg (List.toArray _)) M0 rfl rfl rfl (fun b1 w1 M1 => (wq (aJ (.bool false) rfl) rfl (aB (aC (aE (aA (wq (aM 0 (.int _ _) iP M1 rfl rfl rfl) rfl (wq (aY rfl rfl (by omega) (by omega)) rfl ?_))))))))))
 refine aK 6 (.int .i64 ((m + 1 : Nat) : Int)) (iE (by omega)) (dB 0 (.int _ _) iP M1 rfl rfl rfl rfl rfl rfl (fun w2 M2 => (aB (aC (aE (aA (wq (dX (o := 0) (.map _) bEu (B.memY M2 hdB) (show ([[.map (some pm)]] : List (List Value))[0]? = some ([.map (some pm)]) from rfl) rfl rfl) rfl ?_)))))))
 refine wq (aD 0 gE rfl) rfl (wq (aM 2 (.int _ _) bW M2 rfl rfl rfl) rfl (wq (lV (enc := vJ) z0B 1 aKq bBd M2 rfl hme rfl rfl) rfl (wq (dX (o := 0) (.map _) bEu (B.memY M2 hdB) (show ([[.map (some pm)]] : List (List Value))[0]? = some ([.map (some pm)]) from rfl) rfl rfl) rfl ?_)))
 refine wq (aD 1 jQ rfl) rfl (wq (aM 2 (.int _ _) bW M2 rfl rfl rfl) rfl (wq (lV (enc := vJ) z0B 1 aKq bBd M2 rfl hme rfl rfl) rfl (bY bLu rfl rfl (aLk _ (N.memY M2 hdN) ((f z.1).getD z0B) ((f z.2).getD z0B)) ?_)))
 rintro v3 w3 ⟨rfl, hb3⟩
 have M3 := M2.callB hb3
 refine wq (oO rfl) rfl (wq (aJ (.bool (decide _)) rfl) rfl (aB (aC (aO (cG (.bool (decide _)) rfl ?_)))))
 exact ⟨rfl, M3.keep [true, true, false]⟩
set_option maxHeartbeats 4000000 in
theorem wR (w : World) (A : Option Addr) (n c : Nat) (zs : List (Int × Int)) (R : Rd w 2 A n (zs.map cM)) (bn bm m : Nat) (f : Int → Option Bx) (pm : Nat) (em : eX) (hme : kA .u32 vJ f (some pm) em) (B : Rd w 1 (some ⟨bm, 0, none⟩) 1 [[.map (some pm)]]) (N : Rd w 4 (some ⟨3, 0, none⟩) 1 [eK jY]) (hO : Own [(some bn, bc [.int .i64 (m : Int)] 3), em] w) (hdA : 0 < n → ∀ q off, A = some ⟨q, off, none⟩ → q ∉ cB [(some bn, bc [.int .i64 (m : Int)] 3), em]) (hdB : 0 < 1 → ∀ q off, (some ⟨bm, 0, none⟩ : Option Addr) = some ⟨q, off, none⟩ → q ∉ cB [(some bn, bc [.int .i64 (m : Int)] 3), em]) (hdN : 0 < 1 → ∀ q off, (some ⟨3, 0, none⟩ : Option Addr) = some ⟨q, off, none⟩ → q ∉ cB [(some bn, bc [.int .i64 (m : Int)] 3), em]) (hm : m + n ≤ 1125899906842624) (hn : n ≤ 1099511627776) :
  Calls Tryz.prog 209 #[.slice A n c, .func (.func 206) #[] #[.pointer (some ⟨bn, 0, none⟩), .pointer (some ⟨bm, 0, none⟩)]] w (fun ex w' => ∃ v, ex = .returned v ∧ (fun v w' => v = .int .i64 (if zs.findIdx (apB f) < n then (zs.findIdx (apB f) : Int) else -1) ∧ Mem w (cB [(some bn, bc [.int .i64 (m : Int)] 3), em]) [(some bn, bc [.int .i64 ((m + min n (zs.findIdx (apB f) + 1) : Nat) : Int)] 3), em] w') v w') := by
 have hlen : zs.length = n := by simpa using R.len
 refine aI #[.tmp 4] 19 Tryz.func209 rfl Tryz.results209 Tryz.ntmps209 rfl ?_
 have M0 := hO.mem
 refine aE (aA (bH rfl rfl (aB (aC (aE (aE (aA (dH rfl rfl (wq (cZ Tryz.underlying220 rfl) rfl (aP rfl rfl ?_))))))))))
 refine aB (aC (aQ (dS (σ := Nat) [0, 1, 7] (fun k => [(8, .int .i64 (k : Int))]) (fun k w' => (k ≤ n ∧ ∀ (j : Nat) (x : Int × Int), j < k → zs[j]? = some x → apB f x = false) ∧ Mem w (cB [(some bn, bc [.int .i64 (m : Int)] 3), em]) [(some bn, bc [.int .i64 ((m + k : Nat) : Int)] 3), em] w') (fun k => n - k) 0 (bB rfl dZ) (⟨⟨by omega, fun j c hj => by omega⟩, M0⟩) ?_)))
 rintro k ρ1 w1 ⟨⟨hk, hno⟩, hM1⟩
 refine aE (aA (cY rfl rfl rfl rfl (aB (aC (aE ?_)))))
 refine aW rfl (fun h9 => ?_) (fun h9 => ?_)
 ·obtain ⟨xz, hxz⟩ := cV (k := k) hlen (by omega)
  refine aL (aC (aE (aQ (aE (aA (aP rfl rfl (bH rfl rfl (aB (aC (aE (aA (wq (aH (.func _ _ _) rfl) rfl (dH rfl rfl ?_)))))))))))))
  refine aP rfl rfl (wq (bO (k) yA rfl rfl rfl ((R.memY hM1 hdA).below_len (aG cM hxz)) ((R.memY hM1 hdA).someK (aG cM hxz))) rfl (wq (dI _ jI (R.memY hM1 hdA) (aG cM hxz) rfl) rfl (bY bAx rfl rfl (aAf _ xz bn bm (m + k) f pm em hme (B.memY hM1 hdB) (N.memY hM1 hdN) (hM1.ownSeg 0 2) hdB hdN (by omega)) ?_)))
  rintro v2 w2 ⟨rfl, hM2⟩
  have M2 : Mem _ _ [_, _] _ := hM1.seg 0 2 hM2
  refine aB (aC ?_)
  refine iD _ rfl (fun h16 => ?_) (fun h16 => ?_)
  ·refine aE (aA (aP rfl rfl (bH rfl rfl (aB (aC (aO (lD (cO ?_))))))))
   refine tS (lD (cO (cG (.int _ _) rfl ?_)))
   have hfi := aCn hxz h16 hno
   exact ⟨iE (by rw [hfi, if_pos (by omega)]), by rw [hfi, Nat.min_eq_right (by omega)]; exact M2⟩
  ·refine aL (cT (aC (aA (wq (aY rfl rfl (by omega) (by omega)) rfl (aP rfl rfl (aB ?_))))))
   refine cD (k + 1) (bB rfl dZ) (cK rfl (cK rfl (cK rfl gW))) ?_ ?_
   ·exact ⟨⟨by omega, rF (p := fun _ x => apB f x = false) hno hxz h16⟩, M2⟩
   ·omega
 ·refine cW (dE (dL (eS (aC (aE (aA (bH rfl rfl ?_)))))))
  refine aB (aC (aO (cG (.int _ _) rfl ?_)))
  have hkn : k = n := by omega
  have hfi := aEj (p := apB f) (l := zs) (fun j y hy => hno j y (by have := (List.getElem?_eq_some_iff.1 hy).1; omega) hy)
  exact ⟨iE (by rw [hfi, if_neg (by omega)]), by rw [hfi, Nat.min_eq_left (by omega), ← hkn]; exact hM1⟩
set_option maxHeartbeats 16000000 in
theorem wM (w : World) (A : Option Addr) (n c : Nat) (zs : List (Int × Int)) (er : eX) (hr : bC 209 2 A n c ((zs).map cM) er) (bn bm m : Nat) (f : Int → Option Bx) (pm : Nat) (em : eX) (hme : kA .u32 vJ f (some pm) em) (B : Rd w 1 (some ⟨bm, 0, none⟩) 1 [[.map (some pm)]]) (N : Rd w 4 (some ⟨3, 0, none⟩) 1 [eK jY]) (hO : Own [er, (some bn, bc [.int .i64 (m : Int)] 3), em] w) (hdB : 0 < 1 → ∀ q off, (some ⟨bm, 0, none⟩ : Option Addr) = some ⟨q, off, none⟩ → q ∉ cB [er, (some bn, bc [.int .i64 (m : Int)] 3), em]) (hdN : 0 < 1 → ∀ q off, (some ⟨3, 0, none⟩ : Option Addr) = some ⟨q, off, none⟩ → q ∉ cB [er, (some bn, bc [.int .i64 (m : Int)] 3), em]) (hm : m + n ≤ 1125899906842624) (hn : n ≤ 1099511627776) :
  Calls Tryz.prog 183 #[.slice A n c, .func (.func 206) #[] #[.pointer (some ⟨bn, 0, none⟩), .pointer (some ⟨bm, 0, none⟩)]] w (fun ex w' => ∃ v, ex = .returned v ∧ (fun v w' => ∃ r : Row, v = .slice r.A r.n r.c ∧ bC 209 2 r.A r.n r.c ((zs.filter (fun z => !apB f z)).map cM) r.e ∧ Mem w (cB [er, (some bn, bc [.int .i64 (m : Int)] 3), em]) [r.e, (some bn, bc [.int .i64 ((m + n : Nat) : Int)] 3), em] w') v w') := by
 have hlen : zs.length = n := by simpa using hr.1
 have hcap := hr.slice
 refine aI #[.tmp 4] 42 Tryz.func183 rfl Tryz.results183 Tryz.ntmps183 rfl ?_
 have M0 := hO.mem
 refine aE (aA (eI rfl rfl (aB (aC (aE (aA (dH rfl rfl (wq (aH (.func _ _ _) rfl) rfl (bY bLr rfl rfl (wR _ A n c zs (hr.rd M0 (aZ (i := 0) rfl)) bn bm m f pm em hme (B.memY M0 hdB) (N.memY M0 hdN) (M0.ownSeg 1 2) (hr.apartTail M0) (M0.away 1 2 B hdB) (M0.away 1 2 N hdN) hm hn) ?_)))))))))
 rintro v1 w1 ⟨rfl, hM1⟩
 have M1 : Mem _ _ [_, _, _] _ := M0.seg 1 2 hM1
 refine bH rfl rfl (aB (aC (aE (aE (aA (aP rfl rfl (cY rfl rfl rfl rfl (aB (aC ?_)))))))))
 refine aW rfl (fun h12 => ?_) (fun h12 => ?_)
 ·have hge : ¬ zs.findIdx (apB f) < n := fun h => by rw [if_pos h] at h12; omega
  refine aE (aA (dH rfl rfl (eI rfl rfl (aB (aC (aO (cO (cG (.slice _ _ _) rfl ?_))))))))
  have e1 : m + min n (zs.findIdx (apB f) + 1) = m + n := by omega
  rw [e1] at M1
  exact ⟨⟨A, n, c, er⟩, rfl, by rw [aNg (by omega)]; exact hr, M1⟩
 ·have hlt : zs.findIdx (apB f) < n := Decidable.by_contra fun h => h12 (if_neg h)
  refine aL (aC (aE (aE (aA (aP rfl rfl (wq (aY rfl rfl (by omega) (by omega)) rfl (aK 15 (.int .i64 ((zs.findIdx (apB f) + 1 : Nat) : Int)) (iE (by rw [if_pos hlt]; omega)) (bH rfl rfl (aB (aC (aQ ?_)))))))))))
  refine dS (σ := Nat × Nat × List (Int × Int) × eX) [0, 1, 4] (fun (j, k, zs2, en) => [(5, .int .i64 (k : Int)), (6, .int .i64 (j : Int))]) (fun (j, k, zs2, en) w' => (j ≤ n ∧ k < j ∧ zs2.take k = (zs.take j).filter (fun z => !apB f z) ∧ zs2.drop j = zs.drop j ∧ bC 209 2 A n c ((zs2).map cM) en) ∧ Mem w (cB [er, (some bn, bc [.int .i64 (m : Int)] 3), em]) [en, (some bn, bc [.int .i64 ((m + j : Nat) : Int)] 3), em] w') (fun (j, k, zs2, en) => n - j) (zs.findIdx (apB f) + 1, zs.findIdx (apB f), zs, er) (bB (iv rfl (if_pos hlt)) (bB rfl dZ)) (⟨⟨by omega, by omega, aKr (by omega), rfl, hr⟩, by
   have e1 : min n (zs.findIdx (apB f) + 1) = zs.findIdx (apB f) + 1 := by omega
   rw [e1] at M1
   exact M1⟩) ?_
  rintro ⟨j, k, zs2, en⟩ ρ2 w2 ⟨⟨hj, hkj, hpre, hsuf, hz2⟩, hM2⟩
  have hl2 : zs2.length = n := by simpa using hz2.1
  refine aE (aE (aA (aP rfl rfl (dH rfl rfl (wq (cZ Tryz.underlying220 rfl) rfl (cY rfl rfl rfl rfl (aB (aC ?_))))))))
  refine aW rfl (fun h19 => ?_) (fun h19 => ?_)
  ·obtain ⟨xz, hxz⟩ := cV (k := j) hlen (by omega)
   have hxz2 : zs2[j]? = some xz := (bCq hsuf).trans hxz
   obtain ⟨xk, hxk⟩ := cV (k := k) hl2 (by omega)
   refine aL (aC (aE (aQ (aE (aA (dH rfl rfl (aP rfl rfl (wq (bO (j) yA rfl rfl rfl ((hz2.rd hM2 (aZ (i := 0) rfl)).below_len (aG cM hxz2)) ((hz2.rd hM2 (aZ (i := 0) rfl)).someK (aG cM hxz2))) rfl (wq (dI _ jI (hz2.rd hM2 (aZ (i := 0) rfl)) (aG cM hxz2) rfl) rfl ?_)))))))))
   refine aT uC hM2 rfl rfl (fun b3 w3 M3 => (bI 3 _ jI M3 rfl rfl rfl rfl rfl (aR rfl) rfl (fun w4 M4 => (aB (aC (aE (aA (wq (aH (.func _ _ _) rfl) rfl (wq (aX 3 jI M4 rfl rfl rfl) rfl (bY bAx rfl rfl (aAf _ xz bn bm (m + j) f pm em hme (B.memY M4 hdB) (N.memY M4 hdN) (M4.ownSeg 1 2) (M4.away 1 2 B hdB) (M4.away 1 2 N hdN) (by omega)) ?_))))))))))
   rintro v5 w5 ⟨rfl, hM5⟩
   have M5 : Mem _ _ [_, _, _, _] _ := M4.seg 1 2 hM5
   refine wq (gI _ rfl rfl) rfl (aB (aC ?_))
   refine iD _ rfl (fun h29 => ?_) (fun h29 => ?_)
   ·refine aE (aA (dH rfl rfl (aP rfl rfl (wq (aX 3 jI M5 rfl rfl rfl) rfl (wq (bO (k) yA rfl rfl rfl ((hz2.rd M5 (aZ (i := 0) rfl)).below_len (aG cM hxk)) ((hz2.rd M5 (aZ (i := 0) rfl)).someK (aG cM hxk))) rfl (aJe 0 _ jI M5 rfl hz2 (aG cM hxk) rfl rfl rfl rfl (aR rfl) (fun e6 w6 hR6 M6 => ?_)))))))
    have hQ6 := hR6.mapSet (f := cM) (x := xz) rfl
    refine aB (aC (aA (aP rfl rfl (wq (aY rfl rfl (by omega) (by omega)) rfl (bH rfl rfl (aB (cT ?_)))))))
    refine aC (aA (aP rfl rfl (wq (aY rfl rfl (by omega) (by omega)) rfl (bH rfl rfl (aB ?_)))))
    refine cD (j + 1, k + 1, zs2.set k xz, e6) (bB rfl (bB rfl dZ)) (cK rfl (cK rfl (cK rfl gW))) ?_ ?_
    ·exact ⟨⟨by omega, by omega, by rw [bAf (by omega), hpre, aAo hxz, if_neg (by simpa using h29)], by rw [bDs (by omega)]; exact aHv hsuf, hQ6⟩, M6.keep [true, true, true, false]⟩
    ·(show n - (j + 1) < n - j; omega)
   ·refine aL (cT (aC (aA (aP rfl rfl (wq (aY rfl rfl (by omega) (by omega)) rfl (bH rfl rfl ?_))))))
    refine aB ?_
    refine cD (j + 1, k, zs2, en) (bB rfl (bB rfl dZ)) (cK rfl (cK rfl (cK rfl gW))) ?_ ?_
    ·exact ⟨⟨by omega, by omega, by rw [hpre, aAo hxz, if_pos (by simpa using h29), List.append_nil], aHv hsuf, hz2⟩, M5.keep [true, true, true, false]⟩
    ·(show n - (j + 1) < n - j; omega)
  ·have hjn : j = n := by omega
   rw [hjn, show List.take n zs = zs from List.take_of_length_le (by omega)] at hpre
   refine cW (dE (dL (eS (aC (aE (aA (dH rfl rfl ?_)))))))
   refine aP rfl rfl (wq (eM ((k : Int)) ((n : Int)) yA rfl ⟨_, rfl⟩ rfl (by omega) (by omega) (by omega)) rfl (bDz 0 (k) yA (fun zv hz => by rw [bQn] at hz; injection hz with hz; subst hz; simp [Go.Bil.one, Value.cells]) hM2 rfl rfl hz2 (by omega) rfl (fun e7 w7 hR7 M7 => (aB (aC (aE (aA ?_)))))))
   refine dH rfl rfl (aP rfl rfl (wq (eM (0) ((k : Int)) yA rfl rfl ⟨_, rfl⟩ (by decide) (by omega) (by omega)) rfl (eI rfl rfl (aB (aC (aO (cG (.slice _ _ _) rfl ?_)))))))
   rw [hjn] at M7
   have hpf := hR7
   rw [← List.map_take, hpre] at hpf
   exact ⟨⟨_, _, _, e7⟩, rfl, hpf, M7⟩
set_option maxRecDepth 100000 in
theorem bQc : gR Tryz.prog 250 = some (eZ (List.replicate 1024 fV) 0) := by kernel_rfl
set_option maxHeartbeats 16000000 in
theorem aRw (w : World) (F : Rd w 2 (some ⟨0, 0, none⟩) 1 [[.int .u32 73856093, .int .u32 19349663]]) (N : Rd w 4 (some ⟨3, 0, none⟩) 1 [eK jY]) (A : Option Addr) (n c : Nat) (xs : List Body) (R : Rd w 10 A n (xs.map aF)) (hb : ∀ b ∈ xs, Okb b) (hs : cU xs) (hn : n ≤ 4096) :
  Calls Tryz.prog 157 #[.slice A n c] w (fun ex w' => ∃ v, ex = .returned v ∧ (fun v w' => ∃ (r : Row) (m : Nat), v = .tuple #[.slice r.A r.n r.c, .int .i64 (m : Int)] ∧ (oC xs).length ≤ m ∧ 2 * m ≤ xs.length * (xs.length - 1) ∧ bC 209 2 r.A r.n r.c ((oC xs).map cM) r.e ∧ Mem w [] [r.e] w') v w') := by
 have hlen : xs.length = n := by simpa using R.len
 have hbd := R.bound
 refine aI #[.tmp 2, .tmp 3] 37 Tryz.func157 rfl Tryz.results157 Tryz.ntmps157 rfl ?_
 have M0 := Mem.refl w
 refine aE (aA (eI rfl rfl (bH rfl rfl (aB (aC (aE (aA (dH rfl rfl (bY bNn rfl rfl (aMl _ _ _ _ xs (R.mem M0) hb) ?_)))))))))
 rintro v1 w1 ⟨pm, em, rfl, hme, hM1⟩
 have M1 : Mem _ _ [_] _ := M0.call0 hM1
 refine wq (aJ (.map _) rfl) rfl (aB (aC (aE (aA (aT bQc M1 rfl rfl (fun b2 w2 M2 => ?_))))))
 have M3 := Mem.gridNew (L := [_]) M2
 refine aB (aC (aE (aE (aA (dH rfl rfl (wq (cZ Tryz.underlying29 rfl) rfl (aP rfl rfl (aB (aC (aQ (dS (σ := Nat × List Row) [2, 3, 4, 5, 12, 13] (fun (k, rs) => [(14, .int .i64 (k : Int))]) (fun (k, rs) w' => (k ≤ n ∧ GridRows 35 rs (gOf (xs.take k))) ∧ Mem w [] ([em] ++ ((some b2, bc (eZ rs (k : Int)) 250) :: rs.map Row.e)) w') (fun (k, rs) => n - k) (0, List.replicate 1024 fV) (bB rfl dZ) (⟨⟨by omega, by rw [List.take_zero]; exact bCa _⟩, M3⟩) ?_)))))))))))
 rintro ⟨k, rs⟩ ρ4 w4 ⟨⟨hk, hrs⟩, hM4⟩
 refine aE (aA (cY rfl rfl rfl rfl (aB (aC (aE ?_)))))
 refine aW rfl (fun h15 => ?_) (fun h15 => ?_)
 ·obtain ⟨xb, hxb⟩ := cV (k := k) hlen (by omega)
  refine aL (aC (aE (aQ (aE (aA (wq (bO (k) dK rfl rfl rfl ((R.mem hM4).below_len (aG aF hxb)) ((R.mem hM4).someK (aG aF hxb))) rfl (wq (dI _ bP (R.mem hM4) (aG aF hxb) rfl) rfl (aT fO hM4 rfl rfl (fun b5 w5 M5 => ?_)))))))))
  have M6 : Mem _ _ ([_, _] ++ _) _ := Mem.front (L := [_]) M5
  refine bI 1 _ bP M6 rfl rfl rfl rfl rfl (aR rfl) rfl (fun w7 M7 => (aB (aC (aA (wq (aD 0 dM rfl) rfl (wq (aM 1 (.int _ _) bW M7 rfl rfl rfl) rfl (wq (aH (.map _) rfl) rfl (wq (aD 0 dM rfl) rfl ?_))))))))
  refine wq (aM 1 (.int _ _) bW M7 rfl rfl rfl) rfl (wq (lV (enc := vJ) z0B 0 aKq bBd M7 rfl hme rfl rfl) rfl (aK 23 (.agg (eK (gM xb)).toArray) (congrArg vJ (by rw [rU hs (List.mem_of_getElem? hxb)]; rfl)) (bY bLc rfl rfl (aNw _ (F.mem M7) b2 rs (k : Int) (gOf (xs.take k)) hrs ⟨by omega, by omega⟩ (fun j _ => Nat.le_trans (bGv _ _) (by simp; omega)) xb.key (gM xb) (bMv (hb xb (List.mem_of_getElem? hxb))) (Mem.ownTail (L := [_, _]) M7) (Mem.awayTail (L := [_, _]) M7 F)) ?_)))
  rintro v8 w8 ⟨rfl, rs2, hrs2, hM8⟩
  have M8 : Mem _ _ ([_, _] ++ _) _ := Mem.tail (L := [_, _]) M7 hM8
  refine aB (cT (aC (aA (wq (aY rfl rfl (by omega) (by omega)) rfl (aP rfl rfl (aB ?_))))))
  refine cD (k + 1, rs2) (bB rfl dZ) (cK rfl (cK rfl (cK rfl (cK rfl (cK rfl (cK rfl gW)))))) ?_ ?_
  ·exact ⟨⟨by omega, by rw [aZx hxb]; exact hrs2⟩, Mem.keepL (L := [_, _]) [true, false] M8⟩
  ·(show n - (k + 1) < n - k; omega)
 ·have hkn : k = n := by omega
  rw [List.take_of_length_le (by omega)] at hrs
  refine cW (dE (dL (eS (aC (aE (aA (wq (aH (.map _) rfl) rfl ?_)))))))
  refine bY bLz rfl rfl (aEt _ pm) ?_
  rintro v9 w9 ⟨bm, bn, rfl, hM9⟩
  have M9 : Mem _ _ ([_, _, _] ++ _) _ := Mem.front (L := [_]) (hM4.call0 hM9)
  refine wq (aH (.tuple (List.toArray _)) rfl) rfl (wq (bN (.func _ _ _) rfl rfl) rfl (wq (bN (.func _ _ _) rfl rfl) rfl (wq (aJ (.func _ _ _) rfl) rfl (wq (aJ (.func _ _ _) rfl) rfl (aB (aC (aE (aA ?_))))))))
  refine bY bKs rfl rfl (aBf _ b2 rs (k : Int) (gOf xs) hrs.len (Mem.gridRd (L := [_, _, _]) M9 hrs.len) (fun j r hr => Mem.rowRd (L := [_, _, _]) M9 hrs j r hr) (xs.map (·.key)) (fun j _ x hx => by obtain ⟨b, h1, _, rfl⟩ := rC.1 hx; exact List.mem_map.2 ⟨b, h1, rfl⟩) (by simp; omega)) ?_
  rintro v10 w10 ⟨r, ps, hasc, hps, rfl, hr, hM10⟩
  have M10 : Mem _ _ ([_, _, _, _] ++ _) _ := Mem.front (L := [_, _, _]) (M9.call0 hM10)
  have hpl := aWo hs hasc hps
  have hrl : ps.length = r.n := by simpa using hr.1
  have hnn : xs.length * (xs.length - 1) ≤ 4096 * 4096 := Nat.mul_le_mul (by omega) (by omega)
  refine wq (aH (.func _ _ _) rfl) rfl ?_
  have M11 : Mem _ _ [_, _, _, _] _ := Mem.order4 M10
  refine bY bOv rfl rfl (wM _ r.A r.n r.c ps r.e hr bn bm 0 (bxM xs) pm em hme (pF 3 M11 rfl rfl) (N.mem M11) (M11.ownSeg 0 3) (M11.apartTake 3 3 rfl rfl) (M11.away 0 3 N (fun _ q off _ h => by simp at h)) (by omega) (by omega)) ?_
  rintro v12 w12 ⟨r2, rfl, hr2, hM12⟩
  have M12 : Mem _ _ [_, _, _, _] _ := M11.seg 0 3 hM12
  have hfl : (oC xs).length ≤ ps.length := by rw [← aCt hs hasc hps]; exact List.length_filter_le _ _
  rw [aCt hs hasc hps] at hr2
  refine eI rfl rfl (aB (aC (aE (aA (dH rfl rfl (wq (aH (.func _ _ _) rfl) rfl (bY bNc rfl rfl (aGs _ bn _ (pF 1 M12 rfl rfl)) ?_)))))))
  rintro v13 w13 ⟨rfl, hb13⟩
  have M13 := M12.callB hb13
  refine eI rfl rfl (bH rfl rfl (aB (aC (aO (fY (.slice _ _ _) (.int _ _) rfl rfl ?_)))))
  exact ⟨r2, 0 + r.n, rfl, by omega, by omega, hr2, M13.keep [true, false, false, false]⟩
end Go.Proofs.YtaoaknafiegfoaaGreatDoor
