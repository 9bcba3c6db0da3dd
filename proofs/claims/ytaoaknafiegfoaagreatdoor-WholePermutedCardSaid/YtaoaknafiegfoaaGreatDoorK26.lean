/- Part of the proof of the laws of this seat: P10, Q10, U11, V11, W11, Aw11. No conditions. -/
import Derived.Test.YtaoaknafiegfoaaGreatDoorK2
import Derived.Test.YtaoaknafiegfoaaGreatDoorK5
import Derived.Test.YtaoaknafiegfoaaGreatDoorK25
import Derived.Test.YtaoaknafiegfoaaGreatDoorK17
import Derived.Test.YtaoaknafiegfoaaGreatDoorK21
import Derived.Test.YtaoaknafiegfoaaGreatDoorK24
set_option linter.unusedVariables false
set_option linter.unusedSimpArgs false
set_option linter.unnecessarySimpa false
namespace Go.Proofs.YtaoaknafiegfoaaGreatDoor
open Go.Bil
open Go.RowKit (Below)
open Go.Proofs
set_option maxHeartbeats 4000000 in
theorem aPc (w : World) (a b : Int) :
  Calls Tryz.prog 210 #[.int .u32 a, .int .u32 b] w (fun ex w' => ∃ v, ex = .returned v ∧ (fun v w' => v = (.agg (bL (prI a b)).toArray) ∧ Below w.heap.size w w') v w') := by
 refine aH #[.cell 4 209] 12 Tryz.func210 rfl Tryz.results210 Tryz.ntmps210 rfl ?_
 have M0 := Mem.refl w
 refine aD (aA (aQ qT M0 rfl rfl (fun b1 w1 M1 => (aB (aC (aD (aA (aY rfl rfl (aY rfl rfl (wq (zB rfl rfl ) rfl ?_))))))))))
 refine aY rfl rfl (aY rfl rfl (wq (oR rfl rfl ) rfl (wq (cH [(0, .int _ _), (1, .int _ _)] _ aBx rfl rfl) rfl (bB 0 _ gG M1 rfl rfl rfl rfl rfl (aR rfl) rfl (fun w2 M2 => (aB (aC (aM ?_))))))))
 refine eV 0 gG M2 rfl rfl rfl ?_
 exact ⟨rfl, M2.below⟩
set_option maxHeartbeats 4000000 in
theorem bAj (w : World) (A : Option Addr) (x y : Int) (R : Rd w 1 A 2 [[.int .i64 x], [.int .i64 y]]) :
  Calls Tryz.prog 236 #[.slice A 2 2] w (fun ex w' => ∃ v, ex = .returned v ∧ (fun v w' => v = .int .i64 (if x = 0 then y else x) ∧ w' = w) v w') := by
 refine aH #[.tmp 2] 18 Tryz.func236 rfl Tryz.results236 Tryz.ntmps236 rfl ?_
 have M0 := Mem.refl w
 refine aD (aA (bP rfl rfl (aB (aC (aD (aA (bP rfl rfl (aB (aC (aD (aD (aA (eG rfl rfl ?_)))))))))))))
 refine wq (cP Tryz.underlying353 rfl) rfl (aT 7 (.int .i64 2) (iE rfl) (aY rfl rfl (aB (aC (aS (lZ 3 (gZ (aD (aA ?_)))))))))
 refine dA rfl rfl rfl rfl (rI 9 rfl (by first | decide | omega) (aB (aC (aD (cM rfl (aK (aC (aD (aS (aD (aA (wq (bN (0) aTs rfl rfl rfl (R.below_len ((rfl : ([[.int .i64 x], [.int .i64 y]] : List (List Value))[0]? = some [.int .i64 x]))) (R.someK ((rfl : ([[.int .i64 x], [.int .i64 y]] : List (List Value))[0]? = some [.int .i64 x])))) rfl ?_))))))))))))
 refine wq (iB (.int _ _) jC R ((rfl : ([[.int .i64 x], [.int .i64 y]] : List (List Value))[0]? = some [.int .i64 x])) rfl) rfl (bP rfl rfl (aB (aC (aD (aA (aY rfl rfl (aY rfl rfl (dA rfl rfl rfl rfl ?_))))))))
 refine aB (aC ?_)
 refine aZ rfl (fun h14 => ?_) (fun h14 => ?_)
 ·refine aD (aA (aY rfl rfl (bP rfl rfl (aB (aC (aM (iY (cE (cE ?_)))))))))
  refine iY (cE (bW (.int _ _) rfl ?_))
  exact ⟨iE (by split <;> omega), rfl⟩
 ·refine aK (dE (aC (aA (wq (bU rfl rfl (by first | decide | omega) (by first | decide | omega)) rfl (aT 16 (.int .i64 1) (iE (by first | decide | omega)) (aY rfl rfl ?_))))))
  refine aB (aC (gZ (aD (aA (dA rfl rfl rfl rfl (rI 9 rfl (by first | decide | omega) (aB (aC (aD ?_)))))))))
  refine cM rfl (aK (aC (aD (aS (aD (aA (wq (bN (1) aTs rfl rfl rfl (R.below_len ((rfl : ([[.int .i64 x], [.int .i64 y]] : List (List Value))[1]? = some [.int .i64 y]))) (R.someK ((rfl : ([[.int .i64 x], [.int .i64 y]] : List (List Value))[1]? = some [.int .i64 y])))) rfl (wq (iB (.int _ _) jC R ((rfl : ([[.int .i64 x], [.int .i64 y]] : List (List Value))[1]? = some [.int .i64 y])) rfl) rfl ?_))))))))
  refine bP rfl rfl (aB (aC (aD (aA (aY rfl rfl (aY rfl rfl (dA rfl rfl rfl rfl (aB (aC ?_)))))))))
  refine aZ rfl (fun h14 => ?_) (fun h14 => ?_)
  ·refine aD (aA (aY rfl rfl (bP rfl rfl (aB (aC (aM (iY (cE (cE ?_)))))))))
   refine iY (cE (bW (.int _ _) rfl ?_))
   exact ⟨iE (by split <;> omega), rfl⟩
  ·refine aK (dE (aC (aA (wq (bU rfl rfl (by first | decide | omega) (by first | decide | omega)) rfl (aT 16 (.int .i64 2) (iE (by first | decide | omega)) (aY rfl rfl ?_))))))
   refine aB (aC (gZ (aD (aA (dA rfl rfl rfl rfl (uZ 9 rfl (by first | decide | omega) (aB (aC (aD ?_)))))))))
   refine cB rfl (cR (cZ (cZ (eQ (aC (aD (aA (aY rfl rfl ?_))))))))
   refine bP rfl rfl (aB (aC (aM (bW (.int _ _) rfl ?_))))
   exact ⟨iE (by split <;> omega), rfl⟩
set_option maxHeartbeats 4000000 in
theorem aEz (a b : Int × Int) (w : World) :
  Calls Tryz.prog 213 #[(.agg (bL a).toArray), (.agg (bL b).toArray)] w (fun ex w' => ∃ v, ex = .returned v ∧ (fun v w' => v = .int .i64 (aQg a b) ∧ ∃ q os, w' = Go.Sort.grow (w.drewN q) os) v w') := by
 refine aH #[.tmp 4] 17 Tryz.func213 rfl Tryz.results213 Tryz.ntmps213 rfl ?_
 have M0 := Mem.refl w
 refine aD (aA (xF (.agg (List.toArray _)) M0 rfl rfl rfl (fun M1 => (xF (.agg (List.toArray _)) M1 rfl rfl rfl (fun M2 => (bP rfl rfl (aB (aC (aD (aZy [(0, 0), (1, 1), (2, 0), (3, 1), (5, 0), (6, 1), (7, 0), (8, 1), (4, 2), (9, 2), (10, 2), (11, 2), (12, 0)] mixed rfl (by kernel_rfl) ?_))))))))))
 have M3 := M2.drewE
 refine aV rfl rfl rfl (fun _ => aE 0 nQ rfl) (bV rfl rfl rfl (aL 0 (.int _ _) cC M3 rfl rfl rfl) (aV rfl rfl rfl (fun _ => aE 0 nQ rfl) (bV rfl rfl rfl (aL 1 (.int _ _) cC M3 rfl rfl rfl) (aV rfl rfl rfl (fun _ => aE 1 nU rfl) (bV rfl rfl rfl (aL 0 (.int _ _) cC M3 rfl rfl rfl) ?_)))))
 refine aV rfl rfl rfl (fun _ => aE 1 nU rfl) (bV rfl rfl rfl (aL 1 (.int _ _) cC M3 rfl rfl rfl) (dG [false, false, true, true] rfl (by kernel_rfl) (bX aEw rfl rfl (kG _ _ _) ?_)))
 rintro v4 w4 ⟨rfl, rfl⟩
 have M4 : Mem _ _ [_, _] _ := M3
 refine aB (aC ⟨(eF (bK rfl (aL 1 (.int _ _) cC M4 rfl rfl rfl)) (eF (bK rfl (aL 0 (.int _ _) cC M4 rfl rfl rfl)) dH)), ?_⟩)
 refine dG [true, true] rfl (by kernel_rfl) (bX aEw rfl rfl (kG _ _ _) ?_)
 rintro v5 w5 ⟨rfl, rfl⟩
 have M5 : Mem _ _ [_, _] _ := M4
 refine aB (aC ⟨dH, ?_⟩)
 refine dG [] rfl (by kernel_rfl) (aKp [.int _ _, .int _ _] [[.int .i64 (lX a.1 b.1)], [.int .i64 (lX a.2 b.2)]] rfl aTs M5 rfl rfl rfl rfl (dI rfl) (by decide) (fun M6 => ?_))
 refine aB (aC ⟨dH, ?_⟩)
 refine dG [] rfl (by kernel_rfl) (bX bDh rfl rfl (bAj _ _ _ _ ((kA (T := 3) [[.int .i64 (lX a.1 b.1)], [.int .i64 (lX a.2 b.2)]] (by simp) rfl (show 2 ≤ 281474976710656 by decide)).rd M6 (aX (i := 2) rfl))) ?_)
 rintro v7 w7 ⟨rfl, rfl⟩
 have M7 : Mem _ _ [_, _, _] _ := M6
 refine aB (aC ⟨dH, ?_⟩)
 refine qN rfl rfl rfl (cD (aC (aM (bW (.int _ _) rfl ?_))))
 exact ⟨iE rfl, bHx _ _ _ _⟩
theorem aSx : aMz Tryz.prog 213 bL aQg := fun x y w => aEz x y w
theorem aTj : KeyT Tryz.prog 287 209 288 bL := by
 refine ⟨Tryz.underlying287, ⟨_, Tryz.underlying209⟩, fun a w => ?_, fun a b w => ?_, fun a => by simp [bL, Instr.sameBits]⟩
 ·have h42 := bA (w := w) Tryz.underlying209
  have hc : ∀ x : Int, (Instr.checkKey false 9999 35 (.int .u32 x)).run Tryz.prog w = .ok () w := fun x => MapKept.run_checkKey (d := .int .u32) Tryz.underlying35 (by simp [MapKept.IsKey]) false 9998
  have p0 : (Go.part 35 #[.int .u32 a.1, .int .u32 a.2] 0).run Tryz.prog w = .ok (.int .u32 a.1) w := jL (l := [.int .u32 a.1, .int .u32 a.2]) cC rfl
  have p1 : (Go.part 35 #[.int .u32 a.1, .int .u32 a.2] 1).run Tryz.prog w = .ok (.int .u32 a.2) w := jL (l := [.int .u32 a.1, .int .u32 a.2]) cC rfl
  show (Instr.checkKey false (9999 + 1) 209 _).run _ w = _
  unfold Instr.checkKey
  simp only [Sem.run_bind, h42, Result.andThen_ok, bL]
  simp [p0, p1, hc, Sem.run_bind, Sem.run_pure]
 ·have h := (bEu a.1 a.2 b.1 b.2).2 w
  have e : decide (a.1 = b.1 ∧ a.2 = b.2) = decide (a = b) := decide_eq_decide.2 Prod.ext_iff.symm
  rw [e] at h
  exact h
theorem zJ (w : World) (A : Option Addr) (n c : Nat) (xs : List (Int × Int)) (e : dN) (hR : aW 209 2 A n c (xs.map bL) e) (hw : Own [e] w) (hn : n ≤ 1099511627776) :
  Calls Tryz.prog 234 #[.slice A n c, .func (.func 213) #[] #[]] w (fun ex w' => ∃ v, ex = .returned v ∧ v = .tuple #[] ∧ ∃ (ys : List (Int × Int)) (e' : dN), ys.Perm xs ∧ (ys.Pairwise fun a b => ¬ ltP b a) ∧ aW 209 2 A n c (ys.map bL) e' ∧ Mem w (bH [e]) [e'] w') := by
 have h := rK aRm (T := 209) gG bL aBq (fun x v hv => by simp only [bL, List.mem_cons, List.not_mem_nil, or_false] at hv; rcases hv with h | h <;> subst h <;> rfl) _ aUc 213 bGm aSx w A xs e hR hw (by omega)
 refine Calls.mono h ?_
 rintro ex w' ⟨v, h1, h2, ys, e', h3, h4, h5, h6⟩
 refine ⟨v, h1, h2, ys, e', h3, ?_, h5, h6⟩
 refine List.pairwise_iff_getElem.2 fun i j hi hj hij => ?_
 have := h4 i j _ _ hij (List.getElem?_eq_getElem hi) (List.getElem?_eq_getElem hj)
 have h := of_decide_eq_false this
 rwa [aGj] at h
set_option maxHeartbeats 4000000 in
theorem aKt (w : World) (mb : Nat) :
  Calls Tryz.prog 212 #[.map (some mb)] w (fun ex w' => ∃ v, ex = .returned v ∧ (fun v w' => ∃ bb, v = .func (.func 235) #[] #[.pointer (some ⟨bb, 0, none⟩)] ∧ Mem w [] [(some bb, bc [.map (some mb)] 287)] w') v w') := by
 refine aH #[.tmp 2] 4 Tryz.func212 rfl Tryz.results212 Tryz.ntmps212 rfl ?_
 have M0 := Mem.refl w
 refine aD (aA (bG (.map _) M0 rfl rfl rfl (fun b1 w1 M1 => (wq (aI (_) rfl) rfl (aB (aC (aD (aA (wq (cO [] [.pointer _] rfl rfl) rfl (wq (aI (.func _ _ _) rfl) rfl ?_))))))))))
 refine aB (aC (aM (bW (.func _ _ _) rfl ?_)))
 exact ⟨b1, rfl, M1⟩
set_option maxHeartbeats 4000000 in
theorem aGv (w : World) (bb : Nat) (mb clock : Nat) (L : List ((Int × Int) × Nat)) (hmb : w.heap[mb]? = some (iN bL L clock)) (hml : mb < w.heap.size) (hS : SetOk L clock) (hLN : L.length < 1099511627776) (B1 : Rd w 1 (some ⟨bb, 0, none⟩) 1 [[.map (some mb)]]) (lp ob : Nat) (rec : Loop) (hY : uA Tryz.prog lp ob rec 220 209 2 1099511627776 (fun x => ∃ a b, x = [.int .u32 a, .int .u32 b])) (r0 : Row) (hr0 : aW 209 2 r0.A r0.n r0.c [] r0.e) (hO : Own [(some lp, .loop rec), (some ob, bc [.slice r0.A r0.n r0.c] 220), r0.e] w) (hd1 : 0 < 1 → ∀ q off, (some ⟨bb, 0, none⟩ : Option Addr) = some ⟨q, off, none⟩ → q ∉ bH [(some lp, .loop rec), (some ob, bc [.slice r0.A r0.n r0.c] 220), r0.e]) (hmX : mb ∉ bH [(some lp, .loop rec), (some ob, bc [.slice r0.A r0.n r0.c] 220), r0.e]) :
  Calls Tryz.prog 235 #[.func (.yield lp) #[] #[], .pointer (some ⟨bb, 0, none⟩)] w (fun ex w' => ∃ v, ex = .returned v ∧ (fun v w' => v = .tuple #[] ∧ ∃ (r : Row) (T : List ((Int × Int) × Nat)), T.Perm L ∧ aW 209 2 r.A r.n r.c ((T.map (fun z => z.1)).map bL) r.e ∧ Mem w (bH [(some lp, .loop rec), (some ob, bc [.slice r0.A r0.n r0.c] 220), r0.e]) [(some lp, .loop rec), (some ob, bc [.slice r.A r.n r.c] 220), r.e] w') v w') := by
 rw [← eT bb]
 refine aH #[] 14 Tryz.func235 rfl Tryz.results235 Tryz.ntmps235 rfl ?_
 have M0 := hO.mem
 refine aD (aA (wq (eJ (o := 0) (.map _) bFd (B1.memY M0 hd1) (show ([[.map (some mb)]] : List (List Value))[0]? = some ([.map (some mb)]) from rfl) rfl rfl) rfl (aWz (α := Int × Int) Tryz.underlying287 M0 rfl rfl rfl ((M0.old mb hml hmX).trans hmb) (fun b1 w1 M1 => (aB (aC (aS ?_)))))))
 refine dK (σ := List ((Int × Int) × Nat) × Row) [0, 5] (fun (T, r) => []) (fun (T, r) w' => ((∀ p ∈ T, p ∈ L) ∧ (T.map (·.2)).Nodup ∧ aW 209 2 r.A r.n r.c ((T.map (fun z => z.1)).map bL) r.e) ∧ Mem w (bH [(some lp, .loop rec), (some ob, bc [.slice r0.A r0.n r0.c] 220), r0.e]) [(some lp, .loop rec), (some ob, bc [.slice r.A r.n r.c] 220), r.e, (some b1, tL mb clock T)] w') (fun (T, r) => L.length - T.length) ([], r0) eZ (⟨⟨(fun p hp => nomatch hp), by simp, hr0⟩, M1⟩) ?_
 rintro ⟨T, r⟩ ρ2 w2 ⟨⟨hTs, hTn, hr⟩, hM2⟩
 have hrl : T.length = r.n := by simpa using hr.1
 have hTl := aGi hTn hTs
 refine aD (aA ?_)
 refine bAx (enc := bL) 3 hM2 rfl rfl rfl rfl ((hM2.old mb hml hmX).trans hmb) hS.lt (fun hover => ?_) (fun p3 w3 hp3 hnp3 M3 => ?_)
 ·refine wq (bE (.bool false) rfl rfl) rfl (aB (aC (aD (cB rfl (cR (cZ (cX ?_)))))))
  refine eQ (iV ?_)
  exact ⟨rfl, r, T, aTm hS.nd hTn hTs hover, hr, hM2.keep [true, true, true, false]⟩
 ·refine wq (bE (.bool true) rfl rfl) rfl (aB (aC (aD (cM rfl (aK (aC (aS (aD (aA (wq (bBp (enc := bL) 3 (p3) M3 rfl rfl ((M3.old mb hml hmX).trans hmb) hp3 hS.nd) rfl (wq (bE (.agg (List.toArray _)) rfl rfl) rfl ?_)))))))))))
  refine aQ qT M3 rfl rfl (fun b4 w4 M4 => (bB 4 _ gG M4 rfl rfl rfl rfl rfl (aR rfl) rfl (fun w5 M5 => (aB (aC (aD (aBw (aCd (aG (.func _ _ _) rfl) rfl rfl (aCd (bC 4 gG M5 rfl rfl rfl) rfl rfl ?_)))))))))
  obtain ⟨fy, ty, ay, by1, hy1, hy2⟩ := hY _ r ((T.map (fun z => z.1)).map bL) (bL p3.1) ⟨_, _, rfl⟩ (by omega) hr (M5.ownSeg 0 3)
  refine aDm rfl rfl rfl rfl hy1 (hy2.mono ?_)
  rintro _ w6 ⟨rfl, q6, hqn6, hq6, hM6⟩
  have M6 : Mem _ _ [_, _, _, _, _] _ := M5.seg 0 3 hM6
  refine ⟨_, rfl, ?_⟩
  refine aXs rfl (fun _ _ h => h) (wq (fO false rfl rfl) rfl (aB (aC (cB rfl (aK (dE ?_))))))
  have hTs2 : ∀ p ∈ T ++ [p3], p ∈ L := fun p hp => (List.mem_append.1 hp).elim (hTs p) (fun h => by rw [List.mem_singleton] at h; rw [h]; exact hp3)
  have hTn2 := aRa hTn hnp3
  have hTl2 := aGi hTn2 hTs2
  rw [List.length_append, List.length_singleton] at hTl2
  refine cS (T ++ [p3], q6) eZ (cV rfl (cV rfl jQ)) ?_ ?_
  ·exact ⟨⟨hTs2, hTn2, by rw [List.map_append, List.map_append]; exact hq6⟩, M6.keep [true, true, true, true, false]⟩
  ·(show L.length - (T ++ [p3]).length < L.length - T.length; rw [List.length_append, List.length_singleton]; omega)
set_option maxHeartbeats 4000000 in
theorem tI (w : World) (bb : Nat) (mb clock : Nat) (L : List ((Int × Int) × Nat)) (hmb : w.heap[mb]? = some (iN bL L clock)) (hml : mb < w.heap.size) (hS : SetOk L clock) (hLN : L.length < 1099511627776) (B1 : Rd w 1 (some ⟨bb, 0, none⟩) 1 [[.map (some mb)]]) :
  Calls Tryz.prog 256 #[.slice none 0 0, .func (.func 235) #[] #[.pointer (some ⟨bb, 0, none⟩)]] w (fun ex w' => ∃ v, ex = .returned v ∧ (fun v w' => ∃ (r : Row) (T : List ((Int × Int) × Nat)), T.Perm L ∧ v = .slice r.A r.n r.c ∧ aW 209 2 r.A r.n r.c ((T.map (fun z => z.1)).map bL) r.e ∧ Mem w [] [r.e] w') v w') := by
 refine vZ #[.tmp 4] 13 Tryz.func256 rfl Tryz.results256 Tryz.ntmps256 rfl ?_
 have M0 := Mem.refl w
 refine oI (lR (bG (.slice _ _ _) M0 rfl rfl rfl (fun b1 w1 M1 => (fP rfl rfl (aB (oP ?_))))))
 refine oI (oI (lR (wq (aG (.func _ _ _) rfl) rfl (aB (oP ?_)))))
 refine aHq ?_
 have M2 : Mem _ _ [_, _] _ := M1.dummy default
 refine aHd bEx M2 rfl (fun fnn B lp tmps w1 hρ hn M1 => ?_)
 refine xT (P := Tryz.prog) (ob := b1) (Tsl := 220) (Te := 209) (sz := 2) (N := 1099511627776) (ok := (fun x => ∃ a b, x = [.int .u32 a, .int .u32 b])) M1 ?_ (fun hY => ?_)
 ·intro wr r ls x hok hlt hrow hO
  obtain ⟨xa, xb, rfl⟩ := hok
  refine ⟨_, _, _, _, aGy hO rfl rfl rfl hn (by decide) hρ ?_⟩
  have MR0 := hO.mem
  refine qU rfl (fun _ _ h => nomatch h.1) (aQ qT MR0 rfl rfl (fun b3 w3 M3 => (bB 3 _ gG M3 rfl rfl rfl rfl rfl (aR rfl) rfl (fun w4 M4 => (aB ?_)))))
  refine ⟨rfl, _, M4, rfl, fun w5 M5 => ?_⟩
  refine aIp (qU rfl (fun _ _ h => nomatch h.1) (wq (aL 1 (.slice _ _ _) aKz M5 rfl rfl rfl) rfl (wq (bC 3 gG M5 rfl rfl rfl) rfl (dB [.agg (List.toArray _)] [[.int .u32 xa, .int .u32 xb]] rfl sY M5 rfl rfl rfl rfl (dI rfl) (by decide) (fun b6 w6 M6 => (eC 2 [[.int .u32 xa, .int .u32 xb]] sY M6 rfl rfl rfl rfl rfl hrow rfl (by simp [Go.Bil.one]) (dD.ofMem 4 M6 rfl) (by omega) (fun A7 c7 e7 w7 M7 hR7 => ?_)))))))
  refine dX 1 (.slice _ _ _) aKz M7 rfl rfl rfl rfl rfl rfl (fun w8 M8 => (aB (dE ?_)))
  refine ⟨rfl, _, M8, rfl, fun w9 M9 => ?_⟩
  exact ⟨⟨A7, r.n + 1, c7, e7⟩, rfl, hR7, M9.keep [true, true, true, false, false]⟩
 ·refine (aGv _ bb mb clock L ((M1.old mb hml List.not_mem_nil).trans hmb) (Nat.lt_of_lt_of_le hml M1.size) hS hLN (B1.mem M1) lp b1 _ hY ⟨none, 0, 0, (none, default)⟩ (aW.nil _ _ _) (M1.ownSeg 0 3) (M1.away 0 3 B1 (fun _ q off _ h => by simp at h)) (M1.notNew 3 hml)).mono ?_
  rintro _ w5 ⟨v5, rfl, rfl, r, T, hT, hr, hM⟩
  have M5 : Mem _ _ (_ :: [_, _, _]) _ := M1.seg 0 3 hM
  refine ⟨_, rfl, _, M5, fun w6 M6 => ?_⟩
  refine bCc (oP (oI (aDc (aMu (aL 1 (.slice _ _ _) aKz M6 rfl rfl rfl) rfl rfl (aMu (aI (.slice _ _ _) rfl) rfl rfl ?_)))))
  refine aNn (oP (aWs (bBz (i := 3) (.slice _ _ _) rfl M6 rfl (fun w9 M9 => ?_))))
  exact ⟨r, T, hT, rfl, hr, M9.keep [false, false, true, false]⟩
set_option maxHeartbeats 4000000 in
theorem wQ (w : World) (bb : Nat) (mb clock : Nat) (L : List ((Int × Int) × Nat)) (hmb : w.heap[mb]? = some (iN bL L clock)) (hml : mb < w.heap.size) (hS : SetOk L clock) (hLN : L.length < 1099511627776) (B1 : Rd w 1 (some ⟨bb, 0, none⟩) 1 [[.map (some mb)]]) :
  Calls Tryz.prog 233 #[.func (.func 235) #[] #[.pointer (some ⟨bb, 0, none⟩)]] w (fun ex w' => ∃ v, ex = .returned v ∧ (fun v w' => ∃ (r : Row) (T : List ((Int × Int) × Nat)), T.Perm L ∧ v = .slice r.A r.n r.c ∧ aW 209 2 r.A r.n r.c ((T.map (fun z => z.1)).map bL) r.e ∧ Mem w [] [r.e] w') v w') := by
 refine aH #[.tmp 2] 5 Tryz.func233 rfl Tryz.results233 Tryz.ntmps233 rfl ?_
 have M0 := Mem.refl w
 refine aD (aA (fP rfl rfl (aB (aC (aD (aA (wq (aG (.func _ _ _) rfl) rfl (bX bHe rfl rfl (tI _ bb mb clock L ((M0.old mb hml List.not_mem_nil).trans hmb) (Nat.lt_of_lt_of_le hml M0.size) hS hLN (B1.mem M0)) ?_))))))))
 rintro v1 w1 ⟨r, T, hT, rfl, hr, hM1⟩
 have M1 : Mem _ _ [_] _ := M0.call0 hM1
 refine fP rfl rfl (aB (aC (aM (bW (.slice _ _ _) rfl ?_))))
 exact ⟨r, T, hT, rfl, hr, M1⟩
set_option maxHeartbeats 4000000 in
theorem sG (w : World) (bb : Nat) (mb clock : Nat) (L : List ((Int × Int) × Nat)) (hmb : w.heap[mb]? = some (iN bL L clock)) (hml : mb < w.heap.size) (hS : SetOk L clock) (hLN : L.length < 1099511627776) (B1 : Rd w 1 (some ⟨bb, 0, none⟩) 1 [[.map (some mb)]]) :
  Calls Tryz.prog 211 #[.func (.func 235) #[] #[.pointer (some ⟨bb, 0, none⟩)], .func (.func 213) #[] #[]] w (fun ex w' => ∃ v, ex = .returned v ∧ (fun v w' => ∃ (r : Row) (ys : List (Int × Int)), Asc ys ∧ (∀ z, z ∈ ys ↔ z ∈ L.map (·.1)) ∧ v = .slice r.A r.n r.c ∧ aW 209 2 r.A r.n r.c ((ys).map bL) r.e ∧ Mem w [] [r.e] w') v w') := by
 refine aH #[.tmp 4] 12 Tryz.func211 rfl Tryz.results211 Tryz.ntmps211 rfl ?_
 have M0 := Mem.refl w
 refine aD (aA (fP rfl rfl (aB (aC (aD (aA (wq (aG (.func _ _ _) rfl) rfl (bX bDn rfl rfl (wQ _ bb mb clock L ((M0.old mb hml List.not_mem_nil).trans hmb) (Nat.lt_of_lt_of_le hml M0.size) hS hLN (B1.mem M0)) ?_))))))))
 rintro v1 w1 ⟨r, T, hT, rfl, hr, hM1⟩
 have M1 : Mem _ _ [_] _ := M0.call0 hM1
 have hrl : T.length = r.n := by simpa using hr.1
 have hTL := hT.length_eq
 refine fP rfl rfl (aB (aC (aD (aA (eG rfl rfl (wq (aG (.func _ _ _) rfl) rfl (bX bEm rfl rfl (zJ _ _ _ _ (T.map (fun z => z.1)) _ hr (M1.ownAt (i := 0) rfl) (by omega)) ?_)))))))
 rintro v2 w2 ⟨rfl, ys, e2, hpp, huu, hR2, hM2⟩
 have M2 : Mem _ _ [_] _ := M1.seg 0 1 hM2
 refine aB (aC (aD (aA (eG rfl rfl (fP rfl rfl (aB (aC (aM (bW (.slice _ _ _) rfl ?_)))))))))
 have hpl : ys.Perm (L.map (·.1)) := hpp.trans (hT.map _)
 exact ⟨⟨r.A, r.n, r.c, e2⟩, ys, bFu (hpl.nodup_iff.2 hS.keys) huu, fun z => hpl.mem_iff, rfl, hR2, M2⟩
set_option maxHeartbeats 16000000 in
theorem wX (w : World) (b : Nat) (rs : List Row) (cnt : Int) (g : Nat → List Int) (hlen : rs.length = 1024) (G : Rd w 1025 (some ⟨b, 0, none⟩) 1 [dL rs cnt]) (hrow : ∀ (j : Nat) (r : Row), rs[j]? = some r → Rd w 1 r.A r.n ((g j).map fG) ∧ r.n ≤ r.c) (ks : List Int) (hks : ∀ j, j < 1024 → ∀ x ∈ g j, x ∈ ks) (hkl : ks.length ≤ 65536) :
  Calls Tryz.prog 184 #[.pointer (some ⟨b, 0, none⟩)] w (fun ex w' => ∃ v, ex = .returned v ∧ (fun v w' => ∃ (r : Row) (ps : List (Int × Int)), Asc ps ∧ (∀ z, z ∈ ps ↔ z ∈ nN g 1024) ∧ v = .slice r.A r.n r.c ∧ aW 209 2 r.A r.n r.c ((ps).map bL) r.e ∧ Mem w [] [r.e] w') v w') := by
 rw [← eT b]
 refine aH #[.tmp 2] 49 Tryz.func184 rfl Tryz.results184 Tryz.ntmps184 rfl ?_
 have M0 := Mem.refl w
 refine aD (aA (fP rfl rfl (aB (aC (aD (aD (aA (wq (aG (uE _ _) rfl) rfl (wq (aIr Tryz.underlying279 (G.mem M0) (show ([dL rs cnt] : List (List Value))[0]? = some (dL rs cnt) from rfl) rfl) rfl (aB (aC ?_)))))))))))
 refine cB rfl (aK (aC (aD (aA (kC M0 rfl rfl (fun b1 w1 M1 => (wq (aI (.map _) rfl) rfl (aB (aC (aD (aD (aA (wq (aG (uE _ _) rfl) rfl ?_)))))))))))))
 refine wq (aIw (G.mem M1) (Nat.lt_of_le_of_lt (Nat.zero_le _) ((G.mem M1).below_len (show ([dL rs cnt] : List (List Value))[0]? = some (dL rs cnt) from rfl))) rfl) rfl (wq (bJ 0 yE (G.mem M1) (Nat.lt_of_le_of_lt (Nat.zero_le _) ((G.mem M1).below_len (show ([dL rs cnt] : List (List Value))[0]? = some (dL rs cnt) from rfl))) rfl) rfl ?_)
 refine wq (oV (o := 0) (rs.map (fun r => Value.slice r.A r.n r.c)) bEl (G.mem M1) (show ([dL rs cnt] : List (List Value))[0]? = some (dL rs cnt) from rfl) rfl (aGh hlen) (by simp [hlen])) rfl (aY rfl rfl (aB (aC (aS (dK (σ := Nat × Nat × List ((Int × Int) × Nat)) [2, 3, 16] (fun (i, c0, L0) => [(17, .int .i64 (i : Int))]) (fun (i, c0, L0) w' => i ≤ 1024 ∧ (SetOk L0 c0 ∧ ∀ z, z ∈ L0.map (fun z => z.1) ↔ z ∈ nN g i) ∧ Mem w [] [(some b1, iN bL L0 c0)] w') (fun (i, c0, L0) => 1024 - i) (0, 0, []) (bR rfl eZ) (⟨by omega, ⟨SetOk.nil, fun z => by simp [nN]⟩, M1⟩) ?_)))))
 rintro ⟨i, c0, L0⟩ ρ2 w2 ⟨hi, ⟨hS0, hI0⟩, hM2⟩
 refine aD (aA (dA rfl rfl rfl rfl (aB (aC (aD ?_)))))
 refine aZ rfl (fun h18 => ?_) (fun h18 => ?_)
 ·obtain ⟨rj, hrj⟩ := cI (xs := rs) (k := i) hlen (by omega)
  obtain ⟨Rj, hcj⟩ := hrow i rj hrj
  have hlj : (g i).length = rj.n := by simpa using Rj.len
  have hbj := Rj.bound
  refine aK (aC (aD (aS (aD (aA (wq (vE (i) (.slice rj.A rj.n rj.c) aKf aFd rfl rfl (by omega) (by omega) rfl (by rw [kR]; exact aJ _ hrj)) rfl (fP rfl rfl (aB (aC (aD (aA (eG rfl rfl (wq (cP Tryz.underlying247 rfl) rfl ?_)))))))))))))
  refine aY rfl rfl (aB (aC (aS (dK (σ := Nat × Nat × List ((Int × Int) × Nat)) [2, 3, 5, 16, 17, 20, 21] (fun (p, c2, L2) => [(22, .int .i64 (p : Int))]) (fun (p, c2, L2) w' => p ≤ rj.n ∧ (SetOk L2 c2 ∧ ∀ z, z ∈ L2.map (fun z => z.1) ↔ z ∈ nN g i ++ wE (g i) p) ∧ Mem w [] [(some b1, iN bL L2 c2)] w') (fun (p, c2, L2) => rj.n - p) (0, c0, L0) (bR rfl eZ) (⟨by omega, ⟨hS0, fun z => by rw [hI0 z]; simp [wE]⟩, hM2⟩) ?_))))
  rintro ⟨p, c2, L2⟩ ρ3 w3 ⟨hp, ⟨hS2, hI2⟩, hM3⟩
  refine aD (aA (dA rfl rfl rfl rfl (aB (aC (aD ?_)))))
  refine aZ rfl (fun h23 => ?_) (fun h23 => ?_)
  ·obtain ⟨xa, hxa⟩ := cI (xs := g i) (k := p) hlj (by omega)
   refine aK (aC (aD (aS (aD (aA (aY rfl rfl (wq (bN (p) aGq rfl rfl rfl ((Rj.mem hM3).below_len (aJ fG hxa)) ((Rj.mem hM3).someK (aJ fG hxa))) rfl (wq (iB (.int _ _) cC (Rj.mem hM3) (aJ fG hxa) rfl) rfl (bP rfl rfl (bP rfl rfl ?_))))))))))
   refine aB (aC (aD (aA (eG rfl rfl (aY rfl rfl (wq (fY (0) ((p : Int)) aGq rfl rfl ⟨_, rfl⟩ (by decide) (by omega) (by omega)) rfl (wq (cP Tryz.underlying247 rfl) rfl (aY rfl rfl ?_))))))))
   refine aB (aC (aS (dK (σ := Nat × Nat × List ((Int × Int) × Nat)) [2, 3, 5, 7, 16, 17, 20, 21, 22, 29, 30] (fun (q, c4, L4) => [(31, .int .i64 (q : Int))]) (fun (q, c4, L4) w' => q ≤ p ∧ (SetOk L4 c4 ∧ ∀ z, z ∈ L4.map (fun z => z.1) ↔ z ∈ (nN g i ++ wE (g i) p) ++ wT xa ((g i).take q)) ∧ Mem w [] [(some b1, iN bL L4 c4)] w') (fun (q, c4, L4) => p - q) (0, c2, L2) (bR rfl eZ) (⟨by omega, ⟨hS2, fun z => by rw [hI2 z]; simp [wT]⟩, hM3⟩) ?_)))
   rintro ⟨q, c4, L4⟩ ρ4 w4 ⟨hq, ⟨hS4, hI4⟩, hM4⟩
   refine aD (aA (dA rfl rfl rfl rfl (aB (aC (aD ?_)))))
   refine aZ rfl (fun h32 => ?_) (fun h32 => ?_)
   ·obtain ⟨xb, hxb⟩ := cI (xs := g i) (k := q) hlj (by omega)
    refine aK (aC (aD (aS (aD (aA (wq (bN (q) aGq rfl rfl rfl (((Rj.mem hM4).sub 0 p (by omega) (by omega) hcj).below_len (aAe hxb (by omega))) (((Rj.mem hM4).sub 0 p (by omega) (by omega) hcj).someK (aAe hxb (by omega)))) rfl (wq (iB (.int _ _) cC ((Rj.mem hM4).sub 0 p (by omega) (by omega) hcj) (aAe hxb (by omega)) rfl) rfl ?_)))))))
    refine bP rfl rfl (aB (aC (aD (aA (aY rfl rfl (aY rfl rfl (dA rfl rfl rfl rfl (aB (aC ?_)))))))))
    refine aZ rfl (fun h37 => ?_) (fun h37 => ?_)
    ·refine aA (wq (aG (.map _) rfl) rfl (aY rfl rfl (aY rfl rfl (bX bEe rfl rfl (aPc _ xa xb) ?_))))
     rintro v5 w5 ⟨rfl, hb5⟩
     have M5 := hM4.callB hb5
     refine wq (cH [] _ aRh rfl rfl) rfl (aRv (enc := bL) 0 (prI xa xb) aTj M5 rfl rfl hS4 rfl rfl rfl (fun L6 c6 w6 hS6 hZ6 hN6 M6 => (aB (dE (aC (aA (wq (bU rfl rfl (by omega) (by omega)) rfl ?_)))))))
     refine aY rfl rfl (aB ?_)
     refine cS (q + 1, c6, L6) (bR rfl eZ) (cV rfl (cV rfl (cV rfl (cV rfl (cV rfl (cV rfl (cV rfl (cV rfl (cV rfl (cV rfl (cV rfl jQ))))))))))) ?_ ?_
     ·exact ⟨by omega, ⟨hS6, aPi hZ6 hI4 hxb h37⟩, M6⟩
     ·(show p - (q + 1) < p - q; omega)
    ·refine aK (dE (aC (aA (wq (bU rfl rfl (by omega) (by omega)) rfl (aY rfl rfl (aB ?_))))))
     refine cS (q + 1, c4, L4) (bR rfl eZ) (cV rfl (cV rfl (cV rfl (cV rfl (cV rfl (cV rfl (cV rfl (cV rfl (cV rfl (cV rfl (cV rfl jQ))))))))))) ?_ ?_
     ·exact ⟨by omega, ⟨hS4, aOv hI4 hxb h37⟩, hM4⟩
     ·(show p - (q + 1) < p - q; omega)
   ·have hqp : q = p := by omega
    refine cR (cZ (cX (eQ (dE (aC (aA ?_))))))
    refine wq (bU rfl rfl (by omega) (by omega)) rfl (aY rfl rfl (aB ?_))
    refine cS (p + 1, c4, L4) (bR rfl eZ) (cV rfl (cV rfl (cV rfl (cV rfl (cV rfl (cV rfl (cV rfl jQ))))))) ?_ ?_
    ·exact ⟨by omega, ⟨hS4, fun z => by rw [hI4 z, aKh hxa, ← hqp, List.append_assoc]⟩, hM4⟩
    ·(show rj.n - (p + 1) < rj.n - p; omega)
  ·have hpn : p = rj.n := by omega
   refine cR (cZ (cX (eQ (dE (aC (aA ?_))))))
   refine wq (bU rfl rfl (by omega) (by omega)) rfl (aY rfl rfl (aB ?_))
   refine cS (i + 1, c2, L2) (bR rfl eZ) (cV rfl (cV rfl (cV rfl jQ))) ?_ ?_
   ·exact ⟨by omega, ⟨hS2, fun z => by rw [hI2 z, aMh]; unfold aWy; rw [hlj, ← hpn]⟩, hM3⟩
   ·(show 1024 - (i + 1) < 1024 - i; omega)
 ·have hi' : i = 1024 := by omega
  rw [hi'] at hI0
  have hLb : (L0.map (fun z => z.1)).length ≤ (yS ks).length := yY hS0.keys (fun z hz => aQw hks ((hI0 z).1 hz))
  rw [List.length_map, aQq] at hLb
  have hkk : ks.length * ks.length ≤ 65536 * 65536 := Nat.mul_le_mul hkl hkl
  refine cR (cZ (cX (eQ (aC (aD (aA (wq (aG (.map _) rfl) rfl ?_)))))))
  refine bX bGr rfl rfl (aKt _ b1) ?_
  rintro v7 w7 ⟨bb, rfl, hM7⟩
  have M7 : Mem _ _ [_, _] _ := hM2.call0 hM7
  refine bX bFo rfl rfl (sG _ bb b1 c0 L0 (M7.at_ (i := 0) rfl) (M7.lt List.mem_cons_self) hS0 (by omega) (mI 1 M7 rfl rfl)) ?_
  rintro v8 w8 ⟨r, ys, hasc, hys, rfl, hr, hM8⟩
  have M8 : Mem _ _ [_, _, _] _ := M7.call0 hM8
  refine fP rfl rfl (aB (aC (aM (bW (.slice _ _ _) rfl ?_))))
  exact ⟨r, ys, hasc, fun z => (hys z).trans (hI0 z), rfl, hr, M8.keep [false, false, true]⟩
set_option maxHeartbeats 4000000 in
theorem aGd (w : World) (A : Option Addr) (n c : Nat) (xs : List Body) (R : Rd w 10 A n (xs.map aF)) (hb : ∀ b ∈ xs, Okb b) :
  Calls Tryz.prog 180 #[.slice A n c] w (fun ex w' => ∃ v, ex = .returned v ∧ (fun v w' => ∃ (pm : Nat) (em : dN), v = .map (some pm) ∧ iC .u32 rL (bxM xs) (some pm) em ∧ Mem w [] [em] w') v w') := by
 have hlen : xs.length = n := by simpa using R.len
 have hbd := R.bound
 refine aH #[.tmp 2] 20 Tryz.func180 rfl Tryz.results180 Tryz.ntmps180 rfl ?_
 have M0 := Mem.refl w
 refine aD (aA (wq (aI (.map _) rfl) rfl (aB (aC (aD (aA (kC M0 rfl rfl (fun b1 w1 M1 => (wq (aI (.map _) rfl) rfl (aB (aC (aD (aD (aA ?_))))))))))))))
 refine eG rfl rfl (wq (cP Tryz.underlying29 rfl) rfl (aY rfl rfl (aB (aC (aS (dK (σ := Nat × dN) [2, 3, 7, 8] (fun (k, em) => [(9, .int .i64 (k : Int))]) (fun (k, em) w' => (k ≤ n ∧ iC .u32 rL (bxM (xs.take k)) (some b1) em) ∧ Mem w [] [em] w') (fun (k, em) => n - k) (0, (some b1, .map #[] 0)) (bR rfl eZ) (⟨⟨by omega, (iC.empty _ _ b1).congr (fun q => by rw [List.take_zero]; exact bAk q)⟩, M1⟩) ?_))))))
 rintro ⟨k, em⟩ ρ2 w2 ⟨⟨hk, hme⟩, hM2⟩
 refine aD (aA (dA rfl rfl rfl rfl (aB (aC (aD ?_)))))
 refine aZ rfl (fun h10 => ?_) (fun h10 => ?_)
 ·obtain ⟨xb, hxb⟩ := cI (k := k) hlen (by omega)
  refine aK (aC (aD (aS (aD (aA (wq (bN (k) dW rfl rfl rfl ((R.mem hM2).below_len (aJ aF hxb)) ((R.mem hM2).someK (aJ aF hxb))) rfl (wq (dC _ bS (R.mem hM2) (aJ aF hxb) rfl) rfl (aQ gS hM2 rfl rfl (fun b3 w3 M3 => (bB 1 _ bS M3 rfl rfl rfl rfl rfl (aR rfl) rfl (fun w4 M4 => ?_)))))))))))
  refine aB (aC (bO [(0, 0), (1, 0), (2, 1), (3, 1), (4, 2), (5, 2)] mixed rfl (by kernel_rfl) (fun w5 hb5 hh5 => ?_)))
  have M5 := M4.drew hb5 hh5
  refine aV rfl rfl rfl (fun _ => aG (.map _) rfl) (aV rfl rfl rfl (fun _ => aE 0 eP rfl) (bV rfl rfl rfl (aL 1 (.int _ _) cC M5 rfl rfl rfl) (bV rfl rfl rfl (bC 1 bS M5 rfl rfl rfl) (dG [true, false] rfl (by kernel_rfl) (bX bEz rfl rfl (bGn _ xb (hb xb (List.mem_of_getElem? hxb))) ?_)))))
  rintro v6 w6 ⟨rfl, hb6⟩
  have M6 := M5.callB hb6
  refine aB (aC ⟨(eF (bK rfl (aL 1 (.int _ _) cC M6 rfl rfl rfl)) dH), ?_⟩)
  refine dG [true] rfl (by kernel_rfl) (iM (enc := rL) 0 aDo M6 rfl rfl hme rfl rfl rfl rfl (fun e7 w7 hm7 M7 => ?_))
  refine aB (aC ⟨dH, ?_⟩)
  refine cD (dE (aC (aA (wq (bU rfl rfl (by omega) (by omega)) rfl (aY rfl rfl (aB ?_))))))
  refine cS (k + 1, e7) (bR rfl eZ) (cV rfl (cV rfl (cV rfl (cV rfl jQ)))) ?_ ?_
  ·exact ⟨⟨by omega, hm7.congr (fun q => aUp hxb q)⟩, M7.keep [true, false]⟩
  ·(show n - (k + 1) < n - k; omega)
 ·have hkn : k = n := by omega
  rw [List.take_of_length_le (by omega)] at hme
  refine cR (cZ (cX (eQ (aC (aD (aA (wq (aG (.map _) rfl) rfl ?_)))))))
  refine wq (aI (.map _) rfl) rfl (aB (aC (aM (bW (.map _) rfl ?_))))
  exact ⟨_, _, rfl, hme, hM2⟩
set_option maxHeartbeats 4000000 in
theorem aAj (w : World) (pm : Nat) :
  Calls Tryz.prog 182 #[.map (some pm)] w (fun ex w' => ∃ v, ex = .returned v ∧ (fun v w' => ∃ bm bn, v = .tuple #[.func (.func 206) #[] #[.pointer (some ⟨bn, 0, none⟩), .pointer (some ⟨bm, 0, none⟩)], .func (.func 208) #[] #[.pointer (some ⟨bn, 0, none⟩)]] ∧ Mem w [] [(some bm, bc [.map (some pm)] 245), (some bn, bc [.int .i64 0] 3)] w') v w') := by
 refine aH #[.tmp 2, .tmp 3] 8 Tryz.func182 rfl Tryz.results182 Tryz.ntmps182 rfl ?_
 have M0 := Mem.refl w
 refine aD (aA (bG (.map _) M0 rfl rfl rfl (fun b1 w1 M1 => (wq (aI (_) rfl) rfl (wq (aI (_) rfl) rfl (aB (aC (aD (aA (aQ bJb M1 rfl rfl (fun b2 w2 M2 => ?_)))))))))))
 refine dX 1 (.int _ _) jC M2 rfl rfl rfl rfl rfl rfl (fun w3 M3 => (aB (aC (aD (aA (wq (cO [] [.pointer _, .pointer _] rfl rfl) rfl (wq (aI (.func _ _ _) rfl) rfl (aB (aC (aD (aA (wq (aG (.func _ _ _) rfl) rfl ?_))))))))))))
 refine wq (cO [] [.pointer _] rfl rfl) rfl (wq (aI (.func _ _ _) rfl) rfl (wq (aI (.func _ _ _) rfl) rfl (aB (aC (aM (iH (.func _ _ _) (.func _ _ _) rfl rfl ?_))))))
 exact ⟨b1, b2, rfl, M3⟩
set_option maxHeartbeats 4000000 in
theorem aAt (w : World) (bn : Nat) (m : Int) (K : Rd w 1 (some ⟨bn, 0, none⟩) 1 [[.int .i64 m]]) :
  Calls Tryz.prog 208 #[.pointer (some ⟨bn, 0, none⟩)] w (fun ex w' => ∃ v, ex = .returned v ∧ (fun v w' => v = .int .i64 m ∧ Below w.heap.size w w') v w') := by
 rw [← eT bn]
 refine aH #[.tmp 1] 3 Tryz.func208 rfl Tryz.results208 Tryz.ntmps208 rfl ?_
 have M0 := Mem.refl w
 refine aD (aA (bP rfl rfl (aB (aC (aD (aA (wq (eJ (o := 0) (.int _ _) jC (K.mem M0) (show ([[.int .i64 m]] : List (List Value))[0]? = some [.int .i64 m] from rfl) rfl rfl) rfl (bP rfl rfl (aB (aC (aM ?_)))))))))))
 refine bW (.int _ _) rfl ?_
 exact ⟨rfl, M0.below⟩
set_option maxHeartbeats 4000000 in
theorem vT (w : World) (z : Int × Int) (bn bm m : Nat) (f : Int → Option Bx) (pm : Nat) (em : dN) (hme : iC .u32 rL f (some pm) em) (B : Rd w 1 (some ⟨bm, 0, none⟩) 1 [[.map (some pm)]]) (N : Rd w 4 (some ⟨3, 0, none⟩) 1 [cY gO]) (hO : Own [(some bn, bc [.int .i64 (m : Int)] 3), em] w) (hdB : 0 < 1 → ∀ q off, (some ⟨bm, 0, none⟩ : Option Addr) = some ⟨q, off, none⟩ → q ∉ bH [(some bn, bc [.int .i64 (m : Int)] 3), em]) (hdN : 0 < 1 → ∀ q off, (some ⟨3, 0, none⟩ : Option Addr) = some ⟨q, off, none⟩ → q ∉ bH [(some bn, bc [.int .i64 (m : Int)] 3), em]) (hm : m ≤ 1125899906842624) :
  Calls Tryz.prog 206 #[(.agg (bL z).toArray), .pointer (some ⟨bn, 0, none⟩), .pointer (some ⟨bm, 0, none⟩)] w (fun ex w' => ∃ v, ex = .returned v ∧ (fun v w' => v = .bool (apB f z) ∧ Mem w (bH [(some bn, bc [.int .i64 (m : Int)] 3), em]) [(some bn, bc [.int .i64 ((m + 1 : Nat) : Int)] 3), em] w') v w') := by
 rw [← eT bm]
 refine aH #[.tmp 4] 17 Tryz.func206 rfl Tryz.results206 Tryz.ntmps206 rfl ?_
 have M0 := hO.mem
 refine aD (aA (bG (.agg (List.toArray _)) M0 rfl rfl rfl (fun b1 w1 M1 => (wq (aI (.bool false) rfl) rfl (aB (aC (aD (aA (wq (aL 0 (.int _ _) jC M1 rfl rfl rfl) rfl (wq (bU rfl rfl (by omega) (by omega)) rfl ?_))))))))))
 refine aT 6 (.int .i64 ((m + 1 : Nat) : Int)) (iE (by omega)) (dX 0 (.int _ _) jC M1 rfl rfl rfl rfl rfl rfl (fun w2 M2 => (aB (aC (aD (aA (wq (eJ (o := 0) (.map _) aXx (B.memY M2 hdB) (show ([[.map (some pm)]] : List (List Value))[0]? = some ([.map (some pm)]) from rfl) rfl rfl) rfl ?_)))))))
 refine wq (aE 0 nQ rfl) rfl (wq (aL 2 (.int _ _) cC M2 rfl rfl rfl) rfl (wq (jH (enc := rL) z0B 1 aDo aYc M2 rfl hme rfl rfl) rfl (wq (eJ (o := 0) (.map _) aXx (B.memY M2 hdB) (show ([[.map (some pm)]] : List (List Value))[0]? = some ([.map (some pm)]) from rfl) rfl rfl) rfl ?_)))
 refine wq (aE 1 nU rfl) rfl (wq (aL 2 (.int _ _) cC M2 rfl rfl rfl) rfl (wq (jH (enc := rL) z0B 1 aDo aYc M2 rfl hme rfl rfl) rfl (bX bFx rfl rfl (aIu _ (N.memY M2 hdN) ((f z.1).getD z0B) ((f z.2).getD z0B)) ?_)))
 rintro v3 w3 ⟨rfl, hb3⟩
 have M3 := M2.callB hb3
 refine wq (lM rfl) rfl (wq (aI (.bool (decide _)) rfl) rfl (aB (aC (aM (bW (.bool (decide _)) rfl ?_)))))
 exact ⟨rfl, M3.keep [true, true, false]⟩
set_option maxHeartbeats 4000000 in
theorem tT (w : World) (A : Option Addr) (n c : Nat) (zs : List (Int × Int)) (R : Rd w 2 A n (zs.map bL)) (bn bm m : Nat) (f : Int → Option Bx) (pm : Nat) (em : dN) (hme : iC .u32 rL f (some pm) em) (B : Rd w 1 (some ⟨bm, 0, none⟩) 1 [[.map (some pm)]]) (N : Rd w 4 (some ⟨3, 0, none⟩) 1 [cY gO]) (hO : Own [(some bn, bc [.int .i64 (m : Int)] 3), em] w) (hdA : 0 < n → ∀ q off, A = some ⟨q, off, none⟩ → q ∉ bH [(some bn, bc [.int .i64 (m : Int)] 3), em]) (hdB : 0 < 1 → ∀ q off, (some ⟨bm, 0, none⟩ : Option Addr) = some ⟨q, off, none⟩ → q ∉ bH [(some bn, bc [.int .i64 (m : Int)] 3), em]) (hdN : 0 < 1 → ∀ q off, (some ⟨3, 0, none⟩ : Option Addr) = some ⟨q, off, none⟩ → q ∉ bH [(some bn, bc [.int .i64 (m : Int)] 3), em]) (hm : m + n ≤ 1125899906842624) (hn : n ≤ 1099511627776) :
  Calls Tryz.prog 209 #[.slice A n c, .func (.func 206) #[] #[.pointer (some ⟨bn, 0, none⟩), .pointer (some ⟨bm, 0, none⟩)]] w (fun ex w' => ∃ v, ex = .returned v ∧ (fun v w' => v = .int .i64 (if zs.findIdx (apB f) < n then (zs.findIdx (apB f) : Int) else -1) ∧ Mem w (bH [(some bn, bc [.int .i64 (m : Int)] 3), em]) [(some bn, bc [.int .i64 ((m + min n (zs.findIdx (apB f) + 1) : Nat) : Int)] 3), em] w') v w') := by
 have hlen : zs.length = n := by simpa using R.len
 refine aH #[.tmp 4] 19 Tryz.func209 rfl Tryz.results209 Tryz.ntmps209 rfl ?_
 have M0 := hO.mem
 refine aD (aA (bP rfl rfl (aB (aC (aD (aD (aA (eG rfl rfl (wq (cP Tryz.underlying220 rfl) rfl (aY rfl rfl ?_))))))))))
 refine aB (aC (aS (dK (σ := Nat) [0, 1, 7] (fun k => [(8, .int .i64 (k : Int))]) (fun k w' => (k ≤ n ∧ ∀ (j : Nat) (x : Int × Int), j < k → zs[j]? = some x → apB f x = false) ∧ Mem w (bH [(some bn, bc [.int .i64 (m : Int)] 3), em]) [(some bn, bc [.int .i64 ((m + k : Nat) : Int)] 3), em] w') (fun k => n - k) 0 (bR rfl eZ) (⟨⟨by omega, fun j c hj => by omega⟩, M0⟩) ?_)))
 rintro k ρ1 w1 ⟨⟨hk, hno⟩, hM1⟩
 refine aD (aA (dA rfl rfl rfl rfl (aB (aC (aD ?_)))))
 refine aZ rfl (fun h9 => ?_) (fun h9 => ?_)
 ·obtain ⟨xz, hxz⟩ := cI (k := k) hlen (by omega)
  refine aK (aC (aD (aS (aD (aA (aY rfl rfl (bP rfl rfl (aB (aC (aD (aA (wq (aG (.func _ _ _) rfl) rfl (eG rfl rfl ?_)))))))))))))
  refine aY rfl rfl (wq (bN (k) sY rfl rfl rfl ((R.memY hM1 hdA).below_len (aJ bL hxz)) ((R.memY hM1 hdA).someK (aJ bL hxz))) rfl (wq (dC _ gG (R.memY hM1 hdA) (aJ bL hxz) rfl) rfl (bX aTt rfl rfl (vT _ xz bn bm (m + k) f pm em hme (B.memY hM1 hdB) (N.memY hM1 hdN) (hM1.ownSeg 0 2) hdB hdN (by omega)) ?_)))
  rintro v2 w2 ⟨rfl, hM2⟩
  have M2 : Mem _ _ [_, _] _ := hM1.seg 0 2 hM2
  refine aB (aC ?_)
  refine gR _ rfl (fun h16 => ?_) (fun h16 => ?_)
  ·refine aD (aA (aY rfl rfl (bP rfl rfl (aB (aC (aM (iY (cE ?_))))))))
   refine qD (iY (cE (bW (.int _ _) rfl ?_)))
   have hfi := aAa hxz h16 hno
   exact ⟨iE (by rw [hfi, if_pos (by omega)]), by rw [hfi, Nat.min_eq_right (by omega)]; exact M2⟩
  ·refine aK (dE (aC (aA (wq (bU rfl rfl (by omega) (by omega)) rfl (aY rfl rfl (aB ?_))))))
   refine cS (k + 1) (bR rfl eZ) (cV rfl (cV rfl (cV rfl jQ))) ?_ ?_
   ·exact ⟨⟨by omega, oK (p := fun _ x => apB f x = false) hno hxz h16⟩, M2⟩
   ·omega
 ·refine cR (cZ (cX (eQ (aC (aD (aA (bP rfl rfl ?_)))))))
  refine aB (aC (aM (bW (.int _ _) rfl ?_)))
  have hkn : k = n := by omega
  have hfi := zZ (p := apB f) (l := zs) (fun j y hy => hno j y (by have := (List.getElem?_eq_some_iff.1 hy).1; omega) hy)
  exact ⟨iE (by rw [hfi, if_neg (by omega)]), by rw [hfi, Nat.min_eq_left (by omega), ← hkn]; exact hM1⟩
set_option maxHeartbeats 16000000 in
theorem sB (w : World) (A : Option Addr) (n c : Nat) (zs : List (Int × Int)) (er : dN) (hr : aW 209 2 A n c ((zs).map bL) er) (bn bm m : Nat) (f : Int → Option Bx) (pm : Nat) (em : dN) (hme : iC .u32 rL f (some pm) em) (B : Rd w 1 (some ⟨bm, 0, none⟩) 1 [[.map (some pm)]]) (N : Rd w 4 (some ⟨3, 0, none⟩) 1 [cY gO]) (hO : Own [er, (some bn, bc [.int .i64 (m : Int)] 3), em] w) (hdB : 0 < 1 → ∀ q off, (some ⟨bm, 0, none⟩ : Option Addr) = some ⟨q, off, none⟩ → q ∉ bH [er, (some bn, bc [.int .i64 (m : Int)] 3), em]) (hdN : 0 < 1 → ∀ q off, (some ⟨3, 0, none⟩ : Option Addr) = some ⟨q, off, none⟩ → q ∉ bH [er, (some bn, bc [.int .i64 (m : Int)] 3), em]) (hm : m + n ≤ 1125899906842624) (hn : n ≤ 1099511627776) :
  Calls Tryz.prog 183 #[.slice A n c, .func (.func 206) #[] #[.pointer (some ⟨bn, 0, none⟩), .pointer (some ⟨bm, 0, none⟩)]] w (fun ex w' => ∃ v, ex = .returned v ∧ (fun v w' => ∃ r : Row, v = .slice r.A r.n r.c ∧ aW 209 2 r.A r.n r.c ((zs.filter (fun z => !apB f z)).map bL) r.e ∧ Mem w (bH [er, (some bn, bc [.int .i64 (m : Int)] 3), em]) [r.e, (some bn, bc [.int .i64 ((m + n : Nat) : Int)] 3), em] w') v w') := by
 have hlen : zs.length = n := by simpa using hr.1
 have hcap := hr.slice
 refine aH #[.tmp 4] 42 Tryz.func183 rfl Tryz.results183 Tryz.ntmps183 rfl ?_
 have M0 := hO.mem
 refine aD (aA (fP rfl rfl (aB (aC (aD (aA (eG rfl rfl (wq (aG (.func _ _ _) rfl) rfl (bX bGb rfl rfl (tT _ A n c zs (hr.rd M0 (aX (i := 0) rfl)) bn bm m f pm em hme (B.memY M0 hdB) (N.memY M0 hdN) (M0.ownSeg 1 2) (hr.apartTail M0) (M0.away 1 2 B hdB) (M0.away 1 2 N hdN) hm hn) ?_)))))))))
 rintro v1 w1 ⟨rfl, hM1⟩
 have M1 : Mem _ _ [_, _, _] _ := M0.seg 1 2 hM1
 refine bP rfl rfl (aB (aC (aD (aD (aA (aY rfl rfl (dA rfl rfl rfl rfl (aB (aC ?_)))))))))
 refine aZ rfl (fun h12 => ?_) (fun h12 => ?_)
 ·have hge : ¬ zs.findIdx (apB f) < n := fun h => by rw [if_pos h] at h12; omega
  refine aD (aA (eG rfl rfl (fP rfl rfl (aB (aC (aM (cE (bW (.slice _ _ _) rfl ?_))))))))
  have e1 : m + min n (zs.findIdx (apB f) + 1) = m + n := by omega
  rw [e1] at M1
  exact ⟨⟨A, n, c, er⟩, rfl, by rw [aHc (by omega)]; exact hr, M1⟩
 ·have hlt : zs.findIdx (apB f) < n := Decidable.by_contra fun h => h12 (if_neg h)
  refine aK (aC (aD (aD (aA (aY rfl rfl (wq (bU rfl rfl (by omega) (by omega)) rfl (aT 15 (.int .i64 ((zs.findIdx (apB f) + 1 : Nat) : Int)) (iE (by rw [if_pos hlt]; omega)) (bP rfl rfl (aB (aC (aS ?_)))))))))))
  refine dK (σ := Nat × Nat × List (Int × Int) × dN) [0, 1, 4] (fun (j, k, zs2, en) => [(5, .int .i64 (k : Int)), (6, .int .i64 (j : Int))]) (fun (j, k, zs2, en) w' => (j ≤ n ∧ k < j ∧ zs2.take k = (zs.take j).filter (fun z => !apB f z) ∧ zs2.drop j = zs.drop j ∧ aW 209 2 A n c ((zs2).map bL) en) ∧ Mem w (bH [er, (some bn, bc [.int .i64 (m : Int)] 3), em]) [en, (some bn, bc [.int .i64 ((m + j : Nat) : Int)] 3), em] w') (fun (j, k, zs2, en) => n - j) (zs.findIdx (apB f) + 1, zs.findIdx (apB f), zs, er) (bR (iv rfl (if_pos hlt)) (bR rfl eZ)) (⟨⟨by omega, by omega, aFk (by omega), rfl, hr⟩, by
   have e1 : min n (zs.findIdx (apB f) + 1) = zs.findIdx (apB f) + 1 := by omega
   rw [e1] at M1
   exact M1⟩) ?_
  rintro ⟨j, k, zs2, en⟩ ρ2 w2 ⟨⟨hj, hkj, hpre, hsuf, hz2⟩, hM2⟩
  have hl2 : zs2.length = n := by simpa using hz2.1
  refine aD (aD (aA (aY rfl rfl (eG rfl rfl (wq (cP Tryz.underlying220 rfl) rfl (dA rfl rfl rfl rfl (aB (aC ?_))))))))
  refine aZ rfl (fun h19 => ?_) (fun h19 => ?_)
  ·obtain ⟨xz, hxz⟩ := cI (k := j) hlen (by omega)
   have hxz2 : zs2[j]? = some xz := (aUo hsuf).trans hxz
   obtain ⟨xk, hxk⟩ := cI (k := k) hl2 (by omega)
   refine aK (aC (aD (aS (aD (aA (eG rfl rfl (aY rfl rfl (wq (bN (j) sY rfl rfl rfl ((hz2.rd hM2 (aX (i := 0) rfl)).below_len (aJ bL hxz2)) ((hz2.rd hM2 (aX (i := 0) rfl)).someK (aJ bL hxz2))) rfl (wq (dC _ gG (hz2.rd hM2 (aX (i := 0) rfl)) (aJ bL hxz2) rfl) rfl ?_)))))))))
   refine aQ qT hM2 rfl rfl (fun b3 w3 M3 => (bB 3 _ gG M3 rfl rfl rfl rfl rfl (aR rfl) rfl (fun w4 M4 => (aB (aC (aD (aA (wq (aG (.func _ _ _) rfl) rfl (wq (bC 3 gG M4 rfl rfl rfl) rfl (bX aTt rfl rfl (vT _ xz bn bm (m + j) f pm em hme (B.memY M4 hdB) (N.memY M4 hdN) (M4.ownSeg 1 2) (M4.away 1 2 B hdB) (M4.away 1 2 N hdN) (by omega)) ?_))))))))))
   rintro v5 w5 ⟨rfl, hM5⟩
   have M5 : Mem _ _ [_, _, _, _] _ := M4.seg 1 2 hM5
   refine wq (fO _ rfl rfl) rfl (aB (aC ?_))
   refine gR _ rfl (fun h29 => ?_) (fun h29 => ?_)
   ·refine aD (aA (eG rfl rfl (aY rfl rfl (wq (bC 3 gG M5 rfl rfl rfl) rfl (wq (bN (k) sY rfl rfl rfl ((hz2.rd M5 (aX (i := 0) rfl)).below_len (aJ bL hxk)) ((hz2.rd M5 (aX (i := 0) rfl)).someK (aJ bL hxk))) rfl (aEa 0 _ gG M5 rfl hz2 (aJ bL hxk) rfl rfl rfl rfl (aR rfl) (fun e6 w6 hR6 M6 => ?_)))))))
    have hQ6 := hR6.mapSet (f := bL) (x := xz) rfl
    refine aB (aC (aA (aY rfl rfl (wq (bU rfl rfl (by omega) (by omega)) rfl (bP rfl rfl (aB (dE ?_)))))))
    refine aC (aA (aY rfl rfl (wq (bU rfl rfl (by omega) (by omega)) rfl (bP rfl rfl (aB ?_)))))
    refine cS (j + 1, k + 1, zs2.set k xz, e6) (bR rfl (bR rfl eZ)) (cV rfl (cV rfl (cV rfl jQ))) ?_ ?_
    ·exact ⟨⟨by omega, by omega, by rw [aVx (by omega), hpre, wF hxz, if_neg (by simpa using h29)], by rw [aXk (by omega)]; exact aCf hsuf, hQ6⟩, M6.keep [true, true, true, false]⟩
    ·(show n - (j + 1) < n - j; omega)
   ·refine aK (dE (aC (aA (aY rfl rfl (wq (bU rfl rfl (by omega) (by omega)) rfl (bP rfl rfl ?_))))))
    refine aB ?_
    refine cS (j + 1, k, zs2, en) (bR rfl (bR rfl eZ)) (cV rfl (cV rfl (cV rfl jQ))) ?_ ?_
    ·exact ⟨⟨by omega, by omega, by rw [hpre, wF hxz, if_pos (by simpa using h29), List.append_nil], aCf hsuf, hz2⟩, M5.keep [true, true, true, false]⟩
    ·(show n - (j + 1) < n - j; omega)
  ·have hjn : j = n := by omega
   rw [hjn, show List.take n zs = zs from List.take_of_length_le (by omega)] at hpre
   refine cR (cZ (cX (eQ (aC (aD (aA (eG rfl rfl ?_)))))))
   refine aY rfl rfl (wq (fY ((k : Int)) ((n : Int)) sY rfl ⟨_, rfl⟩ rfl (by omega) (by omega) (by omega)) rfl (aVq 0 (k) sY (fun zv hz => by rw [bHv] at hz; injection hz with hz; subst hz; simp [Go.Bil.one, Value.cells]) hM2 rfl rfl hz2 (by omega) rfl (fun e7 w7 hR7 M7 => (aB (aC (aD (aA ?_)))))))
   refine eG rfl rfl (aY rfl rfl (wq (fY (0) ((k : Int)) sY rfl rfl ⟨_, rfl⟩ (by decide) (by omega) (by omega)) rfl (fP rfl rfl (aB (aC (aM (bW (.slice _ _ _) rfl ?_)))))))
   rw [hjn] at M7
   have hpf := hR7
   rw [← List.map_take, hpre] at hpf
   exact ⟨⟨_, _, _, e7⟩, rfl, hpf, M7⟩
set_option maxRecDepth 100000 in
theorem bIe : fM Tryz.prog 250 = some (dL (List.replicate 1024 gP) 0) := by kernel_rfl
set_option maxHeartbeats 16000000 in
theorem aLd (w : World) (F : Rd w 2 (some ⟨0, 0, none⟩) 1 [[.int .u32 73856093, .int .u32 19349663]]) (N : Rd w 4 (some ⟨3, 0, none⟩) 1 [cY gO]) (A : Option Addr) (n c : Nat) (xs : List Body) (R : Rd w 10 A n (xs.map aF)) (hb : ∀ b ∈ xs, Okb b) (hs : cA xs) (hn : n ≤ 4096) :
  Calls Tryz.prog 157 #[.slice A n c] w (fun ex w' => ∃ v, ex = .returned v ∧ (fun v w' => ∃ (r : Row) (m : Nat), v = .tuple #[.slice r.A r.n r.c, .int .i64 (m : Int)] ∧ (lA xs).length ≤ m ∧ 2 * m ≤ xs.length * (xs.length - 1) ∧ aW 209 2 r.A r.n r.c ((lA xs).map bL) r.e ∧ Mem w [] [r.e] w') v w') := by
 have hlen : xs.length = n := by simpa using R.len
 have hbd := R.bound
 refine aH #[.tmp 2, .tmp 3] 37 Tryz.func157 rfl Tryz.results157 Tryz.ntmps157 rfl ?_
 have M0 := Mem.refl w
 refine aD (aA (fP rfl rfl (bP rfl rfl (aB (aC (aD (aA (eG rfl rfl (bX bFm rfl rfl (aGd _ _ _ _ xs (R.mem M0) hb) ?_)))))))))
 rintro v1 w1 ⟨pm, em, rfl, hme, hM1⟩
 have M1 : Mem _ _ [_] _ := M0.call0 hM1
 refine wq (aI (.map _) rfl) rfl (aB (aC (aD (aA (aQ bIe M1 rfl rfl (fun b2 w2 M2 => ?_))))))
 have M3 := Mem.gridNew (L := [_]) M2
 refine aB (aC (aD (aD (aA (eG rfl rfl (wq (cP Tryz.underlying29 rfl) rfl (aY rfl rfl (aB (aC (aS (dK (σ := Nat × List Row) [2, 3, 4, 5, 12, 13] (fun (k, rs) => [(14, .int .i64 (k : Int))]) (fun (k, rs) w' => (k ≤ n ∧ GridRows 35 rs (gOf (xs.take k))) ∧ Mem w [] ([em] ++ ((some b2, bc (dL rs (k : Int)) 250) :: rs.map Row.e)) w') (fun (k, rs) => n - k) (0, List.replicate 1024 gP) (bR rfl eZ) (⟨⟨by omega, by rw [List.take_zero]; exact aXm _⟩, M3⟩) ?_)))))))))))
 rintro ⟨k, rs⟩ ρ4 w4 ⟨⟨hk, hrs⟩, hM4⟩
 refine aD (aA (dA rfl rfl rfl rfl (aB (aC (aD ?_)))))
 refine aZ rfl (fun h15 => ?_) (fun h15 => ?_)
 ·obtain ⟨xb, hxb⟩ := cI (k := k) hlen (by omega)
  refine aK (aC (aD (aS (aD (aA (wq (bN (k) dW rfl rfl rfl ((R.mem hM4).below_len (aJ aF hxb)) ((R.mem hM4).someK (aJ aF hxb))) rfl (wq (dC _ bS (R.mem hM4) (aJ aF hxb) rfl) rfl (aQ gS hM4 rfl rfl (fun b5 w5 M5 => ?_)))))))))
  have M6 : Mem _ _ ([_, _] ++ _) _ := Mem.front (L := [_]) M5
  refine bB 1 _ bS M6 rfl rfl rfl rfl rfl (aR rfl) rfl (fun w7 M7 => (aB (aC (aA (wq (aE 0 eP rfl) rfl (wq (aL 1 (.int _ _) cC M7 rfl rfl rfl) rfl (wq (aG (.map _) rfl) rfl (wq (aE 0 eP rfl) rfl ?_))))))))
  refine wq (aL 1 (.int _ _) cC M7 rfl rfl rfl) rfl (wq (jH (enc := rL) z0B 0 aDo aYc M7 rfl hme rfl rfl) rfl (aT 23 (.agg (cY (iQ xb)).toArray) (congrArg rL (by rw [oJ hs (List.mem_of_getElem? hxb)]; rfl)) (bX bFj rfl rfl (aIj _ (F.mem M7) b2 rs (k : Int) (gOf (xs.take k)) hrs ⟨by omega, by omega⟩ (fun j _ => Nat.le_trans (bAn _ _) (by simp; omega)) xb.key (iQ xb) (bGi (hb xb (List.mem_of_getElem? hxb))) (Mem.ownTail (L := [_, _]) M7) (Mem.awayTail (L := [_, _]) M7 F)) ?_)))
  rintro v8 w8 ⟨rfl, rs2, hrs2, hM8⟩
  have M8 : Mem _ _ ([_, _] ++ _) _ := Mem.tail (L := [_, _]) M7 hM8
  refine aB (dE (aC (aA (wq (bU rfl rfl (by omega) (by omega)) rfl (aY rfl rfl (aB ?_))))))
  refine cS (k + 1, rs2) (bR rfl eZ) (cV rfl (cV rfl (cV rfl (cV rfl (cV rfl (cV rfl jQ)))))) ?_ ?_
  ·exact ⟨⟨by omega, by rw [aWf hxb]; exact hrs2⟩, Mem.keepL (L := [_, _]) [true, false] M8⟩
  ·(show n - (k + 1) < n - k; omega)
 ·have hkn : k = n := by omega
  rw [List.take_of_length_le (by omega)] at hrs
  refine cR (cZ (cX (eQ (aC (aD (aA (wq (aG (.map _) rfl) rfl ?_)))))))
  refine bX bDz rfl rfl (aAj _ pm) ?_
  rintro v9 w9 ⟨bm, bn, rfl, hM9⟩
  have M9 : Mem _ _ ([_, _, _] ++ _) _ := Mem.front (L := [_]) (hM4.call0 hM9)
  refine wq (aG (.tuple (List.toArray _)) rfl) rfl (wq (bE (.func _ _ _) rfl rfl) rfl (wq (bE (.func _ _ _) rfl rfl) rfl (wq (aI (.func _ _ _) rfl) rfl (wq (aI (.func _ _ _) rfl) rfl (aB (aC (aD (aA ?_))))))))
  refine bX bDk rfl rfl (wX _ b2 rs (k : Int) (gOf xs) hrs.len (Mem.gridRd (L := [_, _, _]) M9 hrs.len) (fun j r hr => Mem.rowRd (L := [_, _, _]) M9 hrs j r hr) (xs.map (·.key)) (fun j _ x hx => by obtain ⟨b, h1, _, rfl⟩ := oS.1 hx; exact List.mem_map.2 ⟨b, h1, rfl⟩) (by simp; omega)) ?_
  rintro v10 w10 ⟨r, ps, hasc, hps, rfl, hr, hM10⟩
  have M10 : Mem _ _ ([_, _, _, _] ++ _) _ := Mem.front (L := [_, _, _]) (M9.call0 hM10)
  have hpl := aPg hs hasc hps
  have hrl : ps.length = r.n := by simpa using hr.1
  have hnn : xs.length * (xs.length - 1) ≤ 4096 * 4096 := Nat.mul_le_mul (by omega) (by omega)
  refine wq (aG (.func _ _ _) rfl) rfl ?_
  have M11 : Mem _ _ [_, _, _, _] _ := Mem.order4 M10
  refine bX bFs rfl rfl (sB _ r.A r.n r.c ps r.e hr bn bm 0 (bxM xs) pm em hme (mI 3 M11 rfl rfl) (N.mem M11) (M11.ownSeg 0 3) (M11.apartTake 3 3 rfl rfl) (M11.away 0 3 N (fun _ q off _ h => by simp at h)) (by omega) (by omega)) ?_
  rintro v12 w12 ⟨r2, rfl, hr2, hM12⟩
  have M12 : Mem _ _ [_, _, _, _] _ := M11.seg 0 3 hM12
  have hfl : (lA xs).length ≤ ps.length := by rw [← xP hs hasc hps]; exact List.length_filter_le _ _
  rw [xP hs hasc hps] at hr2
  refine fP rfl rfl (aB (aC (aD (aA (eG rfl rfl (wq (aG (.func _ _ _) rfl) rfl (bX bDa rfl rfl (aAt _ bn _ (mI 1 M12 rfl rfl)) ?_)))))))
  rintro v13 w13 ⟨rfl, hb13⟩
  have M13 := M12.callB hb13
  refine fP rfl rfl (bP rfl rfl (aB (aC (aM (iH (.slice _ _ _) (.int _ _) rfl rfl ?_)))))
  exact ⟨r2, 0 + r.n, rfl, by omega, by omega, hr2, M13.keep [true, false, false, false]⟩
end Go.Proofs.YtaoaknafiegfoaaGreatDoor
