/- Part of the proof of the laws of this seat: P10, Q10, U11, V11, W11, Aw11. No conditions. -/
import Derived.Test.YtlmcphcgiclanaaGreatDoorK2
import Derived.Test.YtlmcphcgiclanaaGreatDoorK5
import Derived.Test.YtlmcphcgiclanaaGreatDoorK25
import Derived.Test.YtlmcphcgiclanaaGreatDoorK17
import Derived.Test.YtlmcphcgiclanaaGreatDoorK21
import Derived.Test.YtlmcphcgiclanaaGreatDoorK24
set_option linter.unusedVariables false
set_option linter.unusedSimpArgs false
set_option linter.unnecessarySimpa false
namespace Go.Proofs.YtlmcphcgiclanaaGreatDoor
open Go.Bil
open Go.RowKit (Below)
open Go.Proofs
set_option maxHeartbeats 4000000 in
theorem aPu (w : World) (a b : Int) :
  Calls Tryz.prog 167 #[.int .u32 a, .int .u32 b] w (fun ex w' => ∃ v, ex = .returned v ∧ (fun v w' => v = (.agg (bG (zU a b)).toArray) ∧ Below w.heap.size w w') v w') := by
 refine aH #[.cell 4 119] 12 Tryz.func167 rfl Tryz.results167 Tryz.ntmps167 rfl ?_
 have M0 := Mem.refl w
 refine aD (aA (aR qD M0 rfl rfl (fun b1 w1 M1 => (aB (aC (aD (aA (aV rfl rfl (aV rfl rfl (wq (yA rfl rfl ) rfl ?_))))))))))
 refine aV rfl rfl (aV rfl rfl (wq (nR rfl rfl ) rfl (wq (cN [(0, .int _ _), (1, .int _ _)] _ aBw rfl rfl) rfl (bC 0 _ fQ M1 rfl rfl rfl rfl rfl (aQ rfl) rfl (fun w2 M2 => (aB (aC (aN ?_))))))))
 refine fR 0 fQ M2 rfl rfl rfl ?_
 exact ⟨rfl, M2.below⟩
set_option maxHeartbeats 4000000 in
theorem aXz (w : World) (A : Option Addr) (x y : Int) (R : Rd w 1 A 2 [[.int .i64 x], [.int .i64 y]]) :
  Calls Tryz.prog 197 #[.slice A 2 2] w (fun ex w' => ∃ v, ex = .returned v ∧ (fun v w' => v = .int .i64 (if x = 0 then y else x) ∧ w' = w) v w') := by
 refine aH #[.tmp 2] 18 Tryz.func197 rfl Tryz.results197 Tryz.ntmps197 rfl ?_
 have M0 := Mem.refl w
 refine aD (aA (bJ rfl rfl (aB (aC (aD (aA (bJ rfl rfl (aB (aC (aD (aD (aA (eF rfl rfl ?_)))))))))))))
 refine wq (cM Tryz.underlying302 rfl) rfl (aT 7 (.int .i64 2) (iE rfl) (aV rfl rfl (aB (aC (aS (lQ 3 (gW (aD (aA ?_)))))))))
 refine cT rfl rfl rfl rfl (kR 9 rfl (by first | decide | omega) (aB (aC (aD (cO rfl (aK (aC (aD (aS (aD (aA (wq (bO (0) aTf rfl rfl rfl (R.below_len ((rfl : ([[.int .i64 x], [.int .i64 y]] : List (List Value))[0]? = some [.int .i64 x]))) (R.someK ((rfl : ([[.int .i64 x], [.int .i64 y]] : List (List Value))[0]? = some [.int .i64 x])))) rfl ?_))))))))))))
 refine wq (gT (.int _ _) kG R ((rfl : ([[.int .i64 x], [.int .i64 y]] : List (List Value))[0]? = some [.int .i64 x])) rfl) rfl (bJ rfl rfl (aB (aC (aD (aA (aV rfl rfl (aV rfl rfl (cT rfl rfl rfl rfl ?_))))))))
 refine aB (aC ?_)
 refine aW rfl (fun h14 => ?_) (fun h14 => ?_)
 ·refine aD (aA (aV rfl rfl (bJ rfl rfl (aB (aC (aN (iQ (cE (cE ?_)))))))))
  refine iQ (cE (cC (.int _ _) rfl ?_))
  exact ⟨iE (by split <;> omega), rfl⟩
 ·refine aK (cX (aC (aA (wq (bM rfl rfl (by first | decide | omega) (by first | decide | omega)) rfl (aT 16 (.int .i64 1) (iE (by first | decide | omega)) (aV rfl rfl ?_))))))
  refine aB (aC (gW (aD (aA (cT rfl rfl rfl rfl (kR 9 rfl (by first | decide | omega) (aB (aC (aD ?_)))))))))
  refine cO rfl (aK (aC (aD (aS (aD (aA (wq (bO (1) aTf rfl rfl rfl (R.below_len ((rfl : ([[.int .i64 x], [.int .i64 y]] : List (List Value))[1]? = some [.int .i64 y]))) (R.someK ((rfl : ([[.int .i64 x], [.int .i64 y]] : List (List Value))[1]? = some [.int .i64 y])))) rfl (wq (gT (.int _ _) kG R ((rfl : ([[.int .i64 x], [.int .i64 y]] : List (List Value))[1]? = some [.int .i64 y])) rfl) rfl ?_))))))))
  refine bJ rfl rfl (aB (aC (aD (aA (aV rfl rfl (aV rfl rfl (cT rfl rfl rfl rfl (aB (aC ?_)))))))))
  refine aW rfl (fun h14 => ?_) (fun h14 => ?_)
  ·refine aD (aA (aV rfl rfl (bJ rfl rfl (aB (aC (aN (iQ (cE (cE ?_)))))))))
   refine iQ (cE (cC (.int _ _) rfl ?_))
   exact ⟨iE (by split <;> omega), rfl⟩
  ·refine aK (cX (aC (aA (wq (bM rfl rfl (by first | decide | omega) (by first | decide | omega)) rfl (aT 16 (.int .i64 2) (iE (by first | decide | omega)) (aV rfl rfl ?_))))))
   refine aB (aC (gW (aD (aA (cT rfl rfl rfl rfl (tF 9 rfl (by first | decide | omega) (aB (aC (aD ?_)))))))))
   refine bX rfl (cP (dA (dA (eT (aC (aD (aA (aV rfl rfl ?_))))))))
   refine bJ rfl rfl (aB (aC (aN (cC (.int _ _) rfl ?_))))
   exact ⟨iE (by split <;> omega), rfl⟩
set_option maxHeartbeats 4000000 in
theorem aDc (a b : Int × Int) (w : World) :
  Calls Tryz.prog 170 #[(.agg (bG a).toArray), (.agg (bG b).toArray)] w (fun ex w' => ∃ v, ex = .returned v ∧ (fun v w' => v = .int .i64 (aOe a b) ∧ ∃ q os, w' = Go.Sort.grow (w.drewN q) os) v w') := by
 refine aH #[.tmp 4] 17 Tryz.func170 rfl Tryz.results170 Tryz.ntmps170 rfl ?_
 have M0 := Mem.refl w
 refine aD (aA (wH (.agg (List.toArray _)) M0 rfl rfl rfl (fun M1 => (wH (.agg (List.toArray _)) M1 rfl rfl rfl (fun M2 => (bJ rfl rfl (aB (aC (aD (aXv [(0, 0), (1, 1), (2, 0), (3, 1), (5, 0), (6, 1), (7, 0), (8, 1), (4, 2), (9, 2), (10, 2), (11, 2), (12, 0)] mixed rfl (by kernel_rfl) ?_))))))))))
 have M3 := M2.drewE
 refine aY rfl rfl rfl (fun _ => aE 0 nG rfl) (cD rfl rfl rfl (aM 0 (.int _ _) bZ M3 rfl rfl rfl) (aY rfl rfl rfl (fun _ => aE 0 nG rfl) (cD rfl rfl rfl (aM 1 (.int _ _) bZ M3 rfl rfl rfl) (aY rfl rfl rfl (fun _ => aE 1 nC rfl) (cD rfl rfl rfl (aM 0 (.int _ _) bZ M3 rfl rfl rfl) ?_)))))
 refine aY rfl rfl rfl (fun _ => aE 1 nC rfl) (cD rfl rfl rfl (aM 1 (.int _ _) bZ M3 rfl rfl rfl) (dP [false, false, true, true] rfl (by kernel_rfl) (bV aLm rfl rfl (kA _ _ _) ?_)))
 rintro v4 w4 ⟨rfl, rfl⟩
 have M4 : Mem _ _ [_, _] _ := M3
 refine aB (aC ⟨(eK (bN rfl (aM 1 (.int _ _) bZ M4 rfl rfl rfl)) (eK (bN rfl (aM 0 (.int _ _) bZ M4 rfl rfl rfl)) dQ)), ?_⟩)
 refine dP [true, true] rfl (by kernel_rfl) (bV aLm rfl rfl (kA _ _ _) ?_)
 rintro v5 w5 ⟨rfl, rfl⟩
 have M5 : Mem _ _ [_, _] _ := M4
 refine aB (aC ⟨dQ, ?_⟩)
 refine dP [] rfl (by kernel_rfl) (aKl [.int _ _, .int _ _] [[.int .i64 (lA a.1 b.1)], [.int .i64 (lA a.2 b.2)]] rfl aTf M5 rfl rfl rfl rfl (dI rfl) (by decide) (fun M6 => ?_))
 refine aB (aC ⟨dQ, ?_⟩)
 refine dP [] rfl (by kernel_rfl) (bV bAt rfl rfl (aXz _ _ _ _ ((jR (T := 3) [[.int .i64 (lA a.1 b.1)], [.int .i64 (lA a.2 b.2)]] (by simp) rfl (show 2 ≤ 281474976710656 by decide)).rd M6 (aZ (i := 2) rfl))) ?_)
 rintro v7 w7 ⟨rfl, rfl⟩
 have M7 : Mem _ _ [_, _, _] _ := M6
 refine aB (aC ⟨dQ, ?_⟩)
 refine pX rfl rfl rfl (cF (aC (aN (cC (.int _ _) rfl ?_))))
 exact ⟨iE rfl, bFl _ _ _ _⟩
theorem aUj : aLf Tryz.prog 170 bG aOe := fun x y w => aDc x y w
theorem aUt : KeyT Tryz.prog 230 119 231 bG := by
 refine ⟨Tryz.underlying230, ⟨_, Tryz.underlying119⟩, fun a w => ?_, fun a b w => ?_, fun a => by simp [bG, Instr.sameBits]⟩
 ·have h42 := bB (w := w) Tryz.underlying119
  have hc : ∀ x : Int, (Instr.checkKey false 9999 36 (.int .u32 x)).run Tryz.prog w = .ok () w := fun x => MapKept.run_checkKey (d := .int .u32) Tryz.underlying36 (by simp [MapKept.IsKey]) false 9998
  have p0 : (Go.part 36 #[.int .u32 a.1, .int .u32 a.2] 0).run Tryz.prog w = .ok (.int .u32 a.1) w := jC (l := [.int .u32 a.1, .int .u32 a.2]) bZ rfl
  have p1 : (Go.part 36 #[.int .u32 a.1, .int .u32 a.2] 1).run Tryz.prog w = .ok (.int .u32 a.2) w := jC (l := [.int .u32 a.1, .int .u32 a.2]) bZ rfl
  show (Instr.checkKey false (9999 + 1) 119 _).run _ w = _
  unfold Instr.checkKey
  simp only [Sem.run_bind, h42, Result.andThen_ok, bG]
  simp [p0, p1, hc, Sem.run_bind, Sem.run_pure]
 ·have h := (bBr a.1 a.2 b.1 b.2).2 w
  have e : decide (a.1 = b.1 ∧ a.2 = b.2) = decide (a = b) := decide_eq_decide.2 Prod.ext_iff.symm
  rw [e] at h
  exact h
theorem xR (w : World) (A : Option Addr) (n c : Nat) (xs : List (Int × Int)) (e : dR) (hR : aX 119 2 A n c (xs.map bG) e) (hw : Own [e] w) (hn : n ≤ 1099511627776) :
  Calls Tryz.prog 195 #[.slice A n c, .func (.func 170) #[] #[]] w (fun ex w' => ∃ v, ex = .returned v ∧ v = .tuple #[] ∧ ∃ (ys : List (Int × Int)) (e' : dR), ys.Perm xs ∧ (ys.Pairwise fun a b => ¬ ltP b a) ∧ aX 119 2 A n c (ys.map bG) e' ∧ Mem w (bS [e]) [e'] w') := by
 have h := qW aOa (T := 119) fQ bG aAo (fun x v hv => by simp only [bG, List.mem_cons, List.not_mem_nil, or_false] at hv; rcases hv with h | h <;> subst h <;> rfl) _ aRe 170 bAd aUj w A xs e hR hw (by omega)
 refine Calls.mono h ?_
 rintro ex w' ⟨v, h1, h2, ys, e', h3, h4, h5, h6⟩
 refine ⟨v, h1, h2, ys, e', h3, ?_, h5, h6⟩
 refine List.pairwise_iff_getElem.2 fun i j hi hj hij => ?_
 have := h4 i j _ _ hij (List.getElem?_eq_getElem hi) (List.getElem?_eq_getElem hj)
 have h := of_decide_eq_false this
 rwa [aHc] at h
set_option maxHeartbeats 4000000 in
theorem aKq (w : World) (mb : Nat) :
  Calls Tryz.prog 169 #[.map (some mb)] w (fun ex w' => ∃ v, ex = .returned v ∧ (fun v w' => ∃ bb, v = .func (.func 196) #[] #[.pointer (some ⟨bb, 0, none⟩)] ∧ Mem w [] [(some bb, bc [.map (some mb)] 230)] w') v w') := by
 refine aH #[.tmp 2] 4 Tryz.func169 rfl Tryz.results169 Tryz.ntmps169 rfl ?_
 have M0 := Mem.refl w
 refine aD (aA (bK (.map _) M0 rfl rfl rfl (fun b1 w1 M1 => (wq (aI (_) rfl) rfl (aB (aC (aD (aA (wq (cR [] [.pointer _] rfl rfl) rfl (wq (aI (.func _ _ _) rfl) rfl ?_))))))))))
 refine aB (aC (aN (cC (.func _ _ _) rfl ?_)))
 exact ⟨b1, rfl, M1⟩
set_option maxHeartbeats 4000000 in
theorem aFw (w : World) (bb : Nat) (mb clock : Nat) (L : List ((Int × Int) × Nat)) (hmb : w.heap[mb]? = some (iB bG L clock)) (hml : mb < w.heap.size) (hS : SetOk L clock) (hLN : L.length < 1099511627776) (B1 : Rd w 1 (some ⟨bb, 0, none⟩) 1 [[.map (some mb)]]) (lp ob : Nat) (rec : Loop) (hY : rW Tryz.prog lp ob rec 159 119 2 1099511627776 (fun x => ∃ a b, x = [.int .u32 a, .int .u32 b])) (r0 : Row) (hr0 : aX 119 2 r0.A r0.n r0.c [] r0.e) (hO : Own [(some lp, .loop rec), (some ob, bc [.slice r0.A r0.n r0.c] 159), r0.e] w) (hd1 : 0 < 1 → ∀ q off, (some ⟨bb, 0, none⟩ : Option Addr) = some ⟨q, off, none⟩ → q ∉ bS [(some lp, .loop rec), (some ob, bc [.slice r0.A r0.n r0.c] 159), r0.e]) (hmX : mb ∉ bS [(some lp, .loop rec), (some ob, bc [.slice r0.A r0.n r0.c] 159), r0.e]) :
  Calls Tryz.prog 196 #[.func (.yield lp) #[] #[], .pointer (some ⟨bb, 0, none⟩)] w (fun ex w' => ∃ v, ex = .returned v ∧ (fun v w' => v = .tuple #[] ∧ ∃ (r : Row) (T : List ((Int × Int) × Nat)), T.Perm L ∧ aX 119 2 r.A r.n r.c ((T.map (fun z => z.1)).map bG) r.e ∧ Mem w (bS [(some lp, .loop rec), (some ob, bc [.slice r0.A r0.n r0.c] 159), r0.e]) [(some lp, .loop rec), (some ob, bc [.slice r.A r.n r.c] 159), r.e] w') v w') := by
 rw [← eN bb]
 refine aH #[] 14 Tryz.func196 rfl Tryz.results196 Tryz.ntmps196 rfl ?_
 have M0 := hO.mem
 refine aD (aA (wq (eQ (o := 0) (.map _) bAa (B1.memY M0 hd1) (show ([[.map (some mb)]] : List (List Value))[0]? = some ([.map (some mb)]) from rfl) rfl rfl) rfl (aQn (α := Int × Int) Tryz.underlying230 M0 rfl rfl rfl ((M0.old mb hml hmX).trans hmb) (fun b1 w1 M1 => (aB (aC (aS ?_)))))))
 refine dM (σ := List ((Int × Int) × Nat) × Row) [0, 5] (fun (T, r) => []) (fun (T, r) w' => ((∀ p ∈ T, p ∈ L) ∧ (T.map (·.2)).Nodup ∧ aX 119 2 r.A r.n r.c ((T.map (fun z => z.1)).map bG) r.e) ∧ Mem w (bS [(some lp, .loop rec), (some ob, bc [.slice r0.A r0.n r0.c] 159), r0.e]) [(some lp, .loop rec), (some ob, bc [.slice r.A r.n r.c] 159), r.e, (some b1, rS mb clock T)] w') (fun (T, r) => L.length - T.length) ([], r0) eV (⟨⟨(fun p hp => nomatch hp), by simp, hr0⟩, M1⟩) ?_
 rintro ⟨T, r⟩ ρ2 w2 ⟨⟨hTs, hTn, hr⟩, hM2⟩
 have hrl : T.length = r.n := by simpa using hr.1
 have hTl := aHj hTn hTs
 refine aD (aA ?_)
 refine aWc (enc := bG) 3 hM2 rfl rfl rfl rfl ((hM2.old mb hml hmX).trans hmb) hS.lt (fun hover => ?_) (fun p3 w3 hp3 hnp3 M3 => ?_)
 ·refine wq (bE (.bool false) rfl rfl) rfl (aB (aC (aD (bX rfl (cP (dA (cY ?_)))))))
  refine eT (iP ?_)
  exact ⟨rfl, r, T, aQb hS.nd hTn hTs hover, hr, hM2.keep [true, true, true, false]⟩
 ·refine wq (bE (.bool true) rfl rfl) rfl (aB (aC (aD (cO rfl (aK (aC (aS (aD (aA (wq (aYg (enc := bG) 3 (p3) M3 rfl rfl ((M3.old mb hml hmX).trans hmb) hp3 hS.nd) rfl (wq (bE (.agg (List.toArray _)) rfl rfl) rfl ?_)))))))))))
  refine aR qD M3 rfl rfl (fun b4 w4 M4 => (bC 4 _ fQ M4 rfl rfl rfl rfl rfl (aQ rfl) rfl (fun w5 M5 => (aB (aC (aD (aBj (aAw (aG (.func _ _ _) rfl) rfl rfl (aAw (bA 4 fQ M5 rfl rfl rfl) rfl rfl ?_)))))))))
  obtain ⟨fy, ty, ay, by1, hy1, hy2⟩ := hY _ r ((T.map (fun z => z.1)).map bG) (bG p3.1) ⟨_, _, rfl⟩ (by omega) hr (M5.ownSeg 0 3)
  refine aBr rfl rfl rfl rfl hy1 (hy2.mono ?_)
  rintro _ w6 ⟨rfl, q6, hqn6, hq6, hM6⟩
  have M6 : Mem _ _ [_, _, _, _, _] _ := M5.seg 0 3 hM6
  refine ⟨_, rfl, ?_⟩
  refine aRb rfl (fun _ _ h => h) (wq (fY false rfl rfl) rfl (aB (aC (bX rfl (aK (cX ?_))))))
  have hTs2 : ∀ p ∈ T ++ [p3], p ∈ L := fun p hp => (List.mem_append.1 hp).elim (hTs p) (fun h => by rw [List.mem_singleton] at h; rw [h]; exact hp3)
  have hTn2 := aOb hTn hnp3
  have hTl2 := aHj hTn2 hTs2
  rw [List.length_append, List.length_singleton] at hTl2
  refine cQ (T ++ [p3], q6) eV (cU rfl (cU rfl jS)) ?_ ?_
  ·exact ⟨⟨hTs2, hTn2, by rw [List.map_append, List.map_append]; exact hq6⟩, M6.keep [true, true, true, true, false]⟩
  ·(show L.length - (T ++ [p3]).length < L.length - T.length; rw [List.length_append, List.length_singleton]; omega)
set_option maxHeartbeats 4000000 in
theorem sX (w : World) (bb : Nat) (mb clock : Nat) (L : List ((Int × Int) × Nat)) (hmb : w.heap[mb]? = some (iB bG L clock)) (hml : mb < w.heap.size) (hS : SetOk L clock) (hLN : L.length < 1099511627776) (B1 : Rd w 1 (some ⟨bb, 0, none⟩) 1 [[.map (some mb)]]) :
  Calls Tryz.prog 218 #[.slice none 0 0, .func (.func 196) #[] #[.pointer (some ⟨bb, 0, none⟩)]] w (fun ex w' => ∃ v, ex = .returned v ∧ (fun v w' => ∃ (r : Row) (T : List ((Int × Int) × Nat)), T.Perm L ∧ v = .slice r.A r.n r.c ∧ aX 119 2 r.A r.n r.c ((T.map (fun z => z.1)).map bG) r.e ∧ Mem w [] [r.e] w') v w') := by
 refine uZ #[.tmp 4] 13 Tryz.func218 rfl Tryz.results218 Tryz.ntmps218 rfl ?_
 have M0 := Mem.refl w
 refine oA (lJ (bK (.slice _ _ _) M0 rfl rfl rfl (fun b1 w1 M1 => (gC rfl rfl (aB (nK ?_))))))
 refine oA (oA (lJ (wq (aG (.func _ _ _) rfl) rfl (aB (nK ?_)))))
 refine aGo ?_
 have M2 : Mem _ _ [_, _] _ := M1.dummy default
 refine aGh bBf M2 rfl (fun fnn B lp tmps w1 hρ hn M1 => ?_)
 refine wQ (P := Tryz.prog) (ob := b1) (Tsl := 159) (Te := 119) (sz := 2) (N := 1099511627776) (ok := (fun x => ∃ a b, x = [.int .u32 a, .int .u32 b])) M1 ?_ (fun hY => ?_)
 ·intro wr r ls x hok hlt hrow hO
  obtain ⟨xa, xb, rfl⟩ := hok
  refine ⟨_, _, _, _, aGn hO rfl rfl rfl hn (by decide) hρ ?_⟩
  have MR0 := hO.mem
  refine qG rfl (fun _ _ h => nomatch h.1) (aR qD MR0 rfl rfl (fun b3 w3 M3 => (bC 3 _ fQ M3 rfl rfl rfl rfl rfl (aQ rfl) rfl (fun w4 M4 => (aB ?_)))))
  refine ⟨rfl, _, M4, rfl, fun w5 M5 => ?_⟩
  refine aHd (qG rfl (fun _ _ h => nomatch h.1) (wq (aM 1 (.slice _ _ _) aJc M5 rfl rfl rfl) rfl (wq (bA 3 fQ M5 rfl rfl rfl) rfl (dC [.agg (List.toArray _)] [[.int .u32 xa, .int .u32 xb]] rfl tA M5 rfl rfl rfl rfl (dI rfl) (by decide) (fun b6 w6 M6 => (eH 2 [[.int .u32 xa, .int .u32 xb]] tA M6 rfl rfl rfl rfl rfl hrow rfl (by simp [Go.Bil.one]) (dD.ofMem 4 M6 rfl) (by omega) (fun A7 c7 e7 w7 M7 hR7 => ?_)))))))
  refine dH 1 (.slice _ _ _) aJc M7 rfl rfl rfl rfl rfl rfl (fun w8 M8 => (aB (cX ?_)))
  refine ⟨rfl, _, M8, rfl, fun w9 M9 => ?_⟩
  exact ⟨⟨A7, r.n + 1, c7, e7⟩, rfl, hR7, M9.keep [true, true, true, false, false]⟩
 ·refine (aFw _ bb mb clock L ((M1.old mb hml List.not_mem_nil).trans hmb) (Nat.lt_of_lt_of_le hml M1.size) hS hLN (B1.mem M1) lp b1 _ hY ⟨none, 0, 0, (none, default)⟩ (aX.nil _ _ _) (M1.ownSeg 0 3) (M1.away 0 3 B1 (fun _ q off _ h => by simp at h)) (M1.notNew 3 hml)).mono ?_
  rintro _ w5 ⟨v5, rfl, rfl, r, T, hT, hr, hM⟩
  have M5 : Mem _ _ (_ :: [_, _, _]) _ := M1.seg 0 3 hM
  refine ⟨_, rfl, _, M5, fun w6 M6 => ?_⟩
  refine aZo (nK (oA (aBn (aLs (aM 1 (.slice _ _ _) aJc M6 rfl rfl rfl) rfl rfl (aLs (aI (.slice _ _ _) rfl) rfl rfl ?_)))))
  refine aLo (nK (aQl (aYx (i := 3) (.slice _ _ _) rfl M6 rfl (fun w9 M9 => ?_))))
  exact ⟨r, T, hT, rfl, hr, M9.keep [false, false, true, false]⟩
set_option maxHeartbeats 4000000 in
theorem vU (w : World) (bb : Nat) (mb clock : Nat) (L : List ((Int × Int) × Nat)) (hmb : w.heap[mb]? = some (iB bG L clock)) (hml : mb < w.heap.size) (hS : SetOk L clock) (hLN : L.length < 1099511627776) (B1 : Rd w 1 (some ⟨bb, 0, none⟩) 1 [[.map (some mb)]]) :
  Calls Tryz.prog 194 #[.func (.func 196) #[] #[.pointer (some ⟨bb, 0, none⟩)]] w (fun ex w' => ∃ v, ex = .returned v ∧ (fun v w' => ∃ (r : Row) (T : List ((Int × Int) × Nat)), T.Perm L ∧ v = .slice r.A r.n r.c ∧ aX 119 2 r.A r.n r.c ((T.map (fun z => z.1)).map bG) r.e ∧ Mem w [] [r.e] w') v w') := by
 refine aH #[.tmp 2] 5 Tryz.func194 rfl Tryz.results194 Tryz.ntmps194 rfl ?_
 have M0 := Mem.refl w
 refine aD (aA (gC rfl rfl (aB (aC (aD (aA (wq (aG (.func _ _ _) rfl) rfl (bV bDr rfl rfl (sX _ bb mb clock L ((M0.old mb hml List.not_mem_nil).trans hmb) (Nat.lt_of_lt_of_le hml M0.size) hS hLN (B1.mem M0)) ?_))))))))
 rintro v1 w1 ⟨r, T, hT, rfl, hr, hM1⟩
 have M1 : Mem _ _ [_] _ := M0.call0 hM1
 refine gC rfl rfl (aB (aC (aN (cC (.slice _ _ _) rfl ?_))))
 exact ⟨r, T, hT, rfl, hr, M1⟩
set_option maxHeartbeats 4000000 in
theorem rF (w : World) (bb : Nat) (mb clock : Nat) (L : List ((Int × Int) × Nat)) (hmb : w.heap[mb]? = some (iB bG L clock)) (hml : mb < w.heap.size) (hS : SetOk L clock) (hLN : L.length < 1099511627776) (B1 : Rd w 1 (some ⟨bb, 0, none⟩) 1 [[.map (some mb)]]) :
  Calls Tryz.prog 168 #[.func (.func 196) #[] #[.pointer (some ⟨bb, 0, none⟩)], .func (.func 170) #[] #[]] w (fun ex w' => ∃ v, ex = .returned v ∧ (fun v w' => ∃ (r : Row) (ys : List (Int × Int)), Asc ys ∧ (∀ z, z ∈ ys ↔ z ∈ L.map (·.1)) ∧ v = .slice r.A r.n r.c ∧ aX 119 2 r.A r.n r.c ((ys).map bG) r.e ∧ Mem w [] [r.e] w') v w') := by
 refine aH #[.tmp 4] 12 Tryz.func168 rfl Tryz.results168 Tryz.ntmps168 rfl ?_
 have M0 := Mem.refl w
 refine aD (aA (gC rfl rfl (aB (aC (aD (aA (wq (aG (.func _ _ _) rfl) rfl (bV bBm rfl rfl (vU _ bb mb clock L ((M0.old mb hml List.not_mem_nil).trans hmb) (Nat.lt_of_lt_of_le hml M0.size) hS hLN (B1.mem M0)) ?_))))))))
 rintro v1 w1 ⟨r, T, hT, rfl, hr, hM1⟩
 have M1 : Mem _ _ [_] _ := M0.call0 hM1
 have hrl : T.length = r.n := by simpa using hr.1
 have hTL := hT.length_eq
 refine gC rfl rfl (aB (aC (aD (aA (eF rfl rfl (wq (aG (.func _ _ _) rfl) rfl (bV bDa rfl rfl (xR _ _ _ _ (T.map (fun z => z.1)) _ hr (M1.ownAt (i := 0) rfl) (by omega)) ?_)))))))
 rintro v2 w2 ⟨rfl, ys, e2, hpp, huu, hR2, hM2⟩
 have M2 : Mem _ _ [_] _ := M1.seg 0 1 hM2
 refine aB (aC (aD (aA (eF rfl rfl (gC rfl rfl (aB (aC (aN (cC (.slice _ _ _) rfl ?_)))))))))
 have hpl : ys.Perm (L.map (·.1)) := hpp.trans (hT.map _)
 exact ⟨⟨r.A, r.n, r.c, e2⟩, ys, bCh (hpl.nodup_iff.2 hS.keys) huu, fun z => hpl.mem_iff, rfl, hR2, M2⟩
set_option maxHeartbeats 16000000 in
theorem vQ (w : World) (b : Nat) (rs : List Row) (cnt : Int) (g : Nat → List Int) (hlen : rs.length = 1024) (G : Rd w 1025 (some ⟨b, 0, none⟩) 1 [dE rs cnt]) (hrow : ∀ (j : Nat) (r : Row), rs[j]? = some r → Rd w 1 r.A r.n ((g j).map fA) ∧ r.n ≤ r.c) (ks : List Int) (hks : ∀ j, j < 1024 → ∀ x ∈ g j, x ∈ ks) (hkl : ks.length ≤ 65536) :
  Calls Tryz.prog 136 #[.pointer (some ⟨b, 0, none⟩)] w (fun ex w' => ∃ v, ex = .returned v ∧ (fun v w' => ∃ (r : Row) (ps : List (Int × Int)), Asc ps ∧ (∀ z, z ∈ ps ↔ z ∈ mV g 1024) ∧ v = .slice r.A r.n r.c ∧ aX 119 2 r.A r.n r.c ((ps).map bG) r.e ∧ Mem w [] [r.e] w') v w') := by
 rw [← eN b]
 refine aH #[.tmp 2] 49 Tryz.func136 rfl Tryz.results136 Tryz.ntmps136 rfl ?_
 have M0 := Mem.refl w
 refine aD (aA (gC rfl rfl (aB (aC (aD (aD (aA (wq (aG (tE _ _) rfl) rfl (wq (aGf Tryz.underlying222 (G.mem M0) (show ([dE rs cnt] : List (List Value))[0]? = some (dE rs cnt) from rfl) rfl) rfl (aB (aC ?_)))))))))))
 refine bX rfl (aK (aC (aD (aA (lL M0 rfl rfl (fun b1 w1 M1 => (wq (aI (.map _) rfl) rfl (aB (aC (aD (aD (aA (wq (aG (tE _ _) rfl) rfl ?_)))))))))))))
 refine wq (aFb (G.mem M1) (Nat.lt_of_le_of_lt (Nat.zero_le _) ((G.mem M1).below_len (show ([dE rs cnt] : List (List Value))[0]? = some (dE rs cnt) from rfl))) rfl) rfl (wq (bR 0 yO (G.mem M1) (Nat.lt_of_le_of_lt (Nat.zero_le _) ((G.mem M1).below_len (show ([dE rs cnt] : List (List Value))[0]? = some (dE rs cnt) from rfl))) rfl) rfl ?_)
 refine wq (wR (o := 0) (rs.map (fun r => Value.slice r.A r.n r.c)) bCy (G.mem M1) (show ([dE rs cnt] : List (List Value))[0]? = some (dE rs cnt) from rfl) rfl (aFz hlen) (by simp [hlen])) rfl (aV rfl rfl (aB (aC (aS (dM (σ := Nat × Nat × List ((Int × Int) × Nat)) [2, 3, 16] (fun (i, c0, L0) => [(17, .int .i64 (i : Int))]) (fun (i, c0, L0) w' => i ≤ 1024 ∧ (SetOk L0 c0 ∧ ∀ z, z ∈ L0.map (fun z => z.1) ↔ z ∈ mV g i) ∧ Mem w [] [(some b1, iB bG L0 c0)] w') (fun (i, c0, L0) => 1024 - i) (0, 0, []) (bL rfl eV) (⟨by omega, ⟨SetOk.nil, fun z => by simp [mV]⟩, M1⟩) ?_)))))
 rintro ⟨i, c0, L0⟩ ρ2 w2 ⟨hi, ⟨hS0, hI0⟩, hM2⟩
 refine aD (aA (cT rfl rfl rfl rfl (aB (aC (aD ?_)))))
 refine aW rfl (fun h18 => ?_) (fun h18 => ?_)
 ·obtain ⟨rj, hrj⟩ := cI (xs := rs) (k := i) hlen (by omega)
  obtain ⟨Rj, hcj⟩ := hrow i rj hrj
  have hlj : (g i).length = rj.n := by simpa using Rj.len
  have hbj := Rj.bound
  refine aK (aC (aD (aS (aD (aA (wq (uB (i) (.slice rj.A rj.n rj.c) aJb aEl rfl rfl (by omega) (by omega) rfl (by rw [kN]; exact aJ _ hrj)) rfl (gC rfl rfl (aB (aC (aD (aA (eF rfl rfl (wq (cM Tryz.underlying188 rfl) rfl ?_)))))))))))))
  refine aV rfl rfl (aB (aC (aS (dM (σ := Nat × Nat × List ((Int × Int) × Nat)) [2, 3, 5, 16, 17, 20, 21] (fun (p, c2, L2) => [(22, .int .i64 (p : Int))]) (fun (p, c2, L2) w' => p ≤ rj.n ∧ (SetOk L2 c2 ∧ ∀ z, z ∈ L2.map (fun z => z.1) ↔ z ∈ mV g i ++ vE (g i) p) ∧ Mem w [] [(some b1, iB bG L2 c2)] w') (fun (p, c2, L2) => rj.n - p) (0, c0, L0) (bL rfl eV) (⟨by omega, ⟨hS0, fun z => by rw [hI0 z]; simp [vE]⟩, hM2⟩) ?_))))
  rintro ⟨p, c2, L2⟩ ρ3 w3 ⟨hp, ⟨hS2, hI2⟩, hM3⟩
  refine aD (aA (cT rfl rfl rfl rfl (aB (aC (aD ?_)))))
  refine aW rfl (fun h23 => ?_) (fun h23 => ?_)
  ·obtain ⟨xa, hxa⟩ := cI (xs := g i) (k := p) hlj (by omega)
   refine aK (aC (aD (aS (aD (aA (aV rfl rfl (wq (bO (p) aFc rfl rfl rfl ((Rj.mem hM3).below_len (aJ fA hxa)) ((Rj.mem hM3).someK (aJ fA hxa))) rfl (wq (gT (.int _ _) bZ (Rj.mem hM3) (aJ fA hxa) rfl) rfl (bJ rfl rfl (bJ rfl rfl ?_))))))))))
   refine aB (aC (aD (aA (eF rfl rfl (aV rfl rfl (wq (fN (0) ((p : Int)) aFc rfl rfl ⟨_, rfl⟩ (by decide) (by omega) (by omega)) rfl (wq (cM Tryz.underlying188 rfl) rfl (aV rfl rfl ?_))))))))
   refine aB (aC (aS (dM (σ := Nat × Nat × List ((Int × Int) × Nat)) [2, 3, 5, 7, 16, 17, 20, 21, 22, 29, 30] (fun (q, c4, L4) => [(31, .int .i64 (q : Int))]) (fun (q, c4, L4) w' => q ≤ p ∧ (SetOk L4 c4 ∧ ∀ z, z ∈ L4.map (fun z => z.1) ↔ z ∈ (mV g i ++ vE (g i) p) ++ vT xa ((g i).take q)) ∧ Mem w [] [(some b1, iB bG L4 c4)] w') (fun (q, c4, L4) => p - q) (0, c2, L2) (bL rfl eV) (⟨by omega, ⟨hS2, fun z => by rw [hI2 z]; simp [vT]⟩, hM3⟩) ?_)))
   rintro ⟨q, c4, L4⟩ ρ4 w4 ⟨hq, ⟨hS4, hI4⟩, hM4⟩
   refine aD (aA (cT rfl rfl rfl rfl (aB (aC (aD ?_)))))
   refine aW rfl (fun h32 => ?_) (fun h32 => ?_)
   ·obtain ⟨xb, hxb⟩ := cI (xs := g i) (k := q) hlj (by omega)
    refine aK (aC (aD (aS (aD (aA (wq (bO (q) aFc rfl rfl rfl (((Rj.mem hM4).sub 0 p (by omega) (by omega) hcj).below_len (xI hxb (by omega))) (((Rj.mem hM4).sub 0 p (by omega) (by omega) hcj).someK (xI hxb (by omega)))) rfl (wq (gT (.int _ _) bZ ((Rj.mem hM4).sub 0 p (by omega) (by omega) hcj) (xI hxb (by omega)) rfl) rfl ?_)))))))
    refine bJ rfl rfl (aB (aC (aD (aA (aV rfl rfl (aV rfl rfl (cT rfl rfl rfl rfl (aB (aC ?_)))))))))
    refine aW rfl (fun h37 => ?_) (fun h37 => ?_)
    ·refine aA (wq (aG (.map _) rfl) rfl (aV rfl rfl (aV rfl rfl (bV bDt rfl rfl (aPu _ xa xb) ?_))))
     rintro v5 w5 ⟨rfl, hb5⟩
     have M5 := hM4.callB hb5
     refine wq (cN [] _ aOu rfl rfl) rfl (aPo (enc := bG) 0 (zU xa xb) aUt M5 rfl rfl hS4 rfl rfl rfl (fun L6 c6 w6 hS6 hZ6 hN6 M6 => (aB (cX (aC (aA (wq (bM rfl rfl (by omega) (by omega)) rfl ?_)))))))
     refine aV rfl rfl (aB ?_)
     refine cQ (q + 1, c6, L6) (bL rfl eV) (cU rfl (cU rfl (cU rfl (cU rfl (cU rfl (cU rfl (cU rfl (cU rfl (cU rfl (cU rfl (cU rfl jS))))))))))) ?_ ?_
     ·exact ⟨by omega, ⟨hS6, aOz hZ6 hI4 hxb h37⟩, M6⟩
     ·(show p - (q + 1) < p - q; omega)
    ·refine aK (cX (aC (aA (wq (bM rfl rfl (by omega) (by omega)) rfl (aV rfl rfl (aB ?_))))))
     refine cQ (q + 1, c4, L4) (bL rfl eV) (cU rfl (cU rfl (cU rfl (cU rfl (cU rfl (cU rfl (cU rfl (cU rfl (cU rfl (cU rfl (cU rfl jS))))))))))) ?_ ?_
     ·exact ⟨by omega, ⟨hS4, aNi hI4 hxb h37⟩, hM4⟩
     ·(show p - (q + 1) < p - q; omega)
   ·have hqp : q = p := by omega
    refine cP (dA (cY (eT (cX (aC (aA ?_))))))
    refine wq (bM rfl rfl (by omega) (by omega)) rfl (aV rfl rfl (aB ?_))
    refine cQ (p + 1, c4, L4) (bL rfl eV) (cU rfl (cU rfl (cU rfl (cU rfl (cU rfl (cU rfl (cU rfl jS))))))) ?_ ?_
    ·exact ⟨by omega, ⟨hS4, fun z => by rw [hI4 z, aJs hxa, ← hqp, List.append_assoc]⟩, hM4⟩
    ·(show rj.n - (p + 1) < rj.n - p; omega)
  ·have hpn : p = rj.n := by omega
   refine cP (dA (cY (eT (cX (aC (aA ?_))))))
   refine wq (bM rfl rfl (by omega) (by omega)) rfl (aV rfl rfl (aB ?_))
   refine cQ (i + 1, c2, L2) (bL rfl eV) (cU rfl (cU rfl (cU rfl jS))) ?_ ?_
   ·exact ⟨by omega, ⟨hS2, fun z => by rw [hI2 z, aJu]; unfold aSl; rw [hlj, ← hpn]⟩, hM3⟩
   ·(show 1024 - (i + 1) < 1024 - i; omega)
 ·have hi' : i = 1024 := by omega
  rw [hi'] at hI0
  have hLb : (L0.map (fun z => z.1)).length ≤ (zT ks).length := zB hS0.keys (fun z hz => aPp hks ((hI0 z).1 hz))
  rw [List.length_map, aPf] at hLb
  have hkk : ks.length * ks.length ≤ 65536 * 65536 := Nat.mul_le_mul hkl hkl
  refine cP (dA (cY (eT (aC (aD (aA (wq (aG (.map _) rfl) rfl ?_)))))))
  refine bV bDs rfl rfl (aKq _ b1) ?_
  rintro v7 w7 ⟨bb, rfl, hM7⟩
  have M7 : Mem _ _ [_, _] _ := hM2.call0 hM7
  refine bV bCi rfl rfl (rF _ bb b1 c0 L0 (M7.at_ (i := 0) rfl) (M7.lt List.mem_cons_self) hS0 (by omega) (lW 1 M7 rfl rfl)) ?_
  rintro v8 w8 ⟨r, ys, hasc, hys, rfl, hr, hM8⟩
  have M8 : Mem _ _ [_, _, _] _ := M7.call0 hM8
  refine gC rfl rfl (aB (aC (aN (cC (.slice _ _ _) rfl ?_))))
  exact ⟨r, ys, hasc, fun z => (hys z).trans (hI0 z), rfl, hr, M8.keep [false, false, true]⟩
set_option maxHeartbeats 4000000 in
theorem aGe (w : World) (A : Option Addr) (n c : Nat) (xs : List Body) (R : Rd w 10 A n (xs.map aF)) (hb : ∀ b ∈ xs, Okb b) :
  Calls Tryz.prog 132 #[.slice A n c] w (fun ex w' => ∃ v, ex = .returned v ∧ (fun v w' => ∃ (pm : Nat) (em : dR), v = .map (some pm) ∧ iU .u32 qP (bxM xs) (some pm) em ∧ Mem w [] [em] w') v w') := by
 have hlen : xs.length = n := by simpa using R.len
 have hbd := R.bound
 refine aH #[.tmp 2] 20 Tryz.func132 rfl Tryz.results132 Tryz.ntmps132 rfl ?_
 have M0 := Mem.refl w
 refine aD (aA (wq (aI (.map _) rfl) rfl (aB (aC (aD (aA (lL M0 rfl rfl (fun b1 w1 M1 => (wq (aI (.map _) rfl) rfl (aB (aC (aD (aD (aA ?_))))))))))))))
 refine eF rfl rfl (wq (cM Tryz.underlying22 rfl) rfl (aV rfl rfl (aB (aC (aS (dM (σ := Nat × dR) [2, 3, 7, 8] (fun (k, em) => [(9, .int .i64 (k : Int))]) (fun (k, em) w' => (k ≤ n ∧ iU .u32 qP (bxM (xs.take k)) (some b1) em) ∧ Mem w [] [em] w') (fun (k, em) => n - k) (0, (some b1, .map #[] 0)) (bL rfl eV) (⟨⟨by omega, (iU.empty _ _ b1).congr (fun q => by rw [List.take_zero]; exact aVr q)⟩, M1⟩) ?_))))))
 rintro ⟨k, em⟩ ρ2 w2 ⟨⟨hk, hme⟩, hM2⟩
 refine aD (aA (cT rfl rfl rfl rfl (aB (aC (aD ?_)))))
 refine aW rfl (fun h10 => ?_) (fun h10 => ?_)
 ·obtain ⟨xb, hxb⟩ := cI (k := k) hlen (by omega)
  refine aK (aC (aD (aS (aD (aA (wq (bO (k) eP rfl rfl rfl ((R.mem hM2).below_len (aJ aF hxb)) ((R.mem hM2).someK (aJ aF hxb))) rfl (wq (cZ _ bP (R.mem hM2) (aJ aF hxb) rfl) rfl (aR gI hM2 rfl rfl (fun b3 w3 M3 => (bC 1 _ bP M3 rfl rfl rfl rfl rfl (aQ rfl) rfl (fun w4 M4 => ?_)))))))))))
  refine aB (aC (bQ [(0, 0), (1, 0), (2, 1), (3, 1), (4, 2), (5, 2)] mixed rfl (by kernel_rfl) (fun w5 hb5 hh5 => ?_)))
  have M5 := M4.drew hb5 hh5
  refine aY rfl rfl rfl (fun _ => aG (.map _) rfl) (aY rfl rfl rfl (fun _ => aE 0 eZ rfl) (cD rfl rfl rfl (aM 1 (.int _ _) bZ M5 rfl rfl rfl) (cD rfl rfl rfl (bA 1 bP M5 rfl rfl rfl) (dP [true, false] rfl (by kernel_rfl) (bV bCx rfl rfl (bBi _ xb (hb xb (List.mem_of_getElem? hxb))) ?_)))))
  rintro v6 w6 ⟨rfl, hb6⟩
  have M6 := M5.callB hb6
  refine aB (aC ⟨(eK (bN rfl (aM 1 (.int _ _) bZ M6 rfl rfl rfl)) dQ), ?_⟩)
  refine dP [true] rfl (by kernel_rfl) (iA (enc := qP) 0 aDd M6 rfl rfl hme rfl rfl rfl rfl (fun e7 w7 hm7 M7 => ?_))
  refine aB (aC ⟨dQ, ?_⟩)
  refine cF (cX (aC (aA (wq (bM rfl rfl (by omega) (by omega)) rfl (aV rfl rfl (aB ?_))))))
  refine cQ (k + 1, e7) (bL rfl eV) (cU rfl (cU rfl (cU rfl (cU rfl jS)))) ?_ ?_
  ·exact ⟨⟨by omega, hm7.congr (fun q => aSr hxb q)⟩, M7.keep [true, false]⟩
  ·(show n - (k + 1) < n - k; omega)
 ·have hkn : k = n := by omega
  rw [List.take_of_length_le (by omega)] at hme
  refine cP (dA (cY (eT (aC (aD (aA (wq (aG (.map _) rfl) rfl ?_)))))))
  refine wq (aI (.map _) rfl) rfl (aB (aC (aN (cC (.map _) rfl ?_))))
  exact ⟨_, _, rfl, hme, hM2⟩
set_option maxHeartbeats 4000000 in
theorem zO (w : World) (pm : Nat) :
  Calls Tryz.prog 134 #[.map (some pm)] w (fun ex w' => ∃ v, ex = .returned v ∧ (fun v w' => ∃ bm bn, v = .tuple #[.func (.func 163) #[] #[.pointer (some ⟨bn, 0, none⟩), .pointer (some ⟨bm, 0, none⟩)], .func (.func 165) #[] #[.pointer (some ⟨bn, 0, none⟩)]] ∧ Mem w [] [(some bm, bc [.map (some pm)] 186), (some bn, bc [.int .i64 0] 3)] w') v w') := by
 refine aH #[.tmp 2, .tmp 3] 8 Tryz.func134 rfl Tryz.results134 Tryz.ntmps134 rfl ?_
 have M0 := Mem.refl w
 refine aD (aA (bK (.map _) M0 rfl rfl rfl (fun b1 w1 M1 => (wq (aI (_) rfl) rfl (wq (aI (_) rfl) rfl (aB (aC (aD (aA (aR bEn M1 rfl rfl (fun b2 w2 M2 => ?_)))))))))))
 refine dH 1 (.int _ _) kG M2 rfl rfl rfl rfl rfl rfl (fun w3 M3 => (aB (aC (aD (aA (wq (cR [] [.pointer _, .pointer _] rfl rfl) rfl (wq (aI (.func _ _ _) rfl) rfl (aB (aC (aD (aA (wq (aG (.func _ _ _) rfl) rfl ?_))))))))))))
 refine wq (cR [] [.pointer _] rfl rfl) rfl (wq (aI (.func _ _ _) rfl) rfl (wq (aI (.func _ _ _) rfl) rfl (aB (aC (aN (iD (.func _ _ _) (.func _ _ _) rfl rfl ?_))))))
 exact ⟨b1, b2, rfl, M3⟩
set_option maxHeartbeats 4000000 in
theorem aAa (w : World) (bn : Nat) (m : Int) (K : Rd w 1 (some ⟨bn, 0, none⟩) 1 [[.int .i64 m]]) :
  Calls Tryz.prog 165 #[.pointer (some ⟨bn, 0, none⟩)] w (fun ex w' => ∃ v, ex = .returned v ∧ (fun v w' => v = .int .i64 m ∧ Below w.heap.size w w') v w') := by
 rw [← eN bn]
 refine aH #[.tmp 1] 3 Tryz.func165 rfl Tryz.results165 Tryz.ntmps165 rfl ?_
 have M0 := Mem.refl w
 refine aD (aA (bJ rfl rfl (aB (aC (aD (aA (wq (eQ (o := 0) (.int _ _) kG (K.mem M0) (show ([[.int .i64 m]] : List (List Value))[0]? = some [.int .i64 m] from rfl) rfl rfl) rfl (bJ rfl rfl (aB (aC (aN ?_)))))))))))
 refine cC (.int _ _) rfl ?_
 exact ⟨rfl, M0.below⟩
set_option maxHeartbeats 4000000 in
theorem uT (w : World) (z : Int × Int) (bn bm m : Nat) (f : Int → Option Bx) (pm : Nat) (em : dR) (hme : iU .u32 qP f (some pm) em) (B : Rd w 1 (some ⟨bm, 0, none⟩) 1 [[.map (some pm)]]) (N : Rd w 4 (some ⟨3, 0, none⟩) 1 [dF iY]) (hO : Own [(some bn, bc [.int .i64 (m : Int)] 3), em] w) (hdB : 0 < 1 → ∀ q off, (some ⟨bm, 0, none⟩ : Option Addr) = some ⟨q, off, none⟩ → q ∉ bS [(some bn, bc [.int .i64 (m : Int)] 3), em]) (hdN : 0 < 1 → ∀ q off, (some ⟨3, 0, none⟩ : Option Addr) = some ⟨q, off, none⟩ → q ∉ bS [(some bn, bc [.int .i64 (m : Int)] 3), em]) (hm : m ≤ 1125899906842624) :
  Calls Tryz.prog 163 #[(.agg (bG z).toArray), .pointer (some ⟨bn, 0, none⟩), .pointer (some ⟨bm, 0, none⟩)] w (fun ex w' => ∃ v, ex = .returned v ∧ (fun v w' => v = .bool (apB f z) ∧ Mem w (bS [(some bn, bc [.int .i64 (m : Int)] 3), em]) [(some bn, bc [.int .i64 ((m + 1 : Nat) : Int)] 3), em] w') v w') := by
 rw [← eN bm]
 refine aH #[.tmp 4] 17 Tryz.func163 rfl Tryz.results163 Tryz.ntmps163 rfl ?_
 have M0 := hO.mem
 refine aD (aA (bK (.agg (List.toArray _)) M0 rfl rfl rfl (fun b1 w1 M1 => (wq (aI (.bool false) rfl) rfl (aB (aC (aD (aA (wq (aM 0 (.int _ _) kG M1 rfl rfl rfl) rfl (wq (bM rfl rfl (by omega) (by omega)) rfl ?_))))))))))
 refine aT 6 (.int .i64 ((m + 1 : Nat) : Int)) (iE (by omega)) (dH 0 (.int _ _) kG M1 rfl rfl rfl rfl rfl rfl (fun w2 M2 => (aB (aC (aD (aA (wq (eQ (o := 0) (.map _) aTv (B.memY M2 hdB) (show ([[.map (some pm)]] : List (List Value))[0]? = some ([.map (some pm)]) from rfl) rfl rfl) rfl ?_)))))))
 refine wq (aE 0 nG rfl) rfl (wq (aM 2 (.int _ _) bZ M2 rfl rfl rfl) rfl (wq (jA (enc := qP) z0B 1 aDd aQp M2 rfl hme rfl rfl) rfl (wq (eQ (o := 0) (.map _) aTv (B.memY M2 hdB) (show ([[.map (some pm)]] : List (List Value))[0]? = some ([.map (some pm)]) from rfl) rfl rfl) rfl ?_)))
 refine wq (aE 1 nC rfl) rfl (wq (aM 2 (.int _ _) bZ M2 rfl rfl rfl) rfl (wq (jA (enc := qP) z0B 1 aDd aQp M2 rfl hme rfl rfl) rfl (bV bAv rfl rfl (aFv _ (N.memY M2 hdN) ((f z.1).getD z0B) ((f z.2).getD z0B)) ?_)))
 rintro v3 w3 ⟨rfl, hb3⟩
 have M3 := M2.callB hb3
 refine wq (pL rfl) rfl (wq (aI (.bool (decide _)) rfl) rfl (aB (aC (aN (cC (.bool (decide _)) rfl ?_)))))
 exact ⟨rfl, M3.keep [true, true, false]⟩
set_option maxHeartbeats 4000000 in
theorem sM (w : World) (A : Option Addr) (n c : Nat) (zs : List (Int × Int)) (R : Rd w 2 A n (zs.map bG)) (bn bm m : Nat) (f : Int → Option Bx) (pm : Nat) (em : dR) (hme : iU .u32 qP f (some pm) em) (B : Rd w 1 (some ⟨bm, 0, none⟩) 1 [[.map (some pm)]]) (N : Rd w 4 (some ⟨3, 0, none⟩) 1 [dF iY]) (hO : Own [(some bn, bc [.int .i64 (m : Int)] 3), em] w) (hdA : 0 < n → ∀ q off, A = some ⟨q, off, none⟩ → q ∉ bS [(some bn, bc [.int .i64 (m : Int)] 3), em]) (hdB : 0 < 1 → ∀ q off, (some ⟨bm, 0, none⟩ : Option Addr) = some ⟨q, off, none⟩ → q ∉ bS [(some bn, bc [.int .i64 (m : Int)] 3), em]) (hdN : 0 < 1 → ∀ q off, (some ⟨3, 0, none⟩ : Option Addr) = some ⟨q, off, none⟩ → q ∉ bS [(some bn, bc [.int .i64 (m : Int)] 3), em]) (hm : m + n ≤ 1125899906842624) (hn : n ≤ 1099511627776) :
  Calls Tryz.prog 166 #[.slice A n c, .func (.func 163) #[] #[.pointer (some ⟨bn, 0, none⟩), .pointer (some ⟨bm, 0, none⟩)]] w (fun ex w' => ∃ v, ex = .returned v ∧ (fun v w' => v = .int .i64 (if zs.findIdx (apB f) < n then (zs.findIdx (apB f) : Int) else -1) ∧ Mem w (bS [(some bn, bc [.int .i64 (m : Int)] 3), em]) [(some bn, bc [.int .i64 ((m + min n (zs.findIdx (apB f) + 1) : Nat) : Int)] 3), em] w') v w') := by
 have hlen : zs.length = n := by simpa using R.len
 refine aH #[.tmp 4] 19 Tryz.func166 rfl Tryz.results166 Tryz.ntmps166 rfl ?_
 have M0 := hO.mem
 refine aD (aA (bJ rfl rfl (aB (aC (aD (aD (aA (eF rfl rfl (wq (cM Tryz.underlying159 rfl) rfl (aV rfl rfl ?_))))))))))
 refine aB (aC (aS (dM (σ := Nat) [0, 1, 7] (fun k => [(8, .int .i64 (k : Int))]) (fun k w' => (k ≤ n ∧ ∀ (j : Nat) (x : Int × Int), j < k → zs[j]? = some x → apB f x = false) ∧ Mem w (bS [(some bn, bc [.int .i64 (m : Int)] 3), em]) [(some bn, bc [.int .i64 ((m + k : Nat) : Int)] 3), em] w') (fun k => n - k) 0 (bL rfl eV) (⟨⟨by omega, fun j c hj => by omega⟩, M0⟩) ?_)))
 rintro k ρ1 w1 ⟨⟨hk, hno⟩, hM1⟩
 refine aD (aA (cT rfl rfl rfl rfl (aB (aC (aD ?_)))))
 refine aW rfl (fun h9 => ?_) (fun h9 => ?_)
 ·obtain ⟨xz, hxz⟩ := cI (k := k) hlen (by omega)
  refine aK (aC (aD (aS (aD (aA (aV rfl rfl (bJ rfl rfl (aB (aC (aD (aA (wq (aG (.func _ _ _) rfl) rfl (eF rfl rfl ?_)))))))))))))
  refine aV rfl rfl (wq (bO (k) tA rfl rfl rfl ((R.memY hM1 hdA).below_len (aJ bG hxz)) ((R.memY hM1 hdA).someK (aJ bG hxz))) rfl (wq (cZ _ fQ (R.memY hM1 hdA) (aJ bG hxz) rfl) rfl (bV aTy rfl rfl (uT _ xz bn bm (m + k) f pm em hme (B.memY hM1 hdB) (N.memY hM1 hdN) (hM1.ownSeg 0 2) hdB hdN (by omega)) ?_)))
  rintro v2 w2 ⟨rfl, hM2⟩
  have M2 : Mem _ _ [_, _] _ := hM1.seg 0 2 hM2
  refine aB (aC ?_)
  refine gU _ rfl (fun h16 => ?_) (fun h16 => ?_)
  ·refine aD (aA (aV rfl rfl (bJ rfl rfl (aB (aC (aN (iQ (cE ?_))))))))
   refine oT (iQ (cE (cC (.int _ _) rfl ?_)))
   have hfi := yJ hxz h16 hno
   exact ⟨iE (by rw [hfi, if_pos (by omega)]), by rw [hfi, Nat.min_eq_right (by omega)]; exact M2⟩
  ·refine aK (cX (aC (aA (wq (bM rfl rfl (by omega) (by omega)) rfl (aV rfl rfl (aB ?_))))))
   refine cQ (k + 1) (bL rfl eV) (cU rfl (cU rfl (cU rfl jS))) ?_ ?_
   ·exact ⟨⟨by omega, pW (p := fun _ x => apB f x = false) hno hxz h16⟩, M2⟩
   ·omega
 ·refine cP (dA (cY (eT (aC (aD (aA (bJ rfl rfl ?_)))))))
  refine aB (aC (aN (cC (.int _ _) rfl ?_)))
  have hkn : k = n := by omega
  have hfi := zH (p := apB f) (l := zs) (fun j y hy => hno j y (by have := (List.getElem?_eq_some_iff.1 hy).1; omega) hy)
  exact ⟨iE (by rw [hfi, if_neg (by omega)]), by rw [hfi, Nat.min_eq_left (by omega), ← hkn]; exact hM1⟩
set_option maxHeartbeats 16000000 in
theorem rK (w : World) (A : Option Addr) (n c : Nat) (zs : List (Int × Int)) (er : dR) (hr : aX 119 2 A n c ((zs).map bG) er) (bn bm m : Nat) (f : Int → Option Bx) (pm : Nat) (em : dR) (hme : iU .u32 qP f (some pm) em) (B : Rd w 1 (some ⟨bm, 0, none⟩) 1 [[.map (some pm)]]) (N : Rd w 4 (some ⟨3, 0, none⟩) 1 [dF iY]) (hO : Own [er, (some bn, bc [.int .i64 (m : Int)] 3), em] w) (hdB : 0 < 1 → ∀ q off, (some ⟨bm, 0, none⟩ : Option Addr) = some ⟨q, off, none⟩ → q ∉ bS [er, (some bn, bc [.int .i64 (m : Int)] 3), em]) (hdN : 0 < 1 → ∀ q off, (some ⟨3, 0, none⟩ : Option Addr) = some ⟨q, off, none⟩ → q ∉ bS [er, (some bn, bc [.int .i64 (m : Int)] 3), em]) (hm : m + n ≤ 1125899906842624) (hn : n ≤ 1099511627776) :
  Calls Tryz.prog 135 #[.slice A n c, .func (.func 163) #[] #[.pointer (some ⟨bn, 0, none⟩), .pointer (some ⟨bm, 0, none⟩)]] w (fun ex w' => ∃ v, ex = .returned v ∧ (fun v w' => ∃ r : Row, v = .slice r.A r.n r.c ∧ aX 119 2 r.A r.n r.c ((zs.filter (fun z => !apB f z)).map bG) r.e ∧ Mem w (bS [er, (some bn, bc [.int .i64 (m : Int)] 3), em]) [r.e, (some bn, bc [.int .i64 ((m + n : Nat) : Int)] 3), em] w') v w') := by
 have hlen : zs.length = n := by simpa using hr.1
 have hcap := hr.slice
 refine aH #[.tmp 4] 42 Tryz.func135 rfl Tryz.results135 Tryz.ntmps135 rfl ?_
 have M0 := hO.mem
 refine aD (aA (gC rfl rfl (aB (aC (aD (aA (eF rfl rfl (wq (aG (.func _ _ _) rfl) rfl (bV bAo rfl rfl (sM _ A n c zs (hr.rd M0 (aZ (i := 0) rfl)) bn bm m f pm em hme (B.memY M0 hdB) (N.memY M0 hdN) (M0.ownSeg 1 2) (hr.apartTail M0) (M0.away 1 2 B hdB) (M0.away 1 2 N hdN) hm hn) ?_)))))))))
 rintro v1 w1 ⟨rfl, hM1⟩
 have M1 : Mem _ _ [_, _, _] _ := M0.seg 1 2 hM1
 refine bJ rfl rfl (aB (aC (aD (aD (aA (aV rfl rfl (cT rfl rfl rfl rfl (aB (aC ?_)))))))))
 refine aW rfl (fun h12 => ?_) (fun h12 => ?_)
 ·have hge : ¬ zs.findIdx (apB f) < n := fun h => by rw [if_pos h] at h12; omega
  refine aD (aA (eF rfl rfl (gC rfl rfl (aB (aC (aN (cE (cC (.slice _ _ _) rfl ?_))))))))
  have e1 : m + min n (zs.findIdx (apB f) + 1) = m + n := by omega
  rw [e1] at M1
  exact ⟨⟨A, n, c, er⟩, rfl, by rw [aHe (by omega)]; exact hr, M1⟩
 ·have hlt : zs.findIdx (apB f) < n := Decidable.by_contra fun h => h12 (if_neg h)
  refine aK (aC (aD (aD (aA (aV rfl rfl (wq (bM rfl rfl (by omega) (by omega)) rfl (aT 15 (.int .i64 ((zs.findIdx (apB f) + 1 : Nat) : Int)) (iE (by rw [if_pos hlt]; omega)) (bJ rfl rfl (aB (aC (aS ?_)))))))))))
  refine dM (σ := Nat × Nat × List (Int × Int) × dR) [0, 1, 4] (fun (j, k, zs2, en) => [(5, .int .i64 (k : Int)), (6, .int .i64 (j : Int))]) (fun (j, k, zs2, en) w' => (j ≤ n ∧ k < j ∧ zs2.take k = (zs.take j).filter (fun z => !apB f z) ∧ zs2.drop j = zs.drop j ∧ aX 119 2 A n c ((zs2).map bG) en) ∧ Mem w (bS [er, (some bn, bc [.int .i64 (m : Int)] 3), em]) [en, (some bn, bc [.int .i64 ((m + j : Nat) : Int)] 3), em] w') (fun (j, k, zs2, en) => n - j) (zs.findIdx (apB f) + 1, zs.findIdx (apB f), zs, er) (bL (iv rfl (if_pos hlt)) (bL rfl eV)) (⟨⟨by omega, by omega, aEa (by omega), rfl, hr⟩, by
   have e1 : min n (zs.findIdx (apB f) + 1) = zs.findIdx (apB f) + 1 := by omega
   rw [e1] at M1
   exact M1⟩) ?_
  rintro ⟨j, k, zs2, en⟩ ρ2 w2 ⟨⟨hj, hkj, hpre, hsuf, hz2⟩, hM2⟩
  have hl2 : zs2.length = n := by simpa using hz2.1
  refine aD (aD (aA (aV rfl rfl (eF rfl rfl (wq (cM Tryz.underlying159 rfl) rfl (cT rfl rfl rfl rfl (aB (aC ?_))))))))
  refine aW rfl (fun h19 => ?_) (fun h19 => ?_)
  ·obtain ⟨xz, hxz⟩ := cI (k := j) hlen (by omega)
   have hxz2 : zs2[j]? = some xz := (aVh hsuf).trans hxz
   obtain ⟨xk, hxk⟩ := cI (k := k) hl2 (by omega)
   refine aK (aC (aD (aS (aD (aA (eF rfl rfl (aV rfl rfl (wq (bO (j) tA rfl rfl rfl ((hz2.rd hM2 (aZ (i := 0) rfl)).below_len (aJ bG hxz2)) ((hz2.rd hM2 (aZ (i := 0) rfl)).someK (aJ bG hxz2))) rfl (wq (cZ _ fQ (hz2.rd hM2 (aZ (i := 0) rfl)) (aJ bG hxz2) rfl) rfl ?_)))))))))
   refine aR qD hM2 rfl rfl (fun b3 w3 M3 => (bC 3 _ fQ M3 rfl rfl rfl rfl rfl (aQ rfl) rfl (fun w4 M4 => (aB (aC (aD (aA (wq (aG (.func _ _ _) rfl) rfl (wq (bA 3 fQ M4 rfl rfl rfl) rfl (bV aTy rfl rfl (uT _ xz bn bm (m + j) f pm em hme (B.memY M4 hdB) (N.memY M4 hdN) (M4.ownSeg 1 2) (M4.away 1 2 B hdB) (M4.away 1 2 N hdN) (by omega)) ?_))))))))))
   rintro v5 w5 ⟨rfl, hM5⟩
   have M5 : Mem _ _ [_, _, _, _] _ := M4.seg 1 2 hM5
   refine wq (fY _ rfl rfl) rfl (aB (aC ?_))
   refine gU _ rfl (fun h29 => ?_) (fun h29 => ?_)
   ·refine aD (aA (eF rfl rfl (aV rfl rfl (wq (bA 3 fQ M5 rfl rfl rfl) rfl (wq (bO (k) tA rfl rfl rfl ((hz2.rd M5 (aZ (i := 0) rfl)).below_len (aJ bG hxk)) ((hz2.rd M5 (aZ (i := 0) rfl)).someK (aJ bG hxk))) rfl (aDa 0 _ fQ M5 rfl hz2 (aJ bG hxk) rfl rfl rfl rfl (aQ rfl) (fun e6 w6 hR6 M6 => ?_)))))))
    have hQ6 := hR6.mapSet (f := bG) (x := xz) rfl
    refine aB (aC (aA (aV rfl rfl (wq (bM rfl rfl (by omega) (by omega)) rfl (bJ rfl rfl (aB (cX ?_)))))))
    refine aC (aA (aV rfl rfl (wq (bM rfl rfl (by omega) (by omega)) rfl (bJ rfl rfl (aB ?_)))))
    refine cQ (j + 1, k + 1, zs2.set k xz, e6) (bL rfl (bL rfl eV)) (cU rfl (cU rfl (cU rfl jS))) ?_ ?_
    ·exact ⟨⟨by omega, by omega, by rw [aUc (by omega), hpre, vG hxz, if_neg (by simpa using h29)], by rw [aUs (by omega)]; exact aAy hsuf, hQ6⟩, M6.keep [true, true, true, false]⟩
    ·(show n - (j + 1) < n - j; omega)
   ·refine aK (cX (aC (aA (aV rfl rfl (wq (bM rfl rfl (by omega) (by omega)) rfl (bJ rfl rfl ?_))))))
    refine aB ?_
    refine cQ (j + 1, k, zs2, en) (bL rfl (bL rfl eV)) (cU rfl (cU rfl (cU rfl jS))) ?_ ?_
    ·exact ⟨⟨by omega, by omega, by rw [hpre, vG hxz, if_pos (by simpa using h29), List.append_nil], aAy hsuf, hz2⟩, M5.keep [true, true, true, false]⟩
    ·(show n - (j + 1) < n - j; omega)
  ·have hjn : j = n := by omega
   rw [hjn, show List.take n zs = zs from List.take_of_length_le (by omega)] at hpre
   refine cP (dA (cY (eT (aC (aD (aA (eF rfl rfl ?_)))))))
   refine aV rfl rfl (wq (fN ((k : Int)) ((n : Int)) tA rfl ⟨_, rfl⟩ rfl (by omega) (by omega) (by omega)) rfl (aRp 0 (k) tA (fun zv hz => by rw [bEw] at hz; injection hz with hz; subst hz; simp [Go.Bil.one, Value.cells]) hM2 rfl rfl hz2 (by omega) rfl (fun e7 w7 hR7 M7 => (aB (aC (aD (aA ?_)))))))
   refine eF rfl rfl (aV rfl rfl (wq (fN (0) ((k : Int)) tA rfl rfl ⟨_, rfl⟩ (by decide) (by omega) (by omega)) rfl (gC rfl rfl (aB (aC (aN (cC (.slice _ _ _) rfl ?_)))))))
   rw [hjn] at M7
   have hpf := hR7
   rw [← List.map_take, hpre] at hpf
   exact ⟨⟨_, _, _, e7⟩, rfl, hpf, M7⟩
set_option maxRecDepth 100000 in
theorem bFr : fJ Tryz.prog 191 = some (dE (List.replicate 1024 iK) 0) := by kernel_rfl
set_option maxHeartbeats 16000000 in
theorem aIh (w : World) (F : Rd w 2 (some ⟨0, 0, none⟩) 1 [[.int .u32 73856093, .int .u32 19349663]]) (N : Rd w 4 (some ⟨3, 0, none⟩) 1 [dF iY]) (A : Option Addr) (n c : Nat) (xs : List Body) (R : Rd w 10 A n (xs.map aF)) (hb : ∀ b ∈ xs, Okb b) (hs : bW xs) (hn : n ≤ 4096) :
  Calls Tryz.prog 105 #[.slice A n c] w (fun ex w' => ∃ v, ex = .returned v ∧ (fun v w' => ∃ (r : Row) (m : Nat), v = .tuple #[.slice r.A r.n r.c, .int .i64 (m : Int)] ∧ (lN xs).length ≤ m ∧ 2 * m ≤ xs.length * (xs.length - 1) ∧ aX 119 2 r.A r.n r.c ((lN xs).map bG) r.e ∧ Mem w [] [r.e] w') v w') := by
 have hlen : xs.length = n := by simpa using R.len
 have hbd := R.bound
 refine aH #[.tmp 2, .tmp 3] 37 Tryz.func105 rfl Tryz.results105 Tryz.ntmps105 rfl ?_
 have M0 := Mem.refl w
 refine aD (aA (gC rfl rfl (bJ rfl rfl (aB (aC (aD (aA (eF rfl rfl (bV bCw rfl rfl (aGe _ _ _ _ xs (R.mem M0) hb) ?_)))))))))
 rintro v1 w1 ⟨pm, em, rfl, hme, hM1⟩
 have M1 : Mem _ _ [_] _ := M0.call0 hM1
 refine wq (aI (.map _) rfl) rfl (aB (aC (aD (aA (aR bFr M1 rfl rfl (fun b2 w2 M2 => ?_))))))
 have M3 := Mem.gridNew (L := [_]) M2
 refine aB (aC (aD (aD (aA (eF rfl rfl (wq (cM Tryz.underlying22 rfl) rfl (aV rfl rfl (aB (aC (aS (dM (σ := Nat × List Row) [2, 3, 4, 5, 12, 13] (fun (k, rs) => [(14, .int .i64 (k : Int))]) (fun (k, rs) w' => (k ≤ n ∧ GridRows 36 rs (gOf (xs.take k))) ∧ Mem w [] ([em] ++ ((some b2, bc (dE rs (k : Int)) 191) :: rs.map Row.e)) w') (fun (k, rs) => n - k) (0, List.replicate 1024 iK) (bL rfl eV) (⟨⟨by omega, by rw [List.take_zero]; exact aRg _⟩, M3⟩) ?_)))))))))))
 rintro ⟨k, rs⟩ ρ4 w4 ⟨⟨hk, hrs⟩, hM4⟩
 refine aD (aA (cT rfl rfl rfl rfl (aB (aC (aD ?_)))))
 refine aW rfl (fun h15 => ?_) (fun h15 => ?_)
 ·obtain ⟨xb, hxb⟩ := cI (k := k) hlen (by omega)
  refine aK (aC (aD (aS (aD (aA (wq (bO (k) eP rfl rfl rfl ((R.mem hM4).below_len (aJ aF hxb)) ((R.mem hM4).someK (aJ aF hxb))) rfl (wq (cZ _ bP (R.mem hM4) (aJ aF hxb) rfl) rfl (aR gI hM4 rfl rfl (fun b5 w5 M5 => ?_)))))))))
  have M6 : Mem _ _ ([_, _] ++ _) _ := Mem.front (L := [_]) M5
  refine bC 1 _ bP M6 rfl rfl rfl rfl rfl (aQ rfl) rfl (fun w7 M7 => (aB (aC (aA (wq (aE 0 eZ rfl) rfl (wq (aM 1 (.int _ _) bZ M7 rfl rfl rfl) rfl (wq (aG (.map _) rfl) rfl (wq (aE 0 eZ rfl) rfl ?_))))))))
  refine wq (aM 1 (.int _ _) bZ M7 rfl rfl rfl) rfl (wq (jA (enc := qP) z0B 0 aDd aQp M7 rfl hme rfl rfl) rfl (aT 23 (.agg (dF (iI xb)).toArray) (congrArg qP (by rw [nJ hs (List.mem_of_getElem? hxb)]; rfl)) (bV bCd rfl rfl (aHx _ (F.mem M7) b2 rs (k : Int) (gOf (xs.take k)) hrs ⟨by omega, by omega⟩ (fun j _ => Nat.le_trans (aYq _ _) (by simp; omega)) xb.key (iI xb) (bAn (hb xb (List.mem_of_getElem? hxb))) (Mem.ownTail (L := [_, _]) M7) (Mem.awayTail (L := [_, _]) M7 F)) ?_)))
  rintro v8 w8 ⟨rfl, rs2, hrs2, hM8⟩
  have M8 : Mem _ _ ([_, _] ++ _) _ := Mem.tail (L := [_, _]) M7 hM8
  refine aB (cX (aC (aA (wq (bM rfl rfl (by omega) (by omega)) rfl (aV rfl rfl (aB ?_))))))
  refine cQ (k + 1, rs2) (bL rfl eV) (cU rfl (cU rfl (cU rfl (cU rfl (cU rfl (cU rfl jS)))))) ?_ ?_
  ·exact ⟨⟨by omega, by rw [aSy hxb]; exact hrs2⟩, Mem.keepL (L := [_, _]) [true, false] M8⟩
  ·(show n - (k + 1) < n - k; omega)
 ·have hkn : k = n := by omega
  rw [List.take_of_length_le (by omega)] at hrs
  refine cP (dA (cY (eT (aC (aD (aA (wq (aG (.map _) rfl) rfl ?_)))))))
  refine bV bBd rfl rfl (zO _ pm) ?_
  rintro v9 w9 ⟨bm, bn, rfl, hM9⟩
  have M9 : Mem _ _ ([_, _, _] ++ _) _ := Mem.front (L := [_]) (hM4.call0 hM9)
  refine wq (aG (.tuple (List.toArray _)) rfl) rfl (wq (bE (.func _ _ _) rfl rfl) rfl (wq (bE (.func _ _ _) rfl rfl) rfl (wq (aI (.func _ _ _) rfl) rfl (wq (aI (.func _ _ _) rfl) rfl (aB (aC (aD (aA ?_))))))))
  refine bV bDp rfl rfl (vQ _ b2 rs (k : Int) (gOf xs) hrs.len (Mem.gridRd (L := [_, _, _]) M9 hrs.len) (fun j r hr => Mem.rowRd (L := [_, _, _]) M9 hrs j r hr) (xs.map (·.key)) (fun j _ x hx => by obtain ⟨b, h1, _, rfl⟩ := nZ.1 hx; exact List.mem_map.2 ⟨b, h1, rfl⟩) (by simp; omega)) ?_
  rintro v10 w10 ⟨r, ps, hasc, hps, rfl, hr, hM10⟩
  have M10 : Mem _ _ ([_, _, _, _] ++ _) _ := Mem.front (L := [_, _, _]) (M9.call0 hM10)
  have hpl := aPl hs hasc hps
  have hrl : ps.length = r.n := by simpa using hr.1
  have hnn : xs.length * (xs.length - 1) ≤ 4096 * 4096 := Nat.mul_le_mul (by omega) (by omega)
  refine wq (aG (.func _ _ _) rfl) rfl ?_
  have M11 : Mem _ _ [_, _, _, _] _ := Mem.order4 M10
  refine bV bCr rfl rfl (rK _ r.A r.n r.c ps r.e hr bn bm 0 (bxM xs) pm em hme (lW 3 M11 rfl rfl) (N.mem M11) (M11.ownSeg 0 3) (M11.apartTake 3 3 rfl rfl) (M11.away 0 3 N (fun _ q off _ h => by simp at h)) (by omega) (by omega)) ?_
  rintro v12 w12 ⟨r2, rfl, hr2, hM12⟩
  have M12 : Mem _ _ [_, _, _, _] _ := M11.seg 0 3 hM12
  have hfl : (lN xs).length ≤ ps.length := by rw [← yF hs hasc hps]; exact List.length_filter_le _ _
  rw [yF hs hasc hps] at hr2
  refine gC rfl rfl (aB (aC (aD (aA (eF rfl rfl (wq (aG (.func _ _ _) rfl) rfl (bV bAe rfl rfl (aAa _ bn _ (lW 1 M12 rfl rfl)) ?_)))))))
  rintro v13 w13 ⟨rfl, hb13⟩
  have M13 := M12.callB hb13
  refine gC rfl rfl (bJ rfl rfl (aB (aC (aN (iD (.slice _ _ _) (.int _ _) rfl rfl ?_)))))
  exact ⟨r2, 0 + r.n, rfl, by omega, by omega, hr2, M13.keep [true, false, false, false]⟩
end Go.Proofs.YtlmcphcgiclanaaGreatDoor
