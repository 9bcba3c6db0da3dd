/- Part of the proof of the laws of this seat: P10, Q10, U11, V11, W11, Aw11. No conditions. -/
import Derived.Test.YtlmcphcgiclanaaGreatDoorK2
import Derived.Test.YtlmcphcgiclanaaGreatDoorK5
import Derived.Test.YtlmcphcgiclanaaGreatDoorK25
import Derived.Test.YtlmcphcgiclanaaGreatDoorK17
import Derived.Test.YtlmcphcgiclanaaGreatDoorK21
import Derived.Test.YtlmcphcgiclanaaGreatDoorK24
set_option linter.unusedVariables false
set_option linter.unusedSimpArgs false
set_option linter.unnecessarySimpa false
namespace Go.Proofs.YtlmcphcgiclanaaGreatDoor
open Go.Bil
open Go.RowKit (Below)
open Go.Proofs
set_option maxHeartbeats 4000000 in
theorem aNu (w : World) (a b : Int) :
  Calls Tryz.prog 167 #[.int .u32 a, .int .u32 b] w (fun ex w' => ∃ v, ex = .returned v ∧ (fun v w' => v = (.agg (bG (zD a b)).toArray) ∧ Below w.heap.size w w') v w') := by
 refine aH #[.cell 4 119] 12 Tryz.func167 rfl Tryz.results167 Tryz.ntmps167 rfl ?_
 have M0 := Mem.refl w
 refine aD (aA (aR pU M0 rfl rfl (fun b1 w1 M1 => (aB (aC (aD (aA (aV rfl rfl (aV rfl rfl (wq (xJ rfl rfl ) rfl ?_))))))))))
 refine aV rfl rfl (aV rfl rfl (wq (nJ rfl rfl ) rfl (wq (cM [(0, .int _ _), (1, .int _ _)] _ aBx rfl rfl) rfl (bB 0 _ fP M1 rfl rfl rfl rfl rfl (aQ rfl) rfl (fun w2 M2 => (aB (aC (aN ?_))))))))
 refine fT 0 fP M2 rfl rfl rfl ?_
 exact ⟨rfl, M2.below⟩
set_option maxHeartbeats 4000000 in
theorem aXj (w : World) (A : Option Addr) (x y : Int) (R : Rd w 1 A 2 [[.int .i64 x], [.int .i64 y]]) :
  Calls Tryz.prog 197 #[.slice A 2 2] w (fun ex w' => ∃ v, ex = .returned v ∧ (fun v w' => v = .int .i64 (if x = 0 then y else x) ∧ w' = w) v w') := by
 refine aH #[.tmp 2] 18 Tryz.func197 rfl Tryz.results197 Tryz.ntmps197 rfl ?_
 have M0 := Mem.refl w
 refine aD (aA (bI rfl rfl (aB (aC (aD (aA (bI rfl rfl (aB (aC (aD (aD (aA (eF rfl rfl ?_)))))))))))))
 refine wq (cK Tryz.underlying302 rfl) rfl (aS 7 (.int .i64 2) (iE rfl) (aV rfl rfl (aB (aC (aT (lE 3 (gX (aD (aA ?_)))))))))
 refine cS rfl rfl rfl rfl (lC 9 rfl (by first | decide | omega) (aB (aC (aD (cO rfl (aL (aC (aD (aT (aD (aA (wq (bQ (0) aUf rfl rfl rfl (R.below_len ((rfl : ([[.int .i64 x], [.int .i64 y]] : List (List Value))[0]? = some [.int .i64 x]))) (R.someK ((rfl : ([[.int .i64 x], [.int .i64 y]] : List (List Value))[0]? = some [.int .i64 x])))) rfl ?_))))))))))))
 refine wq (gU (.int _ _) kE R ((rfl : ([[.int .i64 x], [.int .i64 y]] : List (List Value))[0]? = some [.int .i64 x])) rfl) rfl (bI rfl rfl (aB (aC (aD (aA (aV rfl rfl (aV rfl rfl (cS rfl rfl rfl rfl ?_))))))))
 refine aB (aC ?_)
 refine aW rfl (fun h14 => ?_) (fun h14 => ?_)
 ·refine aD (aA (aV rfl rfl (bI rfl rfl (aB (aC (aN (gZ (cC (cC ?_)))))))))
  refine gZ (cC (cA (.int _ _) rfl ?_))
  exact ⟨iE (by split <;> omega), rfl⟩
 ·refine aL (cV (aC (aA (wq (bM rfl rfl (by first | decide | omega) (by first | decide | omega)) rfl (aS 16 (.int .i64 1) (iE (by first | decide | omega)) (aV rfl rfl ?_))))))
  refine aB (aC (gX (aD (aA (cS rfl rfl rfl rfl (lC 9 rfl (by first | decide | omega) (aB (aC (aD ?_)))))))))
  refine cO rfl (aL (aC (aD (aT (aD (aA (wq (bQ (1) aUf rfl rfl rfl (R.below_len ((rfl : ([[.int .i64 x], [.int .i64 y]] : List (List Value))[1]? = some [.int .i64 y]))) (R.someK ((rfl : ([[.int .i64 x], [.int .i64 y]] : List (List Value))[1]? = some [.int .i64 y])))) rfl (wq (gU (.int _ _) kE R ((rfl : ([[.int .i64 x], [.int .i64 y]] : List (List Value))[1]? = some [.int .i64 y])) rfl) rfl ?_))))))))
  refine bI rfl rfl (aB (aC (aD (aA (aV rfl rfl (aV rfl rfl (cS rfl rfl rfl rfl (aB (aC ?_)))))))))
  refine aW rfl (fun h14 => ?_) (fun h14 => ?_)
  ·refine aD (aA (aV rfl rfl (bI rfl rfl (aB (aC (aN (gZ (cC (cC ?_)))))))))
   refine gZ (cC (cA (.int _ _) rfl ?_))
   exact ⟨iE (by split <;> omega), rfl⟩
  ·refine aL (cV (aC (aA (wq (bM rfl rfl (by first | decide | omega) (by first | decide | omega)) rfl (aS 16 (.int .i64 2) (iE (by first | decide | omega)) (aV rfl rfl ?_))))))
   refine aB (aC (gX (aD (aA (cS rfl rfl rfl rfl (uQ 9 rfl (by first | decide | omega) (aB (aC (aD ?_)))))))))
   refine cD rfl (cN (cX (cX (eT (aC (aD (aA (aV rfl rfl ?_))))))))
   refine bI rfl rfl (aB (aC (aN (cA (.int _ _) rfl ?_))))
   exact ⟨iE (by split <;> omega), rfl⟩
set_option maxHeartbeats 4000000 in
theorem aDy (a b : Int × Int) (w : World) :
  Calls Tryz.prog 170 #[(.agg (bG a).toArray), (.agg (bG b).toArray)] w (fun ex w' => ∃ v, ex = .returned v ∧ (fun v w' => v = .int .i64 (aNy a b) ∧ ∃ q os, w' = Go.Sort.grow (w.drewN q) os) v w') := by
 refine aH #[.tmp 4] 17 Tryz.func170 rfl Tryz.results170 Tryz.ntmps170 rfl ?_
 have M0 := Mem.refl w
 refine aD (aA (vS (.agg (List.toArray _)) M0 rfl rfl rfl (fun M1 => (vS (.agg (List.toArray _)) M1 rfl rfl rfl (fun M2 => (bI rfl rfl (aB (aC (aD (aXt [(0, 0), (1, 1), (2, 0), (3, 1), (5, 0), (6, 1), (7, 0), (8, 1), (4, 2), (9, 2), (10, 2), (11, 2), (12, 0)] mixed rfl (by kernel_rfl) ?_))))))))))
 have M3 := M2.drewE
 refine aY rfl rfl rfl (fun _ => aE 0 mV rfl) (cB rfl rfl rfl (aM 0 (.int _ _) bW M3 rfl rfl rfl) (aY rfl rfl rfl (fun _ => aE 0 mV rfl) (cB rfl rfl rfl (aM 1 (.int _ _) bW M3 rfl rfl rfl) (aY rfl rfl rfl (fun _ => aE 1 mT rfl) (cB rfl rfl rfl (aM 0 (.int _ _) bW M3 rfl rfl rfl) ?_)))))
 refine aY rfl rfl rfl (fun _ => aE 1 mT rfl) (cB rfl rfl rfl (aM 1 (.int _ _) bW M3 rfl rfl rfl) (dO [false, false, true, true] rfl (by kernel_rfl) (bX aLw rfl rfl (jX _ _ _) ?_)))
 rintro v4 w4 ⟨rfl, rfl⟩
 have M4 : Mem _ _ [_, _] _ := M3
 refine aB (aC ⟨(eQ (bO rfl (aM 1 (.int _ _) bW M4 rfl rfl rfl)) (eQ (bO rfl (aM 0 (.int _ _) bW M4 rfl rfl rfl)) dN)), ?_⟩)
 refine dO [true, true] rfl (by kernel_rfl) (bX aLw rfl rfl (jX _ _ _) ?_)
 rintro v5 w5 ⟨rfl, rfl⟩
 have M5 : Mem _ _ [_, _] _ := M4
 refine aB (aC ⟨dN, ?_⟩)
 refine dO [] rfl (by kernel_rfl) (aJm [.int _ _, .int _ _] [[.int .i64 (lD a.1 b.1)], [.int .i64 (lD a.2 b.2)]] rfl aUf M5 rfl rfl rfl rfl (dH rfl) (by decide) (fun M6 => ?_))
 refine aB (aC ⟨dN, ?_⟩)
 refine dO [] rfl (by kernel_rfl) (bX bCn rfl rfl (aXj _ _ _ _ ((jI (T := 3) [[.int .i64 (lD a.1 b.1)], [.int .i64 (lD a.2 b.2)]] (by simp) rfl (show 2 ≤ 281474976710656 by decide)).rd M6 (bC (i := 2) rfl))) ?_)
 rintro v7 w7 ⟨rfl, rfl⟩
 have M7 : Mem _ _ [_, _, _] _ := M6
 refine aB (aC ⟨dN, ?_⟩)
 refine pW rfl rfl rfl (cF (aC (aN (cA (.int _ _) rfl ?_))))
 exact ⟨iE rfl, bFg _ _ _ _⟩
theorem aQr : aMg Tryz.prog 170 bG aNy := fun x y w => aDy x y w
theorem aSq : KeyT Tryz.prog 230 119 231 bG := by
 refine ⟨Tryz.underlying230, ⟨_, Tryz.underlying119⟩, fun a w => ?_, fun a b w => ?_, fun a => by simp [bG, Instr.sameBits]⟩
 ·have h42 := bA (w := w) Tryz.underlying119
  have hc : ∀ x : Int, (Instr.checkKey false 9999 36 (.int .u32 x)).run Tryz.prog w = .ok () w := fun x => MapKept.run_checkKey (d := .int .u32) Tryz.underlying36 (by simp [MapKept.IsKey]) false 9998
  have p0 : (Go.part 36 #[.int .u32 a.1, .int .u32 a.2] 0).run Tryz.prog w = .ok (.int .u32 a.1) w := jD (l := [.int .u32 a.1, .int .u32 a.2]) bW rfl
  have p1 : (Go.part 36 #[.int .u32 a.1, .int .u32 a.2] 1).run Tryz.prog w = .ok (.int .u32 a.2) w := jD (l := [.int .u32 a.1, .int .u32 a.2]) bW rfl
  show (Instr.checkKey false (9999 + 1) 119 _).run _ w = _
  unfold Instr.checkKey
  simp only [Sem.run_bind, h42, Result.andThen_ok, bG]
  simp [p0, p1, hc, Sem.run_bind, Sem.run_pure]
 ·have h := (bCq a.1 a.2 b.1 b.2).2 w
  have e : decide (a.1 = b.1 ∧ a.2 = b.2) = decide (a = b) := decide_eq_decide.2 Prod.ext_iff.symm
  rw [e] at h
  exact h
theorem yI (w : World) (A : Option Addr) (n c : Nat) (xs : List (Int × Int)) (e : dP) (hR : aX 119 2 A n c (xs.map bG) e) (hw : Own [e] w) (hn : n ≤ 1099511627776) :
  Calls Tryz.prog 195 #[.slice A n c, .func (.func 170) #[] #[]] w (fun ex w' => ∃ v, ex = .returned v ∧ v = .tuple #[] ∧ ∃ (ys : List (Int × Int)) (e' : dP), ys.Perm xs ∧ (ys.Pairwise fun a b => ¬ ltP b a) ∧ aX 119 2 A n c (ys.map bG) e' ∧ Mem w (bU [e]) [e'] w') := by
 have h := qI aMm (T := 119) fP bG zO (fun x v hv => by simp only [bG, List.mem_cons, List.not_mem_nil, or_false] at hv; rcases hv with h | h <;> subst h <;> rfl) _ aTl 170 bBs aQr w A xs e hR hw (by omega)
 refine Calls.mono h ?_
 rintro ex w' ⟨v, h1, h2, ys, e', h3, h4, h5, h6⟩
 refine ⟨v, h1, h2, ys, e', h3, ?_, h5, h6⟩
 refine List.pairwise_iff_getElem.2 fun i j hi hj hij => ?_
 have := h4 i j _ _ hij (List.getElem?_eq_getElem hi) (List.getElem?_eq_getElem hj)
 have h := of_decide_eq_false this
 rwa [aFl] at h
set_option maxHeartbeats 4000000 in
theorem aJz (w : World) (mb : Nat) :
  Calls Tryz.prog 169 #[.map (some mb)] w (fun ex w' => ∃ v, ex = .returned v ∧ (fun v w' => ∃ bb, v = .func (.func 196) #[] #[.pointer (some ⟨bb, 0, none⟩)] ∧ Mem w [] [(some bb, bc [.map (some mb)] 230)] w') v w') := by
 refine aH #[.tmp 2] 4 Tryz.func169 rfl Tryz.results169 Tryz.ntmps169 rfl ?_
 have M0 := Mem.refl w
 refine aD (aA (bJ (.map _) M0 rfl rfl rfl (fun b1 w1 M1 => (wq (aI (_) rfl) rfl (aB (aC (aD (aA (wq (cP [] [.pointer _] rfl rfl) rfl (wq (aI (.func _ _ _) rfl) rfl ?_))))))))))
 refine aB (aC (aN (cA (.func _ _ _) rfl ?_)))
 exact ⟨b1, rfl, M1⟩
set_option maxHeartbeats 4000000 in
theorem aEz (w : World) (bb : Nat) (mb clock : Nat) (L : List ((Int × Int) × Nat)) (hmb : w.heap[mb]? = some (iD bG L clock)) (hml : mb < w.heap.size) (hS : SetOk L clock) (hLN : L.length < 1099511627776) (B1 : Rd w 1 (some ⟨bb, 0, none⟩) 1 [[.map (some mb)]]) (lp ob : Nat) (rec : Loop) (hY : sI Tryz.prog lp ob rec 159 119 2 1099511627776 (fun x => ∃ a b, x = [.int .u32 a, .int .u32 b])) (r0 : Row) (hr0 : aX 119 2 r0.A r0.n r0.c [] r0.e) (hO : Own [(some lp, .loop rec), (some ob, bc [.slice r0.A r0.n r0.c] 159), r0.e] w) (hd1 : 0 < 1 → ∀ q off, (some ⟨bb, 0, none⟩ : Option Addr) = some ⟨q, off, none⟩ → q ∉ bU [(some lp, .loop rec), (some ob, bc [.slice r0.A r0.n r0.c] 159), r0.e]) (hmX : mb ∉ bU [(some lp, .loop rec), (some ob, bc [.slice r0.A r0.n r0.c] 159), r0.e]) :
  Calls Tryz.prog 196 #[.func (.yield lp) #[] #[], .pointer (some ⟨bb, 0, none⟩)] w (fun ex w' => ∃ v, ex = .returned v ∧ (fun v w' => v = .tuple #[] ∧ ∃ (r : Row) (T : List ((Int × Int) × Nat)), T.Perm L ∧ aX 119 2 r.A r.n r.c ((T.map (fun z => z.1)).map bG) r.e ∧ Mem w (bU [(some lp, .loop rec), (some ob, bc [.slice r0.A r0.n r0.c] 159), r0.e]) [(some lp, .loop rec), (some ob, bc [.slice r.A r.n r.c] 159), r.e] w') v w') := by
 rw [← eN bb]
 refine aH #[] 14 Tryz.func196 rfl Tryz.results196 Tryz.ntmps196 rfl ?_
 have M0 := hO.mem
 refine aD (aA (wq (eJ (o := 0) (.map _) aZw (B1.memY M0 hd1) (show ([[.map (some mb)]] : List (List Value))[0]? = some ([.map (some mb)]) from rfl) rfl rfl) rfl (aUx (α := Int × Int) Tryz.underlying230 M0 rfl rfl rfl ((M0.old mb hml hmX).trans hmb) (fun b1 w1 M1 => (aB (aC (aT ?_)))))))
 refine dI (σ := List ((Int × Int) × Nat) × Row) [0, 5] (fun (T, r) => []) (fun (T, r) w' => ((∀ p ∈ T, p ∈ L) ∧ (T.map (·.2)).Nodup ∧ aX 119 2 r.A r.n r.c ((T.map (fun z => z.1)).map bG) r.e) ∧ Mem w (bU [(some lp, .loop rec), (some ob, bc [.slice r0.A r0.n r0.c] 159), r0.e]) [(some lp, .loop rec), (some ob, bc [.slice r.A r.n r.c] 159), r.e, (some b1, sQ mb clock T)] w') (fun (T, r) => L.length - T.length) ([], r0) eV (⟨⟨(fun p hp => nomatch hp), by simp, hr0⟩, M1⟩) ?_
 rintro ⟨T, r⟩ ρ2 w2 ⟨⟨hTs, hTn, hr⟩, hM2⟩
 have hrl : T.length = r.n := by simpa using hr.1
 have hTl := aFi hTn hTs
 refine aD (aA ?_)
 refine aVl (enc := bG) 3 hM2 rfl rfl rfl rfl ((hM2.old mb hml hmX).trans hmb) hS.lt (fun hover => ?_) (fun p3 w3 hp3 hnp3 M3 => ?_)
 ·refine wq (bE (.bool false) rfl rfl) rfl (aB (aC (aD (cD rfl (cN (cX (cW ?_)))))))
  refine eT (iN ?_)
  exact ⟨rfl, r, T, aPt hS.nd hTn hTs hover, hr, hM2.keep [true, true, true, false]⟩
 ·refine wq (bE (.bool true) rfl rfl) rfl (aB (aC (aD (cO rfl (aL (aC (aT (aD (aA (wq (aXr (enc := bG) 3 (p3) M3 rfl rfl ((M3.old mb hml hmX).trans hmb) hp3 hS.nd) rfl (wq (bE (.agg (List.toArray _)) rfl rfl) rfl ?_)))))))))))
  refine aR pU M3 rfl rfl (fun b4 w4 M4 => (bB 4 _ fP M4 rfl rfl rfl rfl rfl (aQ rfl) rfl (fun w5 M5 => (aB (aC (aD (aCa (aBc (aG (.func _ _ _) rfl) rfl rfl (aBc (aZ 4 fP M5 rfl rfl rfl) rfl rfl ?_)))))))))
  obtain ⟨fy, ty, ay, by1, hy1, hy2⟩ := hY _ r ((T.map (fun z => z.1)).map bG) (bG p3.1) ⟨_, _, rfl⟩ (by omega) hr (M5.ownSeg 0 3)
  refine aBd rfl rfl rfl rfl hy1 (hy2.mono ?_)
  rintro _ w6 ⟨rfl, q6, hqn6, hq6, hM6⟩
  have M6 : Mem _ _ [_, _, _, _, _] _ := M5.seg 0 3 hM6
  refine ⟨_, rfl, ?_⟩
  refine aQs rfl (fun _ _ h => h) (wq (gS false rfl rfl) rfl (aB (aC (cD rfl (aL (cV ?_))))))
  have hTs2 : ∀ p ∈ T ++ [p3], p ∈ L := fun p hp => (List.mem_append.1 hp).elim (hTs p) (fun h => by rw [List.mem_singleton] at h; rw [h]; exact hp3)
  have hTn2 := aPe hTn hnp3
  have hTl2 := aFi hTn2 hTs2
  rw [List.length_append, List.length_singleton] at hTl2
  refine cQ (T ++ [p3], q6) eV (cU rfl (cU rfl jW)) ?_ ?_
  ·exact ⟨⟨hTs2, hTn2, by rw [List.map_append, List.map_append]; exact hq6⟩, M6.keep [true, true, true, true, false]⟩
  ·(show L.length - (T ++ [p3]).length < L.length - T.length; rw [List.length_append, List.length_singleton]; omega)
set_option maxHeartbeats 4000000 in
theorem sD (w : World) (bb : Nat) (mb clock : Nat) (L : List ((Int × Int) × Nat)) (hmb : w.heap[mb]? = some (iD bG L clock)) (hml : mb < w.heap.size) (hS : SetOk L clock) (hLN : L.length < 1099511627776) (B1 : Rd w 1 (some ⟨bb, 0, none⟩) 1 [[.map (some mb)]]) :
  Calls Tryz.prog 218 #[.slice none 0 0, .func (.func 196) #[] #[.pointer (some ⟨bb, 0, none⟩)]] w (fun ex w' => ∃ v, ex = .returned v ∧ (fun v w' => ∃ (r : Row) (T : List ((Int × Int) × Nat)), T.Perm L ∧ v = .slice r.A r.n r.c ∧ aX 119 2 r.A r.n r.c ((T.map (fun z => z.1)).map bG) r.e ∧ Mem w [] [r.e] w') v w') := by
 refine uV #[.tmp 4] 13 Tryz.func218 rfl Tryz.results218 Tryz.ntmps218 rfl ?_
 have M0 := Mem.refl w
 refine nK (kY (bJ (.slice _ _ _) M0 rfl rfl rfl (fun b1 w1 M1 => (gB rfl rfl (aB (nQ ?_))))))
 refine nK (nK (kY (wq (aG (.func _ _ _) rfl) rfl (aB (nQ ?_)))))
 refine aFk ?_
 have M2 : Mem _ _ [_, _] _ := M1.dummy default
 refine aEm bCc M2 rfl (fun fnn B lp tmps w1 hρ hn M1 => ?_)
 refine xQ (P := Tryz.prog) (ob := b1) (Tsl := 159) (Te := 119) (sz := 2) (N := 1099511627776) (ok := (fun x => ∃ a b, x = [.int .u32 a, .int .u32 b])) M1 ?_ (fun hY => ?_)
 ·intro wr r ls x hok hlt hrow hO
  obtain ⟨xa, xb, rfl⟩ := hok
  refine ⟨_, _, _, _, aGi hO rfl rfl rfl hn (by decide) hρ ?_⟩
  have MR0 := hO.mem
  refine pM rfl (fun _ _ h => nomatch h.1) (aR pU MR0 rfl rfl (fun b3 w3 M3 => (bB 3 _ fP M3 rfl rfl rfl rfl rfl (aQ rfl) rfl (fun w4 M4 => (aB ?_)))))
  refine ⟨rfl, _, M4, rfl, fun w5 M5 => ?_⟩
  refine aFh (pM rfl (fun _ _ h => nomatch h.1) (wq (aM 1 (.slice _ _ _) aIp M5 rfl rfl rfl) rfl (wq (aZ 3 fP M5 rfl rfl rfl) rfl (cZ [.agg (List.toArray _)] [[.int .u32 xa, .int .u32 xb]] rfl rJ M5 rfl rfl rfl rfl (dH rfl) (by decide) (fun b6 w6 M6 => (eG 2 [[.int .u32 xa, .int .u32 xb]] rJ M6 rfl rfl rfl rfl rfl hrow rfl (by simp [Go.Bil.one]) (dB.ofMem 4 M6 rfl) (by omega) (fun A7 c7 e7 w7 M7 hR7 => ?_)))))))
  refine dE 1 (.slice _ _ _) aIp M7 rfl rfl rfl rfl rfl rfl (fun w8 M8 => (aB (cV ?_)))
  refine ⟨rfl, _, M8, rfl, fun w9 M9 => ?_⟩
  exact ⟨⟨A7, r.n + 1, c7, e7⟩, rfl, hR7, M9.keep [true, true, true, false, false]⟩
 ·refine (aEz _ bb mb clock L ((M1.old mb hml List.not_mem_nil).trans hmb) (Nat.lt_of_lt_of_le hml M1.size) hS hLN (B1.mem M1) lp b1 _ hY ⟨none, 0, 0, (none, default)⟩ (aX.nil _ _ _) (M1.ownSeg 0 3) (M1.away 0 3 B1 (fun _ q off _ h => by simp at h)) (M1.notNew 3 hml)).mono ?_
  rintro _ w5 ⟨v5, rfl, rfl, r, T, hT, hr, hM⟩
  have M5 : Mem _ _ (_ :: [_, _, _]) _ := M1.seg 0 3 hM
  refine ⟨_, rfl, _, M5, fun w6 M6 => ?_⟩
  refine aYr (nQ (nK (aBv (aKr (aM 1 (.slice _ _ _) aIp M6 rfl rfl rfl) rfl rfl (aKr (aI (.slice _ _ _) rfl) rfl rfl ?_)))))
  refine aLs (nQ (aQq (aZe (i := 3) (.slice _ _ _) rfl M6 rfl (fun w9 M9 => ?_))))
  exact ⟨r, T, hT, rfl, hr, M9.keep [false, false, true, false]⟩
set_option maxHeartbeats 4000000 in
theorem uY (w : World) (bb : Nat) (mb clock : Nat) (L : List ((Int × Int) × Nat)) (hmb : w.heap[mb]? = some (iD bG L clock)) (hml : mb < w.heap.size) (hS : SetOk L clock) (hLN : L.length < 1099511627776) (B1 : Rd w 1 (some ⟨bb, 0, none⟩) 1 [[.map (some mb)]]) :
  Calls Tryz.prog 194 #[.func (.func 196) #[] #[.pointer (some ⟨bb, 0, none⟩)]] w (fun ex w' => ∃ v, ex = .returned v ∧ (fun v w' => ∃ (r : Row) (T : List ((Int × Int) × Nat)), T.Perm L ∧ v = .slice r.A r.n r.c ∧ aX 119 2 r.A r.n r.c ((T.map (fun z => z.1)).map bG) r.e ∧ Mem w [] [r.e] w') v w') := by
 refine aH #[.tmp 2] 5 Tryz.func194 rfl Tryz.results194 Tryz.ntmps194 rfl ?_
 have M0 := Mem.refl w
 refine aD (aA (gB rfl rfl (aB (aC (aD (aA (wq (aG (.func _ _ _) rfl) rfl (bX bCm rfl rfl (sD _ bb mb clock L ((M0.old mb hml List.not_mem_nil).trans hmb) (Nat.lt_of_lt_of_le hml M0.size) hS hLN (B1.mem M0)) ?_))))))))
 rintro v1 w1 ⟨r, T, hT, rfl, hr, hM1⟩
 have M1 : Mem _ _ [_] _ := M0.call0 hM1
 refine gB rfl rfl (aB (aC (aN (cA (.slice _ _ _) rfl ?_))))
 exact ⟨r, T, hT, rfl, hr, M1⟩
set_option maxHeartbeats 4000000 in
theorem rB (w : World) (bb : Nat) (mb clock : Nat) (L : List ((Int × Int) × Nat)) (hmb : w.heap[mb]? = some (iD bG L clock)) (hml : mb < w.heap.size) (hS : SetOk L clock) (hLN : L.length < 1099511627776) (B1 : Rd w 1 (some ⟨bb, 0, none⟩) 1 [[.map (some mb)]]) :
  Calls Tryz.prog 168 #[.func (.func 196) #[] #[.pointer (some ⟨bb, 0, none⟩)], .func (.func 170) #[] #[]] w (fun ex w' => ∃ v, ex = .returned v ∧ (fun v w' => ∃ (r : Row) (ys : List (Int × Int)), Asc ys ∧ (∀ z, z ∈ ys ↔ z ∈ L.map (·.1)) ∧ v = .slice r.A r.n r.c ∧ aX 119 2 r.A r.n r.c ((ys).map bG) r.e ∧ Mem w [] [r.e] w') v w') := by
 refine aH #[.tmp 4] 12 Tryz.func168 rfl Tryz.results168 Tryz.ntmps168 rfl ?_
 have M0 := Mem.refl w
 refine aD (aA (gB rfl rfl (aB (aC (aD (aA (wq (aG (.func _ _ _) rfl) rfl (bX bBt rfl rfl (uY _ bb mb clock L ((M0.old mb hml List.not_mem_nil).trans hmb) (Nat.lt_of_lt_of_le hml M0.size) hS hLN (B1.mem M0)) ?_))))))))
 rintro v1 w1 ⟨r, T, hT, rfl, hr, hM1⟩
 have M1 : Mem _ _ [_] _ := M0.call0 hM1
 have hrl : T.length = r.n := by simpa using hr.1
 have hTL := hT.length_eq
 refine gB rfl rfl (aB (aC (aD (aA (eF rfl rfl (wq (aG (.func _ _ _) rfl) rfl (bX bAb rfl rfl (yI _ _ _ _ (T.map (fun z => z.1)) _ hr (M1.ownAt (i := 0) rfl) (by omega)) ?_)))))))
 rintro v2 w2 ⟨rfl, ys, e2, hpp, huu, hR2, hM2⟩
 have M2 : Mem _ _ [_] _ := M1.seg 0 1 hM2
 refine aB (aC (aD (aA (eF rfl rfl (gB rfl rfl (aB (aC (aN (cA (.slice _ _ _) rfl ?_)))))))))
 have hpl : ys.Perm (L.map (·.1)) := hpp.trans (hT.map _)
 exact ⟨⟨r.A, r.n, r.c, e2⟩, ys, bBp (hpl.nodup_iff.2 hS.keys) huu, fun z => hpl.mem_iff, rfl, hR2, M2⟩
set_option maxHeartbeats 16000000 in
theorem vB (w : World) (b : Nat) (rs : List Row) (cnt : Int) (g : Nat → List Int) (hlen : rs.length = 1024) (G : Rd w 1025 (some ⟨b, 0, none⟩) 1 [dC rs cnt]) (hrow : ∀ (j : Nat) (r : Row), rs[j]? = some r → Rd w 1 r.A r.n ((g j).map eZ) ∧ r.n ≤ r.c) (ks : List Int) (hks : ∀ j, j < 1024 → ∀ x ∈ g j, x ∈ ks) (hkl : ks.length ≤ 65536) :
  Calls Tryz.prog 136 #[.pointer (some ⟨b, 0, none⟩)] w (fun ex w' => ∃ v, ex = .returned v ∧ (fun v w' => ∃ (r : Row) (ps : List (Int × Int)), Asc ps ∧ (∀ z, z ∈ ps ↔ z ∈ mL g 1024) ∧ v = .slice r.A r.n r.c ∧ aX 119 2 r.A r.n r.c ((ps).map bG) r.e ∧ Mem w [] [r.e] w') v w') := by
 rw [← eN b]
 refine aH #[.tmp 2] 49 Tryz.func136 rfl Tryz.results136 Tryz.ntmps136 rfl ?_
 have M0 := Mem.refl w
 refine aD (aA (gB rfl rfl (aB (aC (aD (aD (aA (wq (aG (sU _ _) rfl) rfl (wq (aHi Tryz.underlying222 (G.mem M0) (show ([dC rs cnt] : List (List Value))[0]? = some (dC rs cnt) from rfl) rfl) rfl (aB (aC ?_)))))))))))
 refine cD rfl (aL (aC (aD (aA (lF M0 rfl rfl (fun b1 w1 M1 => (wq (aI (.map _) rfl) rfl (aB (aC (aD (aD (aA (wq (aG (sU _ _) rfl) rfl ?_)))))))))))))
 refine wq (aFy (G.mem M1) (Nat.lt_of_le_of_lt (Nat.zero_le _) ((G.mem M1).below_len (show ([dC rs cnt] : List (List Value))[0]? = some (dC rs cnt) from rfl))) rfl) rfl (wq (bP 0 wU (G.mem M1) (Nat.lt_of_le_of_lt (Nat.zero_le _) ((G.mem M1).below_len (show ([dC rs cnt] : List (List Value))[0]? = some (dC rs cnt) from rfl))) rfl) rfl ?_)
 refine wq (xN (o := 0) (rs.map (fun r => Value.slice r.A r.n r.c)) bBe (G.mem M1) (show ([dC rs cnt] : List (List Value))[0]? = some (dC rs cnt) from rfl) rfl (aFt hlen) (by simp [hlen])) rfl (aV rfl rfl (aB (aC (aT (dI (σ := Nat × Nat × List ((Int × Int) × Nat)) [2, 3, 16] (fun (i, c0, L0) => [(17, .int .i64 (i : Int))]) (fun (i, c0, L0) w' => i ≤ 1024 ∧ (SetOk L0 c0 ∧ ∀ z, z ∈ L0.map (fun z => z.1) ↔ z ∈ mL g i) ∧ Mem w [] [(some b1, iD bG L0 c0)] w') (fun (i, c0, L0) => 1024 - i) (0, 0, []) (bK rfl eV) (⟨by omega, ⟨SetOk.nil, fun z => by simp [mL]⟩, M1⟩) ?_)))))
 rintro ⟨i, c0, L0⟩ ρ2 w2 ⟨hi, ⟨hS0, hI0⟩, hM2⟩
 refine aD (aA (cS rfl rfl rfl rfl (aB (aC (aD ?_)))))
 refine aW rfl (fun h18 => ?_) (fun h18 => ?_)
 ·obtain ⟨rj, hrj⟩ := cE (xs := rs) (k := i) hlen (by omega)
  obtain ⟨Rj, hcj⟩ := hrow i rj hrj
  have hlj : (g i).length = rj.n := by simpa using Rj.len
  have hbj := Rj.bound
  refine aL (aC (aD (aT (aD (aA (wq (tH (i) (.slice rj.A rj.n rj.c) aJp aEf rfl rfl (by omega) (by omega) rfl (by rw [kD]; exact aJ _ hrj)) rfl (gB rfl rfl (aB (aC (aD (aA (eF rfl rfl (wq (cK Tryz.underlying188 rfl) rfl ?_)))))))))))))
  refine aV rfl rfl (aB (aC (aT (dI (σ := Nat × Nat × List ((Int × Int) × Nat)) [2, 3, 5, 16, 17, 20, 21] (fun (p, c2, L2) => [(22, .int .i64 (p : Int))]) (fun (p, c2, L2) w' => p ≤ rj.n ∧ (SetOk L2 c2 ∧ ∀ z, z ∈ L2.map (fun z => z.1) ↔ z ∈ mL g i ++ uD (g i) p) ∧ Mem w [] [(some b1, iD bG L2 c2)] w') (fun (p, c2, L2) => rj.n - p) (0, c0, L0) (bK rfl eV) (⟨by omega, ⟨hS0, fun z => by rw [hI0 z]; simp [uD]⟩, hM2⟩) ?_))))
  rintro ⟨p, c2, L2⟩ ρ3 w3 ⟨hp, ⟨hS2, hI2⟩, hM3⟩
  refine aD (aA (cS rfl rfl rfl rfl (aB (aC (aD ?_)))))
  refine aW rfl (fun h23 => ?_) (fun h23 => ?_)
  ·obtain ⟨xa, hxa⟩ := cE (xs := g i) (k := p) hlj (by omega)
   refine aL (aC (aD (aT (aD (aA (aV rfl rfl (wq (bQ (p) aHg rfl rfl rfl ((Rj.mem hM3).below_len (aJ eZ hxa)) ((Rj.mem hM3).someK (aJ eZ hxa))) rfl (wq (gU (.int _ _) bW (Rj.mem hM3) (aJ eZ hxa) rfl) rfl (bI rfl rfl (bI rfl rfl ?_))))))))))
   refine aB (aC (aD (aA (eF rfl rfl (aV rfl rfl (wq (fM (0) ((p : Int)) aHg rfl rfl ⟨_, rfl⟩ (by decide) (by omega) (by omega)) rfl (wq (cK Tryz.underlying188 rfl) rfl (aV rfl rfl ?_))))))))
   refine aB (aC (aT (dI (σ := Nat × Nat × List ((Int × Int) × Nat)) [2, 3, 5, 7, 16, 17, 20, 21, 22, 29, 30] (fun (q, c4, L4) => [(31, .int .i64 (q : Int))]) (fun (q, c4, L4) w' => q ≤ p ∧ (SetOk L4 c4 ∧ ∀ z, z ∈ L4.map (fun z => z.1) ↔ z ∈ (mL g i ++ uD (g i) p) ++ vA xa ((g i).take q)) ∧ Mem w [] [(some b1, iD bG L4 c4)] w') (fun (q, c4, L4) => p - q) (0, c2, L2) (bK rfl eV) (⟨by omega, ⟨hS2, fun z => by rw [hI2 z]; simp [vA]⟩, hM3⟩) ?_)))
   rintro ⟨q, c4, L4⟩ ρ4 w4 ⟨hq, ⟨hS4, hI4⟩, hM4⟩
   refine aD (aA (cS rfl rfl rfl rfl (aB (aC (aD ?_)))))
   refine aW rfl (fun h32 => ?_) (fun h32 => ?_)
   ·obtain ⟨xb, hxb⟩ := cE (xs := g i) (k := q) hlj (by omega)
    refine aL (aC (aD (aT (aD (aA (wq (bQ (q) aHg rfl rfl rfl (((Rj.mem hM4).sub 0 p (by omega) (by omega) hcj).below_len (yH hxb (by omega))) (((Rj.mem hM4).sub 0 p (by omega) (by omega) hcj).someK (yH hxb (by omega)))) rfl (wq (gU (.int _ _) bW ((Rj.mem hM4).sub 0 p (by omega) (by omega) hcj) (yH hxb (by omega)) rfl) rfl ?_)))))))
    refine bI rfl rfl (aB (aC (aD (aA (aV rfl rfl (aV rfl rfl (cS rfl rfl rfl rfl (aB (aC ?_)))))))))
    refine aW rfl (fun h37 => ?_) (fun h37 => ?_)
    ·refine aA (wq (aG (.map _) rfl) rfl (aV rfl rfl (aV rfl rfl (bX bAa rfl rfl (aNu _ xa xb) ?_))))
     rintro v5 w5 ⟨rfl, hb5⟩
     have M5 := hM4.callB hb5
     refine wq (cM [] _ aMp rfl rfl) rfl (aNh (enc := bG) 0 (zD xa xb) aSq M5 rfl rfl hS4 rfl rfl rfl (fun L6 c6 w6 hS6 hZ6 hN6 M6 => (aB (cV (aC (aA (wq (bM rfl rfl (by omega) (by omega)) rfl ?_)))))))
     refine aV rfl rfl (aB ?_)
     refine cQ (q + 1, c6, L6) (bK rfl eV) (cU rfl (cU rfl (cU rfl (cU rfl (cU rfl (cU rfl (cU rfl (cU rfl (cU rfl (cU rfl (cU rfl jW))))))))))) ?_ ?_
     ·exact ⟨by omega, ⟨hS6, aPg hZ6 hI4 hxb h37⟩, M6⟩
     ·(show p - (q + 1) < p - q; omega)
    ·refine aL (cV (aC (aA (wq (bM rfl rfl (by omega) (by omega)) rfl (aV rfl rfl (aB ?_))))))
     refine cQ (q + 1, c4, L4) (bK rfl eV) (cU rfl (cU rfl (cU rfl (cU rfl (cU rfl (cU rfl (cU rfl (cU rfl (cU rfl (cU rfl (cU rfl jW))))))))))) ?_ ?_
     ·exact ⟨by omega, ⟨hS4, aPm hI4 hxb h37⟩, hM4⟩
     ·(show p - (q + 1) < p - q; omega)
   ·have hqp : q = p := by omega
    refine cN (cX (cW (eT (cV (aC (aA ?_))))))
    refine wq (bM rfl rfl (by omega) (by omega)) rfl (aV rfl rfl (aB ?_))
    refine cQ (p + 1, c4, L4) (bK rfl eV) (cU rfl (cU rfl (cU rfl (cU rfl (cU rfl (cU rfl (cU rfl jW))))))) ?_ ?_
    ·exact ⟨by omega, ⟨hS4, fun z => by rw [hI4 z, aIt hxa, ← hqp, List.append_assoc]⟩, hM4⟩
    ·(show rj.n - (p + 1) < rj.n - p; omega)
  ·have hpn : p = rj.n := by omega
   refine cN (cX (cW (eT (cV (aC (aA ?_))))))
   refine wq (bM rfl rfl (by omega) (by omega)) rfl (aV rfl rfl (aB ?_))
   refine cQ (i + 1, c2, L2) (bK rfl eV) (cU rfl (cU rfl (cU rfl jW))) ?_ ?_
   ·exact ⟨by omega, ⟨hS2, fun z => by rw [hI2 z, aJb]; unfold aRk; rw [hlj, ← hpn]⟩, hM3⟩
   ·(show 1024 - (i + 1) < 1024 - i; omega)
 ·have hi' : i = 1024 := by omega
  rw [hi'] at hI0
  have hLb : (L0.map (fun z => z.1)).length ≤ (wS ks).length := xX hS0.keys (fun z hz => aOp hks ((hI0 z).1 hz))
  rw [List.length_map, aPi] at hLb
  have hkk : ks.length * ks.length ≤ 65536 * 65536 := Nat.mul_le_mul hkl hkl
  refine cN (cX (cW (eT (aC (aD (aA (wq (aG (.map _) rfl) rfl ?_)))))))
  refine bX bDb rfl rfl (aJz _ b1) ?_
  rintro v7 w7 ⟨bb, rfl, hM7⟩
  have M7 : Mem _ _ [_, _] _ := hM2.call0 hM7
  refine bX bCk rfl rfl (rB _ bb b1 c0 L0 (M7.at_ (i := 0) rfl) (M7.lt List.mem_cons_self) hS0 (by omega) (lO 1 M7 rfl rfl)) ?_
  rintro v8 w8 ⟨r, ys, hasc, hys, rfl, hr, hM8⟩
  have M8 : Mem _ _ [_, _, _] _ := M7.call0 hM8
  refine gB rfl rfl (aB (aC (aN (cA (.slice _ _ _) rfl ?_))))
  exact ⟨r, ys, hasc, fun z => (hys z).trans (hI0 z), rfl, hr, M8.keep [false, false, true]⟩
set_option maxHeartbeats 4000000 in
theorem aHc (w : World) (A : Option Addr) (n c : Nat) (xs : List Body) (R : Rd w 10 A n (xs.map aF)) (hb : ∀ b ∈ xs, Okb b) :
  Calls Tryz.prog 132 #[.slice A n c] w (fun ex w' => ∃ v, ex = .returned v ∧ (fun v w' => ∃ (pm : Nat) (em : dP), v = .map (some pm) ∧ iS .u32 qE (bxM xs) (some pm) em ∧ Mem w [] [em] w') v w') := by
 have hlen : xs.length = n := by simpa using R.len
 have hbd := R.bound
 refine aH #[.tmp 2] 20 Tryz.func132 rfl Tryz.results132 Tryz.ntmps132 rfl ?_
 have M0 := Mem.refl w
 refine aD (aA (wq (aI (.map _) rfl) rfl (aB (aC (aD (aA (lF M0 rfl rfl (fun b1 w1 M1 => (wq (aI (.map _) rfl) rfl (aB (aC (aD (aD (aA ?_))))))))))))))
 refine eF rfl rfl (wq (cK Tryz.underlying22 rfl) rfl (aV rfl rfl (aB (aC (aT (dI (σ := Nat × dP) [2, 3, 7, 8] (fun (k, em) => [(9, .int .i64 (k : Int))]) (fun (k, em) w' => (k ≤ n ∧ iS .u32 qE (bxM (xs.take k)) (some b1) em) ∧ Mem w [] [em] w') (fun (k, em) => n - k) (0, (some b1, .map #[] 0)) (bK rfl eV) (⟨⟨by omega, (iS.empty _ _ b1).congr (fun q => by rw [List.take_zero]; exact aVo q)⟩, M1⟩) ?_))))))
 rintro ⟨k, em⟩ ρ2 w2 ⟨⟨hk, hme⟩, hM2⟩
 refine aD (aA (cS rfl rfl rfl rfl (aB (aC (aD ?_)))))
 refine aW rfl (fun h10 => ?_) (fun h10 => ?_)
 ·obtain ⟨xb, hxb⟩ := cE (k := k) hlen (by omega)
  refine aL (aC (aD (aT (aD (aA (wq (bQ (k) eM rfl rfl rfl ((R.mem hM2).below_len (aJ aF hxb)) ((R.mem hM2).someK (aJ aF hxb))) rfl (wq (dL _ bN (R.mem hM2) (aJ aF hxb) rfl) rfl (aR gG hM2 rfl rfl (fun b3 w3 M3 => (bB 1 _ bN M3 rfl rfl rfl rfl rfl (aQ rfl) rfl (fun w4 M4 => ?_)))))))))))
  refine aB (aC (bS [(0, 0), (1, 0), (2, 1), (3, 1), (4, 2), (5, 2)] mixed rfl (by kernel_rfl) (fun w5 hb5 hh5 => ?_)))
  have M5 := M4.drew hb5 hh5
  refine aY rfl rfl rfl (fun _ => aG (.map _) rfl) (aY rfl rfl rfl (fun _ => aE 0 eK rfl) (cB rfl rfl rfl (aM 1 (.int _ _) bW M5 rfl rfl rfl) (cB rfl rfl rfl (aZ 1 bN M5 rfl rfl rfl) (dO [true, false] rfl (by kernel_rfl) (bX bAk rfl rfl (bBr _ xb (hb xb (List.mem_of_getElem? hxb))) ?_)))))
  rintro v6 w6 ⟨rfl, hb6⟩
  have M6 := M5.callB hb6
  refine aB (aC ⟨(eQ (bO rfl (aM 1 (.int _ _) bW M6 rfl rfl rfl)) dN), ?_⟩)
  refine dO [true] rfl (by kernel_rfl) (hJ (enc := qE) 0 aDl M6 rfl rfl hme rfl rfl rfl rfl (fun e7 w7 hm7 M7 => ?_))
  refine aB (aC ⟨dN, ?_⟩)
  refine cF (cV (aC (aA (wq (bM rfl rfl (by omega) (by omega)) rfl (aV rfl rfl (aB ?_))))))
  refine cQ (k + 1, e7) (bK rfl eV) (cU rfl (cU rfl (cU rfl (cU rfl jW)))) ?_ ?_
  ·exact ⟨⟨by omega, hm7.congr (fun q => aRb hxb q)⟩, M7.keep [true, false]⟩
  ·(show n - (k + 1) < n - k; omega)
 ·have hkn : k = n := by omega
  rw [List.take_of_length_le (by omega)] at hme
  refine cN (cX (cW (eT (aC (aD (aA (wq (aG (.map _) rfl) rfl ?_)))))))
  refine wq (aI (.map _) rfl) rfl (aB (aC (aN (cA (.map _) rfl ?_))))
  exact ⟨_, _, rfl, hme, hM2⟩
set_option maxHeartbeats 4000000 in
theorem xA (w : World) (pm : Nat) :
  Calls Tryz.prog 134 #[.map (some pm)] w (fun ex w' => ∃ v, ex = .returned v ∧ (fun v w' => ∃ bm bn, v = .tuple #[.func (.func 163) #[] #[.pointer (some ⟨bn, 0, none⟩), .pointer (some ⟨bm, 0, none⟩)], .func (.func 165) #[] #[.pointer (some ⟨bn, 0, none⟩)]] ∧ Mem w [] [(some bm, bc [.map (some pm)] 186), (some bn, bc [.int .i64 0] 3)] w') v w') := by
 refine aH #[.tmp 2, .tmp 3] 8 Tryz.func134 rfl Tryz.results134 Tryz.ntmps134 rfl ?_
 have M0 := Mem.refl w
 refine aD (aA (bJ (.map _) M0 rfl rfl rfl (fun b1 w1 M1 => (wq (aI (_) rfl) rfl (wq (aI (_) rfl) rfl (aB (aC (aD (aA (aR bEt M1 rfl rfl (fun b2 w2 M2 => ?_)))))))))))
 refine dE 1 (.int _ _) kE M2 rfl rfl rfl rfl rfl rfl (fun w3 M3 => (aB (aC (aD (aA (wq (cP [] [.pointer _, .pointer _] rfl rfl) rfl (wq (aI (.func _ _ _) rfl) rfl (aB (aC (aD (aA (wq (aG (.func _ _ _) rfl) rfl ?_))))))))))))
 refine wq (cP [] [.pointer _] rfl rfl) rfl (wq (aI (.func _ _ _) rfl) rfl (wq (aI (.func _ _ _) rfl) rfl (aB (aC (aN (iA (.func _ _ _) (.func _ _ _) rfl rfl ?_))))))
 exact ⟨b1, b2, rfl, M3⟩
set_option maxHeartbeats 4000000 in
theorem zU (w : World) (bn : Nat) (m : Int) (K : Rd w 1 (some ⟨bn, 0, none⟩) 1 [[.int .i64 m]]) :
  Calls Tryz.prog 165 #[.pointer (some ⟨bn, 0, none⟩)] w (fun ex w' => ∃ v, ex = .returned v ∧ (fun v w' => v = .int .i64 m ∧ Below w.heap.size w w') v w') := by
 rw [← eN bn]
 refine aH #[.tmp 1] 3 Tryz.func165 rfl Tryz.results165 Tryz.ntmps165 rfl ?_
 have M0 := Mem.refl w
 refine aD (aA (bI rfl rfl (aB (aC (aD (aA (wq (eJ (o := 0) (.int _ _) kE (K.mem M0) (show ([[.int .i64 m]] : List (List Value))[0]? = some [.int .i64 m] from rfl) rfl rfl) rfl (bI rfl rfl (aB (aC (aN ?_)))))))))))
 refine cA (.int _ _) rfl ?_
 exact ⟨rfl, M0.below⟩
set_option maxHeartbeats 4000000 in
theorem uP (w : World) (z : Int × Int) (bn bm m : Nat) (f : Int → Option Bx) (pm : Nat) (em : dP) (hme : iS .u32 qE f (some pm) em) (B : Rd w 1 (some ⟨bm, 0, none⟩) 1 [[.map (some pm)]]) (N : Rd w 4 (some ⟨3, 0, none⟩) 1 [dD iX]) (hO : Own [(some bn, bc [.int .i64 (m : Int)] 3), em] w) (hdB : 0 < 1 → ∀ q off, (some ⟨bm, 0, none⟩ : Option Addr) = some ⟨q, off, none⟩ → q ∉ bU [(some bn, bc [.int .i64 (m : Int)] 3), em]) (hdN : 0 < 1 → ∀ q off, (some ⟨3, 0, none⟩ : Option Addr) = some ⟨q, off, none⟩ → q ∉ bU [(some bn, bc [.int .i64 (m : Int)] 3), em]) (hm : m ≤ 1125899906842624) :
  Calls Tryz.prog 163 #[(.agg (bG z).toArray), .pointer (some ⟨bn, 0, none⟩), .pointer (some ⟨bm, 0, none⟩)] w (fun ex w' => ∃ v, ex = .returned v ∧ (fun v w' => v = .bool (apB f z) ∧ Mem w (bU [(some bn, bc [.int .i64 (m : Int)] 3), em]) [(some bn, bc [.int .i64 ((m + 1 : Nat) : Int)] 3), em] w') v w') := by
 rw [← eN bm]
 refine aH #[.tmp 4] 17 Tryz.func163 rfl Tryz.results163 Tryz.ntmps163 rfl ?_
 have M0 := hO.mem
 refine aD (aA (bJ (.agg (List.toArray _)) M0 rfl rfl rfl (fun b1 w1 M1 => (wq (aI (.bool false) rfl) rfl (aB (aC (aD (aA (wq (aM 0 (.int _ _) kE M1 rfl rfl rfl) rfl (wq (bM rfl rfl (by omega) (by omega)) rfl ?_))))))))))
 refine aS 6 (.int .i64 ((m + 1 : Nat) : Int)) (iE (by omega)) (dE 0 (.int _ _) kE M1 rfl rfl rfl rfl rfl rfl (fun w2 M2 => (aB (aC (aD (aA (wq (eJ (o := 0) (.map _) aTg (B.memY M2 hdB) (show ([[.map (some pm)]] : List (List Value))[0]? = some ([.map (some pm)]) from rfl) rfl rfl) rfl ?_)))))))
 refine wq (aE 0 mV rfl) rfl (wq (aM 2 (.int _ _) bW M2 rfl rfl rfl) rfl (wq (iT (enc := qE) z0B 1 aDl aQm M2 rfl hme rfl rfl) rfl (wq (eJ (o := 0) (.map _) aTg (B.memY M2 hdB) (show ([[.map (some pm)]] : List (List Value))[0]? = some ([.map (some pm)]) from rfl) rfl rfl) rfl ?_)))
 refine wq (aE 1 mT rfl) rfl (wq (aM 2 (.int _ _) bW M2 rfl rfl rfl) rfl (wq (iT (enc := qE) z0B 1 aDl aQm M2 rfl hme rfl rfl) rfl (bX bDf rfl rfl (aEk _ (N.memY M2 hdN) ((f z.1).getD z0B) ((f z.2).getD z0B)) ?_)))
 rintro v3 w3 ⟨rfl, hb3⟩
 have M3 := M2.callB hb3
 refine wq (qQ rfl) rfl (wq (aI (.bool (decide _)) rfl) rfl (aB (aC (aN (cA (.bool (decide _)) rfl ?_)))))
 exact ⟨rfl, M3.keep [true, true, false]⟩
set_option maxHeartbeats 4000000 in
theorem rN (w : World) (A : Option Addr) (n c : Nat) (zs : List (Int × Int)) (R : Rd w 2 A n (zs.map bG)) (bn bm m : Nat) (f : Int → Option Bx) (pm : Nat) (em : dP) (hme : iS .u32 qE f (some pm) em) (B : Rd w 1 (some ⟨bm, 0, none⟩) 1 [[.map (some pm)]]) (N : Rd w 4 (some ⟨3, 0, none⟩) 1 [dD iX]) (hO : Own [(some bn, bc [.int .i64 (m : Int)] 3), em] w) (hdA : 0 < n → ∀ q off, A = some ⟨q, off, none⟩ → q ∉ bU [(some bn, bc [.int .i64 (m : Int)] 3), em]) (hdB : 0 < 1 → ∀ q off, (some ⟨bm, 0, none⟩ : Option Addr) = some ⟨q, off, none⟩ → q ∉ bU [(some bn, bc [.int .i64 (m : Int)] 3), em]) (hdN : 0 < 1 → ∀ q off, (some ⟨3, 0, none⟩ : Option Addr) = some ⟨q, off, none⟩ → q ∉ bU [(some bn, bc [.int .i64 (m : Int)] 3), em]) (hm : m + n ≤ 1125899906842624) (hn : n ≤ 1099511627776) :
  Calls Tryz.prog 166 #[.slice A n c, .func (.func 163) #[] #[.pointer (some ⟨bn, 0, none⟩), .pointer (some ⟨bm, 0, none⟩)]] w (fun ex w' => ∃ v, ex = .returned v ∧ (fun v w' => v = .int .i64 (if zs.findIdx (apB f) < n then (zs.findIdx (apB f) : Int) else -1) ∧ Mem w (bU [(some bn, bc [.int .i64 (m : Int)] 3), em]) [(some bn, bc [.int .i64 ((m + min n (zs.findIdx (apB f) + 1) : Nat) : Int)] 3), em] w') v w') := by
 have hlen : zs.length = n := by simpa using R.len
 refine aH #[.tmp 4] 19 Tryz.func166 rfl Tryz.results166 Tryz.ntmps166 rfl ?_
 have M0 := hO.mem
 refine aD (aA (bI rfl rfl (aB (aC (aD (aD (aA (eF rfl rfl (wq (cK Tryz.underlying159 rfl) rfl (aV rfl rfl ?_))))))))))
 refine aB (aC (aT (dI (σ := Nat) [0, 1, 7] (fun k => [(8, .int .i64 (k : Int))]) (fun k w' => (k ≤ n ∧ ∀ (j : Nat) (x : Int × Int), j < k → zs[j]? = some x → apB f x = false) ∧ Mem w (bU [(some bn, bc [.int .i64 (m : Int)] 3), em]) [(some bn, bc [.int .i64 ((m + k : Nat) : Int)] 3), em] w') (fun k => n - k) 0 (bK rfl eV) (⟨⟨by omega, fun j c hj => by omega⟩, M0⟩) ?_)))
 rintro k ρ1 w1 ⟨⟨hk, hno⟩, hM1⟩
 refine aD (aA (cS rfl rfl rfl rfl (aB (aC (aD ?_)))))
 refine aW rfl (fun h9 => ?_) (fun h9 => ?_)
 ·obtain ⟨xz, hxz⟩ := cE (k := k) hlen (by omega)
  refine aL (aC (aD (aT (aD (aA (aV rfl rfl (bI rfl rfl (aB (aC (aD (aA (wq (aG (.func _ _ _) rfl) rfl (eF rfl rfl ?_)))))))))))))
  refine aV rfl rfl (wq (bQ (k) rJ rfl rfl rfl ((R.memY hM1 hdA).below_len (aJ bG hxz)) ((R.memY hM1 hdA).someK (aJ bG hxz))) rfl (wq (dL _ fP (R.memY hM1 hdA) (aJ bG hxz) rfl) rfl (bX aRy rfl rfl (uP _ xz bn bm (m + k) f pm em hme (B.memY hM1 hdB) (N.memY hM1 hdN) (hM1.ownSeg 0 2) hdB hdN (by omega)) ?_)))
  rintro v2 w2 ⟨rfl, hM2⟩
  have M2 : Mem _ _ [_, _] _ := hM1.seg 0 2 hM2
  refine aB (aC ?_)
  refine gP _ rfl (fun h16 => ?_) (fun h16 => ?_)
  ·refine aD (aA (aV rfl rfl (bI rfl rfl (aB (aC (aN (gZ (cC ?_))))))))
   refine nL (gZ (cC (cA (.int _ _) rfl ?_)))
   have hfi := wN hxz h16 hno
   exact ⟨iE (by rw [hfi, if_pos (by omega)]), by rw [hfi, Nat.min_eq_right (by omega)]; exact M2⟩
  ·refine aL (cV (aC (aA (wq (bM rfl rfl (by omega) (by omega)) rfl (aV rfl rfl (aB ?_))))))
   refine cQ (k + 1) (bK rfl eV) (cU rfl (cU rfl (cU rfl jW))) ?_ ?_
   ·exact ⟨⟨by omega, nI (p := fun _ x => apB f x = false) hno hxz h16⟩, M2⟩
   ·omega
 ·refine cN (cX (cW (eT (aC (aD (aA (bI rfl rfl ?_)))))))
  refine aB (aC (aN (cA (.int _ _) rfl ?_)))
  have hkn : k = n := by omega
  have hfi := wC (p := apB f) (l := zs) (fun j y hy => hno j y (by have := (List.getElem?_eq_some_iff.1 hy).1; omega) hy)
  exact ⟨iE (by rw [hfi, if_neg (by omega)]), by rw [hfi, Nat.min_eq_left (by omega), ← hkn]; exact hM1⟩
set_option maxHeartbeats 16000000 in
theorem qS (w : World) (A : Option Addr) (n c : Nat) (zs : List (Int × Int)) (er : dP) (hr : aX 119 2 A n c ((zs).map bG) er) (bn bm m : Nat) (f : Int → Option Bx) (pm : Nat) (em : dP) (hme : iS .u32 qE f (some pm) em) (B : Rd w 1 (some ⟨bm, 0, none⟩) 1 [[.map (some pm)]]) (N : Rd w 4 (some ⟨3, 0, none⟩) 1 [dD iX]) (hO : Own [er, (some bn, bc [.int .i64 (m : Int)] 3), em] w) (hdB : 0 < 1 → ∀ q off, (some ⟨bm, 0, none⟩ : Option Addr) = some ⟨q, off, none⟩ → q ∉ bU [er, (some bn, bc [.int .i64 (m : Int)] 3), em]) (hdN : 0 < 1 → ∀ q off, (some ⟨3, 0, none⟩ : Option Addr) = some ⟨q, off, none⟩ → q ∉ bU [er, (some bn, bc [.int .i64 (m : Int)] 3), em]) (hm : m + n ≤ 1125899906842624) (hn : n ≤ 1099511627776) :
  Calls Tryz.prog 135 #[.slice A n c, .func (.func 163) #[] #[.pointer (some ⟨bn, 0, none⟩), .pointer (some ⟨bm, 0, none⟩)]] w (fun ex w' => ∃ v, ex = .returned v ∧ (fun v w' => ∃ r : Row, v = .slice r.A r.n r.c ∧ aX 119 2 r.A r.n r.c ((zs.filter (fun z => !apB f z)).map bG) r.e ∧ Mem w (bU [er, (some bn, bc [.int .i64 (m : Int)] 3), em]) [r.e, (some bn, bc [.int .i64 ((m + n : Nat) : Int)] 3), em] w') v w') := by
 have hlen : zs.length = n := by simpa using hr.1
 have hcap := hr.slice
 refine aH #[.tmp 4] 42 Tryz.func135 rfl Tryz.results135 Tryz.ntmps135 rfl ?_
 have M0 := hO.mem
 refine aD (aA (gB rfl rfl (aB (aC (aD (aA (eF rfl rfl (wq (aG (.func _ _ _) rfl) rfl (bX bCh rfl rfl (rN _ A n c zs (hr.rd M0 (bC (i := 0) rfl)) bn bm m f pm em hme (B.memY M0 hdB) (N.memY M0 hdN) (M0.ownSeg 1 2) (hr.apartTail M0) (M0.away 1 2 B hdB) (M0.away 1 2 N hdN) hm hn) ?_)))))))))
 rintro v1 w1 ⟨rfl, hM1⟩
 have M1 : Mem _ _ [_, _, _] _ := M0.seg 1 2 hM1
 refine bI rfl rfl (aB (aC (aD (aD (aA (aV rfl rfl (cS rfl rfl rfl rfl (aB (aC ?_)))))))))
 refine aW rfl (fun h12 => ?_) (fun h12 => ?_)
 ·have hge : ¬ zs.findIdx (apB f) < n := fun h => by rw [if_pos h] at h12; omega
  refine aD (aA (eF rfl rfl (gB rfl rfl (aB (aC (aN (cC (cA (.slice _ _ _) rfl ?_))))))))
  have e1 : m + min n (zs.findIdx (apB f) + 1) = m + n := by omega
  rw [e1] at M1
  exact ⟨⟨A, n, c, er⟩, rfl, by rw [aHj (by omega)]; exact hr, M1⟩
 ·have hlt : zs.findIdx (apB f) < n := Decidable.by_contra fun h => h12 (if_neg h)
  refine aL (aC (aD (aD (aA (aV rfl rfl (wq (bM rfl rfl (by omega) (by omega)) rfl (aS 15 (.int .i64 ((zs.findIdx (apB f) + 1 : Nat) : Int)) (iE (by rw [if_pos hlt]; omega)) (bI rfl rfl (aB (aC (aT ?_)))))))))))
  refine dI (σ := Nat × Nat × List (Int × Int) × dP) [0, 1, 4] (fun (j, k, zs2, en) => [(5, .int .i64 (k : Int)), (6, .int .i64 (j : Int))]) (fun (j, k, zs2, en) w' => (j ≤ n ∧ k < j ∧ zs2.take k = (zs.take j).filter (fun z => !apB f z) ∧ zs2.drop j = zs.drop j ∧ aX 119 2 A n c ((zs2).map bG) en) ∧ Mem w (bU [er, (some bn, bc [.int .i64 (m : Int)] 3), em]) [en, (some bn, bc [.int .i64 ((m + j : Nat) : Int)] 3), em] w') (fun (j, k, zs2, en) => n - j) (zs.findIdx (apB f) + 1, zs.findIdx (apB f), zs, er) (bK (iv rfl (if_pos hlt)) (bK rfl eV)) (⟨⟨by omega, by omega, aDk (by omega), rfl, hr⟩, by
   have e1 : min n (zs.findIdx (apB f) + 1) = zs.findIdx (apB f) + 1 := by omega
   rw [e1] at M1
   exact M1⟩) ?_
  rintro ⟨j, k, zs2, en⟩ ρ2 w2 ⟨⟨hj, hkj, hpre, hsuf, hz2⟩, hM2⟩
  have hl2 : zs2.length = n := by simpa using hz2.1
  refine aD (aD (aA (aV rfl rfl (eF rfl rfl (wq (cK Tryz.underlying159 rfl) rfl (cS rfl rfl rfl rfl (aB (aC ?_))))))))
  refine aW rfl (fun h19 => ?_) (fun h19 => ?_)
  ·obtain ⟨xz, hxz⟩ := cE (k := j) hlen (by omega)
   have hxz2 : zs2[j]? = some xz := (aTd hsuf).trans hxz
   obtain ⟨xk, hxk⟩ := cE (k := k) hl2 (by omega)
   refine aL (aC (aD (aT (aD (aA (eF rfl rfl (aV rfl rfl (wq (bQ (j) rJ rfl rfl rfl ((hz2.rd hM2 (bC (i := 0) rfl)).below_len (aJ bG hxz2)) ((hz2.rd hM2 (bC (i := 0) rfl)).someK (aJ bG hxz2))) rfl (wq (dL _ fP (hz2.rd hM2 (bC (i := 0) rfl)) (aJ bG hxz2) rfl) rfl ?_)))))))))
   refine aR pU hM2 rfl rfl (fun b3 w3 M3 => (bB 3 _ fP M3 rfl rfl rfl rfl rfl (aQ rfl) rfl (fun w4 M4 => (aB (aC (aD (aA (wq (aG (.func _ _ _) rfl) rfl (wq (aZ 3 fP M4 rfl rfl rfl) rfl (bX aRy rfl rfl (uP _ xz bn bm (m + j) f pm em hme (B.memY M4 hdB) (N.memY M4 hdN) (M4.ownSeg 1 2) (M4.away 1 2 B hdB) (M4.away 1 2 N hdN) (by omega)) ?_))))))))))
   rintro v5 w5 ⟨rfl, hM5⟩
   have M5 : Mem _ _ [_, _, _, _] _ := M4.seg 1 2 hM5
   refine wq (gS _ rfl rfl) rfl (aB (aC ?_))
   refine gP _ rfl (fun h29 => ?_) (fun h29 => ?_)
   ·refine aD (aA (eF rfl rfl (aV rfl rfl (wq (aZ 3 fP M5 rfl rfl rfl) rfl (wq (bQ (k) rJ rfl rfl rfl ((hz2.rd M5 (bC (i := 0) rfl)).below_len (aJ bG hxk)) ((hz2.rd M5 (bC (i := 0) rfl)).someK (aJ bG hxk))) rfl (aCh 0 _ fP M5 rfl hz2 (aJ bG hxk) rfl rfl rfl rfl (aQ rfl) (fun e6 w6 hR6 M6 => ?_)))))))
    have hQ6 := hR6.mapSet (f := bG) (x := xz) rfl
    refine aB (aC (aA (aV rfl rfl (wq (bM rfl rfl (by omega) (by omega)) rfl (bI rfl rfl (aB (cV ?_)))))))
    refine aC (aA (aV rfl rfl (wq (bM rfl rfl (by omega) (by omega)) rfl (bI rfl rfl (aB ?_)))))
    refine cQ (j + 1, k + 1, zs2.set k xz, e6) (bK rfl (bK rfl eV)) (cU rfl (cU rfl (cU rfl jW))) ?_ ?_
    ·exact ⟨⟨by omega, by omega, by rw [aPx (by omega), hpre, uT hxz, if_neg (by simpa using h29)], by rw [aTn (by omega)]; exact aAy hsuf, hQ6⟩, M6.keep [true, true, true, false]⟩
    ·(show n - (j + 1) < n - j; omega)
   ·refine aL (cV (aC (aA (aV rfl rfl (wq (bM rfl rfl (by omega) (by omega)) rfl (bI rfl rfl ?_))))))
    refine aB ?_
    refine cQ (j + 1, k, zs2, en) (bK rfl (bK rfl eV)) (cU rfl (cU rfl (cU rfl jW))) ?_ ?_
    ·exact ⟨⟨by omega, by omega, by rw [hpre, uT hxz, if_pos (by simpa using h29), List.append_nil], aAy hsuf, hz2⟩, M5.keep [true, true, true, false]⟩
    ·(show n - (j + 1) < n - j; omega)
  ·have hjn : j = n := by omega
   rw [hjn, show List.take n zs = zs from List.take_of_length_le (by omega)] at hpre
   refine cN (cX (cW (eT (aC (aD (aA (eF rfl rfl ?_)))))))
   refine aV rfl rfl (wq (fM ((k : Int)) ((n : Int)) rJ rfl ⟨_, rfl⟩ rfl (by omega) (by omega) (by omega)) rfl (aPv 0 (k) rJ (fun zv hz => by rw [bEx] at hz; injection hz with hz; subst hz; simp [Go.Bil.one, Value.cells]) hM2 rfl rfl hz2 (by omega) rfl (fun e7 w7 hR7 M7 => (aB (aC (aD (aA ?_)))))))
   refine eF rfl rfl (aV rfl rfl (wq (fM (0) ((k : Int)) rJ rfl rfl ⟨_, rfl⟩ (by decide) (by omega) (by omega)) rfl (gB rfl rfl (aB (aC (aN (cA (.slice _ _ _) rfl ?_)))))))
   rw [hjn] at M7
   have hpf := hR7
   rw [← List.map_take, hpre] at hpf
   exact ⟨⟨_, _, _, e7⟩, rfl, hpf, M7⟩
set_option maxRecDepth 100000 in
theorem bEu : fG Tryz.prog 191 = some (dC (List.replicate 1024 iM) 0) := by kernel_rfl
set_option maxHeartbeats 16000000 in
theorem aJi (w : World) (F : Rd w 2 (some ⟨0, 0, none⟩) 1 [[.int .u32 73856093, .int .u32 19349663]]) (N : Rd w 4 (some ⟨3, 0, none⟩) 1 [dD iX]) (A : Option Addr) (n c : Nat) (xs : List Body) (R : Rd w 10 A n (xs.map aF)) (hb : ∀ b ∈ xs, Okb b) (hs : bV xs) (hn : n ≤ 4096) :
  Calls Tryz.prog 105 #[.slice A n c] w (fun ex w' => ∃ v, ex = .returned v ∧ (fun v w' => ∃ (r : Row) (m : Nat), v = .tuple #[.slice r.A r.n r.c, .int .i64 (m : Int)] ∧ (kV xs).length ≤ m ∧ 2 * m ≤ xs.length * (xs.length - 1) ∧ aX 119 2 r.A r.n r.c ((kV xs).map bG) r.e ∧ Mem w [] [r.e] w') v w') := by
 have hlen : xs.length = n := by simpa using R.len
 have hbd := R.bound
 refine aH #[.tmp 2, .tmp 3] 37 Tryz.func105 rfl Tryz.results105 Tryz.ntmps105 rfl ?_
 have M0 := Mem.refl w
 refine aD (aA (gB rfl rfl (bI rfl rfl (aB (aC (aD (aA (eF rfl rfl (bX bBo rfl rfl (aHc _ _ _ _ xs (R.mem M0) hb) ?_)))))))))
 rintro v1 w1 ⟨pm, em, rfl, hme, hM1⟩
 have M1 : Mem _ _ [_] _ := M0.call0 hM1
 refine wq (aI (.map _) rfl) rfl (aB (aC (aD (aA (aR bEu M1 rfl rfl (fun b2 w2 M2 => ?_))))))
 have M3 := Mem.gridNew (L := [_]) M2
 refine aB (aC (aD (aD (aA (eF rfl rfl (wq (cK Tryz.underlying22 rfl) rfl (aV rfl rfl (aB (aC (aT (dI (σ := Nat × List Row) [2, 3, 4, 5, 12, 13] (fun (k, rs) => [(14, .int .i64 (k : Int))]) (fun (k, rs) w' => (k ≤ n ∧ GridRows 36 rs (gOf (xs.take k))) ∧ Mem w [] ([em] ++ ((some b2, bc (dC rs (k : Int)) 191) :: rs.map Row.e)) w') (fun (k, rs) => n - k) (0, List.replicate 1024 iM) (bK rfl eV) (⟨⟨by omega, by rw [List.take_zero]; exact aUs _⟩, M3⟩) ?_)))))))))))
 rintro ⟨k, rs⟩ ρ4 w4 ⟨⟨hk, hrs⟩, hM4⟩
 refine aD (aA (cS rfl rfl rfl rfl (aB (aC (aD ?_)))))
 refine aW rfl (fun h15 => ?_) (fun h15 => ?_)
 ·obtain ⟨xb, hxb⟩ := cE (k := k) hlen (by omega)
  refine aL (aC (aD (aT (aD (aA (wq (bQ (k) eM rfl rfl rfl ((R.mem hM4).below_len (aJ aF hxb)) ((R.mem hM4).someK (aJ aF hxb))) rfl (wq (dL _ bN (R.mem hM4) (aJ aF hxb) rfl) rfl (aR gG hM4 rfl rfl (fun b5 w5 M5 => ?_)))))))))
  have M6 : Mem _ _ ([_, _] ++ _) _ := Mem.front (L := [_]) M5
  refine bB 1 _ bN M6 rfl rfl rfl rfl rfl (aQ rfl) rfl (fun w7 M7 => (aB (aC (aA (wq (aE 0 eK rfl) rfl (wq (aM 1 (.int _ _) bW M7 rfl rfl rfl) rfl (wq (aG (.map _) rfl) rfl (wq (aE 0 eK rfl) rfl ?_))))))))
  refine wq (aM 1 (.int _ _) bW M7 rfl rfl rfl) rfl (wq (iT (enc := qE) z0B 0 aDl aQm M7 rfl hme rfl rfl) rfl (aS 23 (.agg (dD (iH xb)).toArray) (congrArg qE (by rw [nD hs (List.mem_of_getElem? hxb)]; rfl)) (bX aZs rfl rfl (aEh _ (F.mem M7) b2 rs (k : Int) (gOf (xs.take k)) hrs ⟨by omega, by omega⟩ (fun j _ => Nat.le_trans (aYb _ _) (by simp; omega)) xb.key (iH xb) (bAl (hb xb (List.mem_of_getElem? hxb))) (Mem.ownTail (L := [_, _]) M7) (Mem.awayTail (L := [_, _]) M7 F)) ?_)))
  rintro v8 w8 ⟨rfl, rs2, hrs2, hM8⟩
  have M8 : Mem _ _ ([_, _] ++ _) _ := Mem.tail (L := [_, _]) M7 hM8
  refine aB (cV (aC (aA (wq (bM rfl rfl (by omega) (by omega)) rfl (aV rfl rfl (aB ?_))))))
  refine cQ (k + 1, rs2) (bK rfl eV) (cU rfl (cU rfl (cU rfl (cU rfl (cU rfl (cU rfl jW)))))) ?_ ?_
  ·exact ⟨⟨by omega, by rw [aUj hxb]; exact hrs2⟩, Mem.keepL (L := [_, _]) [true, false] M8⟩
  ·(show n - (k + 1) < n - k; omega)
 ·have hkn : k = n := by omega
  rw [List.take_of_length_le (by omega)] at hrs
  refine cN (cX (cW (eT (aC (aD (aA (wq (aG (.map _) rfl) rfl ?_)))))))
  refine bX aZv rfl rfl (xA _ pm) ?_
  rintro v9 w9 ⟨bm, bn, rfl, hM9⟩
  have M9 : Mem _ _ ([_, _, _] ++ _) _ := Mem.front (L := [_]) (hM4.call0 hM9)
  refine wq (aG (.tuple (List.toArray _)) rfl) rfl (wq (bE (.func _ _ _) rfl rfl) rfl (wq (bE (.func _ _ _) rfl rfl) rfl (wq (aI (.func _ _ _) rfl) rfl (wq (aI (.func _ _ _) rfl) rfl (aB (aC (aD (aA ?_))))))))
  refine bX bCl rfl rfl (vB _ b2 rs (k : Int) (gOf xs) hrs.len (Mem.gridRd (L := [_, _, _]) M9 hrs.len) (fun j r hr => Mem.rowRd (L := [_, _, _]) M9 hrs j r hr) (xs.map (·.key)) (fun j _ x hx => by obtain ⟨b, h1, _, rfl⟩ := nM.1 hx; exact List.mem_map.2 ⟨b, h1, rfl⟩) (by simp; omega)) ?_
  rintro v10 w10 ⟨r, ps, hasc, hps, rfl, hr, hM10⟩
  have M10 : Mem _ _ ([_, _, _, _] ++ _) _ := Mem.front (L := [_, _, _]) (M9.call0 hM10)
  have hpl := aNo hs hasc hps
  have hrl : ps.length = r.n := by simpa using hr.1
  have hnn : xs.length * (xs.length - 1) ≤ 4096 * 4096 := Nat.mul_le_mul (by omega) (by omega)
  refine wq (aG (.func _ _ _) rfl) rfl ?_
  have M11 : Mem _ _ [_, _, _, _] _ := Mem.order4 M10
  refine bX bAt rfl rfl (qS _ r.A r.n r.c ps r.e hr bn bm 0 (bxM xs) pm em hme (lO 3 M11 rfl rfl) (N.mem M11) (M11.ownSeg 0 3) (M11.apartTake 3 3 rfl rfl) (M11.away 0 3 N (fun _ q off _ h => by simp at h)) (by omega) (by omega)) ?_
  rintro v12 w12 ⟨r2, rfl, hr2, hM12⟩
  have M12 : Mem _ _ [_, _, _, _] _ := M11.seg 0 3 hM12
  have hfl : (kV xs).length ≤ ps.length := by rw [← wK hs hasc hps]; exact List.length_filter_le _ _
  rw [wK hs hasc hps] at hr2
  refine gB rfl rfl (aB (aC (aD (aA (eF rfl rfl (wq (aG (.func _ _ _) rfl) rfl (bX bCf rfl rfl (zU _ bn _ (lO 1 M12 rfl rfl)) ?_)))))))
  rintro v13 w13 ⟨rfl, hb13⟩
  have M13 := M12.callB hb13
  refine gB rfl rfl (bI rfl rfl (aB (aC (aN (iA (.slice _ _ _) (.int _ _) rfl rfl ?_)))))
  exact ⟨r2, 0 + r.n, rfl, by omega, by omega, hr2, M13.keep [true, false, false, false]⟩
end Go.Proofs.YtlmcphcgiclanaaGreatDoor
