/- Part of the proof of the laws of this seat: P10, Q10, U11, V11, W11, Aw11. No conditions. -/
import Derived.Test.YtlmcphcgiclanaaGreatDoorK5
import Derived.Test.YtlmcphcgiclanaaGreatDoorK25
import Derived.Test.YtlmcphcgiclanaaGreatDoorK17
import Derived.Test.YtlmcphcgiclanaaGreatDoorK21
import Derived.Test.YtlmcphcgiclanaaGreatDoorK24
set_option linter.unusedVariables false
set_option linter.unusedSimpArgs false
set_option linter.unnecessarySimpa false
namespace Go.Proofs.YtlmcphcgiclanaaGreatDoor
open Go.Bil
open Go.RowKit (Below)
open Go.Proofs
set_option maxHeartbeats 4000000 in
theorem aGi (w : World) (a b : Int) :
    Calls Tryz.prog 167 #[.int .u32 a, .int .u32 b] w (fun ex w' => ∃ v, ex = .returned v ∧ (fun v w' => v = (.agg (bG (vG a b)).toArray) ∧ Below w.heap.size w w') v w') := by
  refine aJ #[.cell 4 119] 12 Tryz.func167 rfl Tryz.results167 Tryz.ntmps167 rfl ?_
  have M0 := Mem.refl w
  refine aG (aB ?_)
  refine aS mX M0 rfl rfl (fun b1 w1 M1 => ?_)
  refine aE (aF (aG (aB ?_)))
  refine aA (aC (.int _ _) rfl) rfl rfl ?_
  refine aA (aC (.int _ _) rfl) rfl rfl ?_
  refine aA (uG rfl rfl ) rfl rfl ?_
  refine aA (aC (.int _ _) rfl) rfl rfl ?_
  refine aA (aC (.int _ _) rfl) rfl rfl ?_
  refine aA (kH rfl rfl ) rfl rfl ?_
  refine aA (cC [(0, .int _ _), (1, .int _ _)] _ wH rfl rfl) rfl rfl ?_
  refine bJ 0 _ eT M1 rfl rfl rfl rfl rfl (aU rfl) rfl (fun w2 M2 => ?_)
  refine aE (aF (aR ?_))
  refine jZ 0 eT M2 rfl rfl rfl ?_
  exact ⟨rfl, M2.below⟩
set_option maxHeartbeats 4000000 in
theorem aQj (w : World) (A : Option Addr) (x y : Int) (R : Rd w 1 A 2 [[.int .i64 x], [.int .i64 y]]) :
    Calls Tryz.prog 197 #[.slice A 2 2] w (fun ex w' => ∃ v, ex = .returned v ∧ (fun v w' => v = .int .i64 (if x = 0 then y else x) ∧ w' = w) v w') := by
  refine aJ #[.tmp 2] 18 Tryz.func197 rfl Tryz.results197 Tryz.ntmps197 rfl ?_
  have M0 := Mem.refl w
  refine aG (aB ?_)
  refine aA (aD (.int _ _) rfl) rfl rfl ?_
  refine aE (aF (aG (aB ?_)))
  refine aA (aD (.int _ _) rfl) rfl rfl ?_
  refine aE (aF (aG (aG (aB ?_))))
  refine aA (aC (.slice _ _ _) rfl) rfl rfl ?_
  refine aA (cS Tryz.underlying302 rfl) rfl rfl ?_
  refine aM 7 (.int .i64 2) (iE rfl) ?_
  refine aA (aC (.int _ _) rfl) rfl rfl ?_
  refine aE (aF (bA ?_))
  refine mV 3 (mT ?_)
  refine aG (aB ?_)
  refine aA (aO (.bool (decide _)) rfl rfl rfl) rfl rfl ?_
  refine aM 9 (.bool true) (bT (by first | decide | omega)).symm ?_
  refine aE (aF (aG ?_))
  refine dP rfl ?_
  refine aN (aF (aG (bA (aG (aB ?_)))))
  refine aA (bO (0) aMf rfl rfl rfl (R.below_len ((rfl : ([[.int .i64 x], [.int .i64 y]] : List (List Value))[0]? = some [.int .i64 x]))) (R.someK ((rfl : ([[.int .i64 x], [.int .i64 y]] : List (List Value))[0]? = some [.int .i64 x])))) rfl rfl ?_
  refine aA (jJ (.int _ _) kT R ((rfl : ([[.int .i64 x], [.int .i64 y]] : List (List Value))[0]? = some [.int .i64 x])) rfl) rfl rfl ?_
  refine aA (aD (.int _ _) rfl) rfl rfl ?_
  refine aE (aF (aG (aB ?_)))
  refine aA (aC (.int _ _) rfl) rfl rfl ?_
  refine aA (aC (.int _ _) rfl) rfl rfl ?_
  refine aA (aO (.bool (decide _)) rfl rfl rfl) rfl rfl ?_
  refine aE (aF ?_)
  refine aY rfl (fun h14 => ?_) (fun h14 => ?_)
  · refine aG (aB ?_)
    refine aA (aC (.int _ _) rfl) rfl rfl ?_
    refine aA (aD (.int _ _) rfl) rfl rfl ?_
    refine aE (aF (aR ?_))
    refine rS ?_
    refine cP (cP ?_)
    refine rS ?_
    refine cP ?_
    refine cI (.int _ _) rfl ?_
    exact ⟨iE (by split <;> omega), rfl⟩
  · refine aN ?_
    refine dJ ?_
    refine aF (aB ?_)
    refine aA (bX rfl rfl (by first | decide | omega) (by first | decide | omega)) rfl rfl ?_
    refine aM 16 (.int .i64 1) (iE (by first | decide | omega)) ?_
    refine aA (aC (.int _ _) rfl) rfl rfl ?_
    refine aE ?_
    refine aF (mT ?_)
    refine aG (aB ?_)
    refine aA (aO (.bool (decide _)) rfl rfl rfl) rfl rfl ?_
    refine aM 9 (.bool true) (bT (by first | decide | omega)).symm ?_
    refine aE (aF (aG ?_))
    refine dP rfl ?_
    refine aN (aF (aG (bA (aG (aB ?_)))))
    refine aA (bO (1) aMf rfl rfl rfl (R.below_len ((rfl : ([[.int .i64 x], [.int .i64 y]] : List (List Value))[1]? = some [.int .i64 y]))) (R.someK ((rfl : ([[.int .i64 x], [.int .i64 y]] : List (List Value))[1]? = some [.int .i64 y])))) rfl rfl ?_
    refine aA (jJ (.int _ _) kT R ((rfl : ([[.int .i64 x], [.int .i64 y]] : List (List Value))[1]? = some [.int .i64 y])) rfl) rfl rfl ?_
    refine aA (aD (.int _ _) rfl) rfl rfl ?_
    refine aE (aF (aG (aB ?_)))
    refine aA (aC (.int _ _) rfl) rfl rfl ?_
    refine aA (aC (.int _ _) rfl) rfl rfl ?_
    refine aA (aO (.bool (decide _)) rfl rfl rfl) rfl rfl ?_
    refine aE (aF ?_)
    refine aY rfl (fun h14 => ?_) (fun h14 => ?_)
    · refine aG (aB ?_)
      refine aA (aC (.int _ _) rfl) rfl rfl ?_
      refine aA (aD (.int _ _) rfl) rfl rfl ?_
      refine aE (aF (aR ?_))
      refine rS ?_
      refine cP (cP ?_)
      refine rS ?_
      refine cP ?_
      refine cI (.int _ _) rfl ?_
      exact ⟨iE (by split <;> omega), rfl⟩
    · refine aN ?_
      refine dJ ?_
      refine aF (aB ?_)
      refine aA (bX rfl rfl (by first | decide | omega) (by first | decide | omega)) rfl rfl ?_
      refine aM 16 (.int .i64 2) (iE (by first | decide | omega)) ?_
      refine aA (aC (.int _ _) rfl) rfl rfl ?_
      refine aE ?_
      refine aF (mT ?_)
      refine aG (aB ?_)
      refine aA (aO (.bool (decide _)) rfl rfl rfl) rfl rfl ?_
      refine aM 9 (.bool false) (bF (by first | decide | omega)).symm ?_
      refine aE (aF (aG ?_))
      refine cH rfl ?_
      refine cK ?_
      refine dB (dB ?_)
      refine eN ?_
      refine aF (aG (aB ?_))
      refine aA (aC (.int _ _) rfl) rfl rfl ?_
      refine aA (aD (.int _ _) rfl) rfl rfl ?_
      refine aE (aF (aR ?_))
      refine cI (.int _ _) rfl ?_
      exact ⟨iE (by split <;> omega), rfl⟩
set_option maxHeartbeats 4000000 in
theorem yH (a b : Int × Int) (w : World) :
    Calls Tryz.prog 170 #[(.agg (bG a).toArray), (.agg (bG b).toArray)] w (fun ex w' => ∃ v, ex = .returned v ∧ (fun v w' => v = .int .i64 (aHk a b) ∧ ∃ q os, w' = Go.Sort.grow (w.drewN q) os) v w') := by
  refine aJ #[.tmp 4] 17 Tryz.func170 rfl Tryz.results170 Tryz.ntmps170 rfl ?_
  have M0 := Mem.refl w
  refine aG (aB ?_)
  refine aFl (.agg (List.toArray _)) M0 rfl rfl rfl (fun M1 => ?_)
  refine aFl (.agg (List.toArray _)) M1 rfl rfl rfl (fun M2 => ?_)
  refine aA (aD (.int _ _) rfl) rfl rfl ?_
  refine aE (aF (aG ?_))
  refine aPa [(0, 0), (1, 1), (2, 0), (3, 1), (5, 0), (6, 1), (7, 0), (8, 1), (4, 2), (9, 2), (10, 2), (11, 2), (12, 0)] mixed rfl (by kernel_rfl) ?_
  have M3 := M2.drewE
  refine aW rfl rfl rfl (fun _ => aH 0 kU rfl) ?_
  refine cB rfl rfl rfl (aZ 0 (.int _ _) cR M3 rfl rfl rfl) ?_
  refine aW rfl rfl rfl (fun _ => aH 0 kU rfl) ?_
  refine cB rfl rfl rfl (aZ 1 (.int _ _) cR M3 rfl rfl rfl) ?_
  refine aW rfl rfl rfl (fun _ => aH 1 kQ rfl) ?_
  refine cB rfl rfl rfl (aZ 0 (.int _ _) cR M3 rfl rfl rfl) ?_
  refine aW rfl rfl rfl (fun _ => aH 1 kQ rfl) ?_
  refine cB rfl rfl rfl (aZ 1 (.int _ _) cR M3 rfl rfl rfl) ?_
  refine eB [false, false, true, true] rfl (by kernel_rfl) ?_
  refine aL aNe rfl rfl rfl ?_
  refine (kJ _ _ _).mono ?_
  rintro _ w4 ⟨v4, rfl, ⟨rfl, rfl⟩⟩
  refine ⟨_, rfl, ?_⟩
  have M4 : Mem _ _ [_, _] _ := M3
  refine aE (aF ⟨(kO (dG rfl (aZ 1 (.int _ _) cR M4 rfl rfl rfl)) (kO (dG rfl (aZ 0 (.int _ _) cR M4 rfl rfl rfl)) dZ)), ?_⟩)
  refine eB [true, true] rfl (by kernel_rfl) ?_
  refine aL aNe rfl rfl rfl ?_
  refine (kJ _ _ _).mono ?_
  rintro _ w5 ⟨v5, rfl, ⟨rfl, rfl⟩⟩
  refine ⟨_, rfl, ?_⟩
  have M5 : Mem _ _ [_, _] _ := M4
  refine aE (aF ⟨dZ, ?_⟩)
  refine eB [] rfl (by kernel_rfl) ?_
  refine aDv [.int _ _, .int _ _] [[.int .i64 (lZ a.1 b.1)], [.int .i64 (lZ a.2 b.2)]] rfl aMf M5 rfl rfl rfl rfl (cW rfl) (by decide) (fun M6 => ?_)
  refine aE (aF ⟨dZ, ?_⟩)
  refine eB [] rfl (by kernel_rfl) ?_
  refine aL aUo rfl rfl rfl ?_
  refine (aQj _ _ _ _ ((gW (T := 3) [[.int .i64 (lZ a.1 b.1)], [.int .i64 (lZ a.2 b.2)]] (by simp) rfl (show 2 ≤ 281474976710656 by decide)).rd M6 (aP (i := 2) rfl))).mono ?_
  rintro _ w7 ⟨v7, rfl, ⟨rfl, rfl⟩⟩
  refine ⟨_, rfl, ?_⟩
  have M7 : Mem _ _ [_, _, _] _ := M6
  refine aE (aF ⟨dZ, ?_⟩)
  refine aW rfl rfl rfl (fun _ => aD (.int _ _) rfl) ?_
  refine cE ?_
  refine aF (aR ?_)
  refine cI (.int _ _) rfl ?_
  exact ⟨iE rfl, aWe _ _ _ _⟩
theorem aKd : aSb Tryz.prog 170 bG aHk := fun x y w => yH x y w
theorem aJx : KeyT Tryz.prog 230 119 231 bG := by
  refine ⟨Tryz.underlying230, ⟨_, Tryz.underlying119⟩, fun a w => ?_, fun a b w => ?_, fun a => by simp [bG, Instr.sameBits]⟩
  · have h42 := bC (w := w) Tryz.underlying119
    have hc : ∀ x : Int, (Instr.checkKey false 9999 36 (.int .u32 x)).run Tryz.prog w = .ok () w := fun x => MapKept.run_checkKey (d := .int .u32) Tryz.underlying36 (by simp [MapKept.IsKey]) false 9998
    have p0 : (Go.part 36 #[.int .u32 a.1, .int .u32 a.2] 0).run Tryz.prog w = .ok (.int .u32 a.1) w := fD (l := [.int .u32 a.1, .int .u32 a.2]) cR rfl
    have p1 : (Go.part 36 #[.int .u32 a.1, .int .u32 a.2] 1).run Tryz.prog w = .ok (.int .u32 a.2) w := fD (l := [.int .u32 a.1, .int .u32 a.2]) cR rfl
    show (Instr.checkKey false (9999 + 1) 119 _).run _ w = _
    unfold Instr.checkKey
    simp only [Sem.run_bind, h42, Result.andThen_ok, bG]
    simp [p0, p1, hc, Sem.run_bind, Sem.run_pure]
  · have h := (aTn a.1 a.2 b.1 b.2).2 w
    have e : decide (a.1 = b.1 ∧ a.2 = b.2) = decide (a = b) := decide_eq_decide.2 Prod.ext_iff.symm
    rw [e] at h
    exact h
theorem vC (w : World) (A : Option Addr) (n c : Nat) (xs : List (Int × Int)) (e : dL) (hR : aX 119 2 A n c (xs.map bG) e) (hw : Own [e] w) (hn : n ≤ 1099511627776) :
    Calls Tryz.prog 195 #[.slice A n c, .func (.func 170) #[] #[]] w (fun ex w' => ∃ v, ex = .returned v ∧ v = .tuple #[] ∧ ∃ (ys : List (Int × Int)) (e' : dL), ys.Perm xs ∧ (ys.Pairwise fun a b => ¬ zJ b a) ∧ aX 119 2 A n c (ys.map bG) e' ∧ Mem w (bU [e]) [e'] w') := by
  have h := vY aHr (T := 119) eT bG vJ (fun x v hv => by simp only [bG, List.mem_cons, List.not_mem_nil, or_false] at hv; rcases hv with h | h <;> subst h <;> rfl) _ aKq 170 aTs aKd w A xs e hR hw (by omega)
  refine Calls.mono h ?_
  rintro ex w' ⟨v, h1, h2, ys, e', h3, h4, h5, h6⟩
  refine ⟨v, h1, h2, ys, e', h3, ?_, h5, h6⟩
  refine List.pairwise_iff_getElem.2 fun i j hi hj hij => ?_
  have := h4 i j _ _ hij (List.getElem?_eq_getElem hi) (List.getElem?_eq_getElem hj)
  have h := of_decide_eq_false this
  rwa [aAu] at h
set_option maxHeartbeats 4000000 in
theorem aEb (w : World) (mb : Nat) :
    Calls Tryz.prog 169 #[.map (some mb)] w (fun ex w' => ∃ v, ex = .returned v ∧ (fun v w' => ∃ bb, v = .func (.func 196) #[] #[.pointer (some ⟨bb, 0, none⟩)] ∧ Mem w [] [(some bb, bc [.map (some mb)] 230)] w') v w') := by
  refine aJ #[.tmp 2] 4 Tryz.func169 rfl Tryz.results169 Tryz.ntmps169 rfl ?_
  have M0 := Mem.refl w
  refine aG (aB ?_)
  refine bK (.map _) M0 rfl rfl rfl (fun b1 w1 M1 => ?_)
  refine aA (aD (_) rfl) rfl rfl ?_
  refine aE (aF (aG (aB ?_)))
  refine aA (dC [] [.pointer _] rfl rfl) rfl rfl ?_
  refine aA (aD (.func _ _ _) rfl) rfl rfl ?_
  refine aE (aF (aR ?_))
  refine cI (.func _ _ _) rfl ?_
  exact ⟨b1, rfl, M1⟩
set_option maxHeartbeats 4000000 in
theorem zK (w : World) (bb : Nat) (mb clock : Nat) (L : List ((Int × Int) × Nat)) (hmb : w.heap[mb]? = some (fU bG L clock)) (hml : mb < w.heap.size) (hS : SetOk L clock) (hLN : L.length < 1099511627776) (B1 : Rd w 1 (some ⟨bb, 0, none⟩) 1 [[.map (some mb)]]) (lp ob : Nat) (rec : Loop) (hY : pC Tryz.prog lp ob rec 159 119 2 1099511627776 (fun x => ∃ a b, x = [.int .u32 a, .int .u32 b])) (r0 : Row) (hr0 : aX 119 2 r0.A r0.n r0.c [] r0.e) (hO : Own [(some lp, .loop rec), (some ob, bc [.slice r0.A r0.n r0.c] 159), r0.e] w) (hd1 : 0 < 1 → ∀ q off, (some ⟨bb, 0, none⟩ : Option Addr) = some ⟨q, off, none⟩ → q ∉ bU [(some lp, .loop rec), (some ob, bc [.slice r0.A r0.n r0.c] 159), r0.e]) (hmX : mb ∉ bU [(some lp, .loop rec), (some ob, bc [.slice r0.A r0.n r0.c] 159), r0.e]) :
    Calls Tryz.prog 196 #[.func (.yield lp) #[] #[], .pointer (some ⟨bb, 0, none⟩)] w (fun ex w' => ∃ v, ex = .returned v ∧ (fun v w' => v = .tuple #[] ∧ ∃ (r : Row) (T : List ((Int × Int) × Nat)), T.Perm L ∧ aX 119 2 r.A r.n r.c ((T.map (fun z => z.1)).map bG) r.e ∧ Mem w (bU [(some lp, .loop rec), (some ob, bc [.slice r0.A r0.n r0.c] 159), r0.e]) [(some lp, .loop rec), (some ob, bc [.slice r.A r.n r.c] 159), r.e] w') v w') := by
  rw [← fM bb]
  refine aJ #[] 14 Tryz.func196 rfl Tryz.results196 Tryz.ntmps196 rfl ?_
  have M0 := hO.mem
  refine aG (aB ?_)
  refine aA (eI (o := 0) (.map _) aVk (B1.memY M0 hd1) (show ([[.map (some mb)]] : List (List Value))[0]? = some ([.map (some mb)]) from rfl) rfl rfl) rfl rfl ?_
  refine aNj (α := Int × Int) Tryz.underlying230 M0 rfl rfl rfl ((M0.old mb hml hmX).trans hmb) (fun b1 w1 M1 => ?_)
  refine aE (aF (bA ?_))
  refine dI (σ := List ((Int × Int) × Nat) × Row) [0, 5] (fun (T, r) => []) (fun (T, r) w' => ((∀ p ∈ T, p ∈ L) ∧ (T.map (·.2)).Nodup ∧ aX 119 2 r.A r.n r.c ((T.map (fun z => z.1)).map bG) r.e) ∧ Mem w (bU [(some lp, .loop rec), (some ob, bc [.slice r0.A r0.n r0.c] 159), r0.e]) [(some lp, .loop rec), (some ob, bc [.slice r.A r.n r.c] 159), r.e, (some b1, oM mb clock T)] w') (fun (T, r) => L.length - T.length) ([], r0) eV (⟨⟨(fun p hp => nomatch hp), by simp, hr0⟩, M1⟩) ?_
  rintro ⟨T, r⟩ ρ2 w2 ⟨⟨hTs, hTn, hr⟩, hM2⟩
  have hrl : T.length = r.n := by simpa using hr.1
  have hTl := aAf hTn hTs
  refine aG (aB ?_)
  refine aPl (enc := bG) 3 hM2 rfl rfl rfl rfl ((hM2.old mb hml hmX).trans hmb) hS.lt (fun hover => ?_) (fun p3 w3 hp3 hnp3 M3 => ?_)
  · refine aA (bE (.bool false) rfl rfl) rfl rfl ?_
    refine aE (aF (aG ?_))
    refine cH rfl ?_
    refine cK ?_
    refine dB ?_
    refine cY ?_
    refine eN ?_
    refine gM ?_
    exact ⟨rfl, r, T, aMd hS.nd hTn hTs hover, hr, hM2.keep [true, true, true, false]⟩
  · refine aA (bE (.bool true) rfl rfl) rfl rfl ?_
    refine aE (aF (aG ?_))
    refine dP rfl ?_
    refine aN (aF (bA (aG (aB ?_))))
    refine aA (aQi (enc := bG) 3 (p3) M3 rfl rfl ((M3.old mb hml hmX).trans hmb) hp3 hS.nd) rfl rfl ?_
    refine aA (bE (.agg (List.toArray _)) rfl rfl) rfl rfl ?_
    refine aS mX M3 rfl rfl (fun b4 w4 M4 => ?_)
    refine bJ 4 _ eT M4 rfl rfl rfl rfl rfl (aU rfl) rfl (fun w5 M5 => ?_)
    refine aE (aF (aG ?_))
    refine wM ?_
    refine xJ (aC (.func _ _ _) rfl) rfl rfl ?_
    refine xJ (bB 4 eT M5 rfl rfl rfl) rfl rfl ?_
    obtain ⟨fy, ty, ay, by1, hy1, hy2⟩ := hY _ r ((T.map (fun z => z.1)).map bG) (bG p3.1) ⟨_, _, rfl⟩ (by omega) hr (M5.ownSeg 0 3)
    refine wI rfl rfl rfl rfl hy1 (hy2.mono ?_)
    rintro _ w6 ⟨rfl, q6, hqn6, hq6, hM6⟩
    have M6 : Mem _ _ [_, _, _, _, _] _ := M5.seg 0 3 hM6
    refine ⟨_, rfl, ?_⟩
    refine aMi rfl (fun _ _ h => h) ?_
    refine aA (kF false rfl rfl) rfl rfl ?_
    refine aE (aF ?_)
    refine cH rfl ?_
    refine aN ?_
    refine dJ ?_
    have hTs2 : ∀ p ∈ T ++ [p3], p ∈ L := fun p hp => (List.mem_append.1 hp).elim (hTs p) (fun h => by rw [List.mem_singleton] at h; rw [h]; exact hp3)
    have hTn2 := aIq hTn hnp3
    have hTl2 := aAf hTn2 hTs2
    rw [List.length_append, List.length_singleton] at hTl2
    refine cF (T ++ [p3], q6) eV (cL rfl (cL rfl iI)) ?_ ?_
    · exact ⟨⟨hTs2, hTn2, by rw [List.map_append, List.map_append]; exact hq6⟩, M6.keep [true, true, true, true, false]⟩
    · (show L.length - (T ++ [p3]).length < L.length - T.length; rw [List.length_append, List.length_singleton]; omega)
set_option maxHeartbeats 4000000 in
theorem pH (w : World) (bb : Nat) (mb clock : Nat) (L : List ((Int × Int) × Nat)) (hmb : w.heap[mb]? = some (fU bG L clock)) (hml : mb < w.heap.size) (hS : SetOk L clock) (hLN : L.length < 1099511627776) (B1 : Rd w 1 (some ⟨bb, 0, none⟩) 1 [[.map (some mb)]]) :
    Calls Tryz.prog 218 #[.slice none 0 0, .func (.func 196) #[] #[.pointer (some ⟨bb, 0, none⟩)]] w (fun ex w' => ∃ v, ex = .returned v ∧ (fun v w' => ∃ (r : Row) (T : List ((Int × Int) × Nat)), T.Perm L ∧ v = .slice r.A r.n r.c ∧ aX 119 2 r.A r.n r.c ((T.map (fun z => z.1)).map bG) r.e ∧ Mem w [] [r.e] w') v w') := by
  refine rO #[.tmp 4] 13 Tryz.func218 rfl Tryz.results218 Tryz.ntmps218 rfl ?_
  have M0 := Mem.refl w
  refine lK ?_
  refine jB ?_
  refine bK (.slice _ _ _) M0 rfl rfl rfl (fun b1 w1 M1 => ?_)
  refine aA (aD (.slice _ _ _) rfl) rfl rfl ?_
  refine aE ?_
  refine lJ ?_
  refine lK ?_
  refine lK ?_
  refine jB ?_
  refine aA (aC (.func _ _ _) rfl) rfl rfl ?_
  refine aE ?_
  refine lJ ?_
  refine aBm ?_
  have M2 : Mem _ _ [_, _] _ := M1.dummy default
  refine zR aSk M2 rfl (fun fnn B lp tmps w1 hρ hn M1 => ?_)
  refine uS (P := Tryz.prog) (ob := b1) (Tsl := 159) (Te := 119) (sz := 2) (N := 1099511627776) (ok := (fun x => ∃ a b, x = [.int .u32 a, .int .u32 b])) M1 ?_ (fun hY => ?_)
  · intro wr r ls x hok hlt hrow hO
    obtain ⟨xa, xb, rfl⟩ := hok
    refine ⟨_, _, _, _, aAe hO rfl rfl rfl hn (by decide) hρ ?_⟩
    have MR0 := hO.mem
    refine nK rfl (fun _ _ h => nomatch h.1) ?_
    refine aS mX MR0 rfl rfl (fun b3 w3 M3 => ?_)
    refine bJ 3 _ eT M3 rfl rfl rfl rfl rfl (aU rfl) rfl (fun w4 M4 => ?_)
    refine aE ?_
    refine ⟨rfl, _, M4, rfl, fun w5 M5 => ?_⟩
    refine aCh ?_
    refine nK rfl (fun _ _ h => nomatch h.1) ?_
    refine aA (aZ 1 (.slice _ _ _) aDq M5 rfl rfl rfl) rfl rfl ?_
    refine aA (bB 3 eT M5 rfl rfl rfl) rfl rfl ?_
    refine cM [.agg (List.toArray _)] [[.int .u32 xa, .int .u32 xb]] rfl oV M5 rfl rfl rfl rfl (cW rfl) (by decide) (fun b6 w6 M6 => ?_)
    refine dM 2 [[.int .u32 xa, .int .u32 xb]] oV M6 rfl rfl rfl rfl rfl hrow rfl (by simp [Go.Bil.one]) (cO.ofMem 4 M6 rfl) (by omega) (fun A7 c7 e7 w7 M7 hR7 => ?_)
    refine eC 1 (.slice _ _ _) aDq M7 rfl rfl rfl rfl rfl rfl (fun w8 M8 => ?_)
    refine aE ?_
    refine dJ ?_
    refine ⟨rfl, _, M8, rfl, fun w9 M9 => ?_⟩
    exact ⟨⟨A7, r.n + 1, c7, e7⟩, rfl, hR7, M9.keep [true, true, true, false, false]⟩
  · refine (zK _ bb mb clock L ((M1.old mb hml List.not_mem_nil).trans hmb) (Nat.lt_of_lt_of_le hml M1.size) hS hLN (B1.mem M1) lp b1 _ hY ⟨none, 0, 0, (none, default)⟩ (aX.nil _ _ _) (M1.ownSeg 0 3) (M1.away 0 3 B1 (fun _ q off _ h => by simp at h)) (M1.notNew 3 hml)).mono ?_
    rintro _ w5 ⟨v5, rfl, rfl, r, T, hT, hr, hM⟩
    have M5 : Mem _ _ (_ :: [_, _, _]) _ := M1.seg 0 3 hM
    refine ⟨_, rfl, _, M5, fun w6 M6 => ?_⟩
    refine aRh ?_
    refine lJ ?_
    refine lK ?_
    refine wN ?_
    refine aFx (aZ 1 (.slice _ _ _) aDq M6 rfl rfl rfl) rfl rfl ?_
    refine aFx (aD (.slice _ _ _) rfl) rfl rfl ?_
    refine aFk ?_
    refine lJ ?_
    refine aJt ?_
    refine aSg (i := 3) (.slice _ _ _) rfl M6 rfl (fun w9 M9 => ?_)
    exact ⟨r, T, hT, rfl, hr, M9.keep [false, false, true, false]⟩
set_option maxHeartbeats 4000000 in
theorem rT (w : World) (bb : Nat) (mb clock : Nat) (L : List ((Int × Int) × Nat)) (hmb : w.heap[mb]? = some (fU bG L clock)) (hml : mb < w.heap.size) (hS : SetOk L clock) (hLN : L.length < 1099511627776) (B1 : Rd w 1 (some ⟨bb, 0, none⟩) 1 [[.map (some mb)]]) :
    Calls Tryz.prog 194 #[.func (.func 196) #[] #[.pointer (some ⟨bb, 0, none⟩)]] w (fun ex w' => ∃ v, ex = .returned v ∧ (fun v w' => ∃ (r : Row) (T : List ((Int × Int) × Nat)), T.Perm L ∧ v = .slice r.A r.n r.c ∧ aX 119 2 r.A r.n r.c ((T.map (fun z => z.1)).map bG) r.e ∧ Mem w [] [r.e] w') v w') := by
  refine aJ #[.tmp 2] 5 Tryz.func194 rfl Tryz.results194 Tryz.ntmps194 rfl ?_
  have M0 := Mem.refl w
  refine aG (aB ?_)
  refine aA (aD (.slice _ _ _) rfl) rfl rfl ?_
  refine aE (aF (aG (aB ?_)))
  refine aA (aC (.func _ _ _) rfl) rfl rfl ?_
  refine aL aTc rfl rfl rfl ?_
  refine (pH _ bb mb clock L ((M0.old mb hml List.not_mem_nil).trans hmb) (Nat.lt_of_lt_of_le hml M0.size) hS hLN (B1.mem M0)).mono ?_
  rintro _ w1 ⟨v1, rfl, ⟨r, T, hT, rfl, hr, hM1⟩⟩
  refine ⟨_, rfl, ?_⟩
  have M1 : Mem _ _ [_] _ := M0.call0 hM1
  refine aA (aD (.slice _ _ _) rfl) rfl rfl ?_
  refine aE (aF (aR ?_))
  refine cI (.slice _ _ _) rfl ?_
  exact ⟨r, T, hT, rfl, hr, M1⟩
set_option maxHeartbeats 4000000 in
theorem oA (w : World) (bb : Nat) (mb clock : Nat) (L : List ((Int × Int) × Nat)) (hmb : w.heap[mb]? = some (fU bG L clock)) (hml : mb < w.heap.size) (hS : SetOk L clock) (hLN : L.length < 1099511627776) (B1 : Rd w 1 (some ⟨bb, 0, none⟩) 1 [[.map (some mb)]]) :
    Calls Tryz.prog 168 #[.func (.func 196) #[] #[.pointer (some ⟨bb, 0, none⟩)], .func (.func 170) #[] #[]] w (fun ex w' => ∃ v, ex = .returned v ∧ (fun v w' => ∃ (r : Row) (ys : List (Int × Int)), Asc ys ∧ (∀ z, z ∈ ys ↔ z ∈ L.map (·.1)) ∧ v = .slice r.A r.n r.c ∧ aX 119 2 r.A r.n r.c ((ys).map bG) r.e ∧ Mem w [] [r.e] w') v w') := by
  refine aJ #[.tmp 4] 12 Tryz.func168 rfl Tryz.results168 Tryz.ntmps168 rfl ?_
  have M0 := Mem.refl w
  refine aG (aB ?_)
  refine aA (aD (.slice _ _ _) rfl) rfl rfl ?_
  refine aE (aF (aG (aB ?_)))
  refine aA (aC (.func _ _ _) rfl) rfl rfl ?_
  refine aL aTr rfl rfl rfl ?_
  refine (rT _ bb mb clock L ((M0.old mb hml List.not_mem_nil).trans hmb) (Nat.lt_of_lt_of_le hml M0.size) hS hLN (B1.mem M0)).mono ?_
  rintro _ w1 ⟨v1, rfl, ⟨r, T, hT, rfl, hr, hM1⟩⟩
  refine ⟨_, rfl, ?_⟩
  have M1 : Mem _ _ [_] _ := M0.call0 hM1
  have hrl : T.length = r.n := by simpa using hr.1
  have hTL := hT.length_eq
  refine aA (aD (.slice _ _ _) rfl) rfl rfl ?_
  refine aE (aF (aG (aB ?_)))
  refine aA (aC (.slice _ _ _) rfl) rfl rfl ?_
  refine aA (aC (.func _ _ _) rfl) rfl rfl ?_
  refine aL aUh rfl rfl rfl ?_
  refine (vC _ _ _ _ (T.map (fun z => z.1)) _ hr (M1.ownAt (i := 0) rfl) (by omega)).mono ?_
  rintro _ w2 ⟨v2, rfl, ⟨rfl, ys, e2, hpp, huu, hR2, hM2⟩⟩
  refine ⟨_, rfl, ?_⟩
  have M2 : Mem _ _ [_] _ := M1.seg 0 1 hM2
  refine aE (aF (aG (aB ?_)))
  refine aA (aC (.slice _ _ _) rfl) rfl rfl ?_
  refine aA (aD (.slice _ _ _) rfl) rfl rfl ?_
  refine aE (aF (aR ?_))
  refine cI (.slice _ _ _) rfl ?_
  have hpl : ys.Perm (L.map (·.1)) := hpp.trans (hT.map _)
  exact ⟨⟨r.A, r.n, r.c, e2⟩, ys, aVg (hpl.nodup_iff.2 hS.keys) huu, fun z => hpl.mem_iff, rfl, hR2, M2⟩
end Go.Proofs.YtlmcphcgiclanaaGreatDoor

namespace Go.Proofs.YtlmcphcgiclanaaGreatDoor
open Go.Bil
open Go.RowKit (Below)
open Go.Proofs
set_option maxHeartbeats 16000000 in
theorem rW (w : World) (b : Nat) (rs : List Row) (cnt : Int) (g : Nat → List Int) (hlen : rs.length = 1024) (G : Rd w 1025 (some ⟨b, 0, none⟩) 1 [cQ rs cnt]) (hrow : ∀ (j : Nat) (r : Row), rs[j]? = some r → Rd w 1 r.A r.n ((g j).map gD) ∧ r.n ≤ r.c) (ks : List Int) (hks : ∀ j, j < 1024 → ∀ x ∈ g j, x ∈ ks) (hkl : ks.length ≤ 65536) :
    Calls Tryz.prog 136 #[.pointer (some ⟨b, 0, none⟩)] w (fun ex w' => ∃ v, ex = .returned v ∧ (fun v w' => ∃ (r : Row) (ps : List (Int × Int)), Asc ps ∧ (∀ z, z ∈ ps ↔ z ∈ kR g 1024) ∧ v = .slice r.A r.n r.c ∧ aX 119 2 r.A r.n r.c ((ps).map bG) r.e ∧ Mem w [] [r.e] w') v w') := by
  rw [← fM b]
  refine aJ #[.tmp 2] 49 Tryz.func136 rfl Tryz.results136 Tryz.ntmps136 rfl ?_
  have M0 := Mem.refl w
  refine aG (aB ?_)
  refine aA (aD (.slice _ _ _) rfl) rfl rfl ?_
  refine aE (aF (aG (aG (aB ?_))))
  refine aA (aC (pS _ _) rfl) rfl rfl ?_
  refine aA (aAg Tryz.underlying222 (G.mem M0) (show ([cQ rs cnt] : List (List Value))[0]? = some (cQ rs cnt) from rfl) rfl) rfl rfl ?_
  refine aE (aF ?_)
  refine cH rfl ?_
  refine aN (aF (aG (aB ?_)))
  refine lH M0 rfl rfl (fun b1 w1 M1 => ?_)
  refine aA (aD (.map _) rfl) rfl rfl ?_
  refine aE (aF (aG (aG (aB ?_))))
  refine aA (aC (pS _ _) rfl) rfl rfl ?_
  refine aA (aBz (G.mem M1) (Nat.lt_of_le_of_lt (Nat.zero_le _) ((G.mem M1).below_len (show ([cQ rs cnt] : List (List Value))[0]? = some (cQ rs cnt) from rfl))) rfl) rfl rfl ?_
  refine aA (bM 0 tC (G.mem M1) (Nat.lt_of_le_of_lt (Nat.zero_le _) ((G.mem M1).below_len (show ([cQ rs cnt] : List (List Value))[0]? = some (cQ rs cnt) from rfl))) rfl) rfl rfl ?_
  refine aA (lU (o := 0) (rs.map (fun r => Value.slice r.A r.n r.c)) aUe (G.mem M1) (show ([cQ rs cnt] : List (List Value))[0]? = some (cQ rs cnt) from rfl) rfl (aBv hlen) (by simp [hlen])) rfl rfl ?_
  refine aA (aC (.int _ _) rfl) rfl rfl ?_
  refine aE (aF (bA ?_))
  refine dI (σ := Nat × Nat × List ((Int × Int) × Nat)) [2, 3, 16] (fun (i, c0, L0) => [(17, .int .i64 (i : Int))]) (fun (i, c0, L0) w' => i ≤ 1024 ∧ (SetOk L0 c0 ∧ ∀ z, z ∈ L0.map (fun z => z.1) ↔ z ∈ kR g i) ∧ Mem w [] [(some b1, fU bG L0 c0)] w') (fun (i, c0, L0) => 1024 - i) (0, 0, []) (bS rfl eV) (⟨by omega, ⟨SetOk.nil, fun z => by simp [kR]⟩, M1⟩) ?_
  rintro ⟨i, c0, L0⟩ ρ2 w2 ⟨hi, ⟨hS0, hI0⟩, hM2⟩
  refine aG (aB ?_)
  refine aA (aO (.bool (decide _)) rfl rfl rfl) rfl rfl ?_
  refine aE (aF (aG ?_))
  refine aY rfl (fun h18 => ?_) (fun h18 => ?_)
  · obtain ⟨rj, hrj⟩ := cN (xs := rs) (k := i) hlen (by omega)
    obtain ⟨Rj, hcj⟩ := hrow i rj hrj
    have hlj : (g i).length = rj.n := by simpa using Rj.len
    have hbj := Rj.bound
    refine aN (aF (aG (bA (aG (aB ?_)))))
    refine aA (tG (i) (.slice rj.A rj.n rj.c) aEh yK rfl rfl (by omega) (by omega) rfl (by rw [kM]; exact aK _ hrj)) rfl rfl ?_
    refine aA (aD (.slice _ _ _) rfl) rfl rfl ?_
    refine aE (aF (aG (aB ?_)))
    refine aA (aC (.slice _ _ _) rfl) rfl rfl ?_
    refine aA (cS Tryz.underlying188 rfl) rfl rfl ?_
    refine aA (aC (.int _ _) rfl) rfl rfl ?_
    refine aE (aF (bA ?_))
    refine dI (σ := Nat × Nat × List ((Int × Int) × Nat)) [2, 3, 5, 16, 17, 20, 21] (fun (p, c2, L2) => [(22, .int .i64 (p : Int))]) (fun (p, c2, L2) w' => p ≤ rj.n ∧ (SetOk L2 c2 ∧ ∀ z, z ∈ L2.map (fun z => z.1) ↔ z ∈ kR g i ++ rI (g i) p) ∧ Mem w [] [(some b1, fU bG L2 c2)] w') (fun (p, c2, L2) => rj.n - p) (0, c0, L0) (bS rfl eV) (⟨by omega, ⟨hS0, fun z => by rw [hI0 z]; simp [rI]⟩, hM2⟩) ?_
    rintro ⟨p, c2, L2⟩ ρ3 w3 ⟨hp, ⟨hS2, hI2⟩, hM3⟩
    refine aG (aB ?_)
    refine aA (aO (.bool (decide _)) rfl rfl rfl) rfl rfl ?_
    refine aE (aF (aG ?_))
    refine aY rfl (fun h23 => ?_) (fun h23 => ?_)
    · obtain ⟨xa, hxa⟩ := cN (xs := g i) (k := p) hlj (by omega)
      refine aN (aF (aG (bA (aG (aB ?_)))))
      refine aA (aC (.int _ _) rfl) rfl rfl ?_
      refine aA (bO (p) aAr rfl rfl rfl ((Rj.mem hM3).below_len (aK gD hxa)) ((Rj.mem hM3).someK (aK gD hxa))) rfl rfl ?_
      refine aA (jJ (.int _ _) cR (Rj.mem hM3) (aK gD hxa) rfl) rfl rfl ?_
      refine aA (aD (.int _ _) rfl) rfl rfl ?_
      refine aA (aD (.int _ _) rfl) rfl rfl ?_
      refine aE (aF (aG (aB ?_)))
      refine aA (aC (.slice _ _ _) rfl) rfl rfl ?_
      refine aA (aC (.int _ _) rfl) rfl rfl ?_
      refine aA (yS (0) ((p : Int)) aAr rfl rfl ⟨_, rfl⟩ (by decide) (by omega) (by omega)) rfl rfl ?_
      refine aA (cS Tryz.underlying188 rfl) rfl rfl ?_
      refine aA (aC (.int _ _) rfl) rfl rfl ?_
      refine aE (aF (bA ?_))
      refine dI (σ := Nat × Nat × List ((Int × Int) × Nat)) [2, 3, 5, 7, 16, 17, 20, 21, 22, 29, 30] (fun (q, c4, L4) => [(31, .int .i64 (q : Int))]) (fun (q, c4, L4) w' => q ≤ p ∧ (SetOk L4 c4 ∧ ∀ z, z ∈ L4.map (fun z => z.1) ↔ z ∈ (kR g i ++ rI (g i) p) ++ rU xa ((g i).take q)) ∧ Mem w [] [(some b1, fU bG L4 c4)] w') (fun (q, c4, L4) => p - q) (0, c2, L2) (bS rfl eV) (⟨by omega, ⟨hS2, fun z => by rw [hI2 z]; simp [rU]⟩, hM3⟩) ?_
      rintro ⟨q, c4, L4⟩ ρ4 w4 ⟨hq, ⟨hS4, hI4⟩, hM4⟩
      refine aG (aB ?_)
      refine aA (aO (.bool (decide _)) rfl rfl rfl) rfl rfl ?_
      refine aE (aF (aG ?_))
      refine aY rfl (fun h32 => ?_) (fun h32 => ?_)
      · obtain ⟨xb, hxb⟩ := cN (xs := g i) (k := q) hlj (by omega)
        refine aN (aF (aG (bA (aG (aB ?_)))))
        refine aA (bO (q) aAr rfl rfl rfl (((Rj.mem hM4).sub 0 p (by omega) (by omega) hcj).below_len (tW hxb (by omega))) (((Rj.mem hM4).sub 0 p (by omega) (by omega) hcj).someK (tW hxb (by omega)))) rfl rfl ?_
        refine aA (jJ (.int _ _) cR ((Rj.mem hM4).sub 0 p (by omega) (by omega) hcj) (tW hxb (by omega)) rfl) rfl rfl ?_
        refine aA (aD (.int _ _) rfl) rfl rfl ?_
        refine aE (aF (aG (aB ?_)))
        refine aA (aC (.int _ _) rfl) rfl rfl ?_
        refine aA (aC (.int _ _) rfl) rfl rfl ?_
        refine aA (aO (.bool (decide _)) rfl rfl rfl) rfl rfl ?_
        refine aE (aF ?_)
        refine aY rfl (fun h37 => ?_) (fun h37 => ?_)
        · refine aB ?_
          refine aA (aC (.map _) rfl) rfl rfl ?_
          refine aA (aC (.int _ _) rfl) rfl rfl ?_
          refine aA (aC (.int _ _) rfl) rfl rfl ?_
          refine aL aUr rfl rfl rfl ?_
          refine (aGi _ xa xb).mono ?_
          rintro _ w5 ⟨v5, rfl, ⟨rfl, hb5⟩⟩
          refine ⟨_, rfl, ?_⟩
          have M5 := hM4.callB hb5
          refine aA (cC [] _ aJg rfl rfl) rfl rfl ?_
          refine aIo (enc := bG) 0 (vG xa xb) aJx M5 rfl rfl hS4 rfl rfl rfl (fun L6 c6 w6 hS6 hZ6 hN6 M6 => ?_)
          refine aE ?_
          refine dJ ?_
          refine aF (aB ?_)
          refine aA (bX rfl rfl (by omega) (by omega)) rfl rfl ?_
          refine aA (aC (.int _ _) rfl) rfl rfl ?_
          refine aE ?_
          refine cF (q + 1, c6, L6) (bS rfl eV) (cL rfl (cL rfl (cL rfl (cL rfl (cL rfl (cL rfl (cL rfl (cL rfl (cL rfl (cL rfl (cL rfl iI))))))))))) ?_ ?_
          · exact ⟨by omega, ⟨hS6, aJi hZ6 hI4 hxb h37⟩, M6⟩
          · (show p - (q + 1) < p - q; omega)
        · refine aN ?_
          refine dJ ?_
          refine aF (aB ?_)
          refine aA (bX rfl rfl (by omega) (by omega)) rfl rfl ?_
          refine aA (aC (.int _ _) rfl) rfl rfl ?_
          refine aE ?_
          refine cF (q + 1, c4, L4) (bS rfl eV) (cL rfl (cL rfl (cL rfl (cL rfl (cL rfl (cL rfl (cL rfl (cL rfl (cL rfl (cL rfl (cL rfl iI))))))))))) ?_ ?_
          · exact ⟨by omega, ⟨hS4, aIy hI4 hxb h37⟩, hM4⟩
          · (show p - (q + 1) < p - q; omega)
      · have hqp : q = p := by omega
        refine cK ?_
        refine dB ?_
        refine cY ?_
        refine eN ?_
        refine dJ ?_
        refine aF (aB ?_)
        refine aA (bX rfl rfl (by omega) (by omega)) rfl rfl ?_
        refine aA (aC (.int _ _) rfl) rfl rfl ?_
        refine aE ?_
        refine cF (p + 1, c4, L4) (bS rfl eV) (cL rfl (cL rfl (cL rfl (cL rfl (cL rfl (cL rfl (cL rfl iI))))))) ?_ ?_
        · exact ⟨by omega, ⟨hS4, fun z => by rw [hI4 z, aEg hxa, ← hqp, List.append_assoc]⟩, hM4⟩
        · (show rj.n - (p + 1) < rj.n - p; omega)
    · have hpn : p = rj.n := by omega
      refine cK ?_
      refine dB ?_
      refine cY ?_
      refine eN ?_
      refine dJ ?_
      refine aF (aB ?_)
      refine aA (bX rfl rfl (by omega) (by omega)) rfl rfl ?_
      refine aA (aC (.int _ _) rfl) rfl rfl ?_
      refine aE ?_
      refine cF (i + 1, c2, L2) (bS rfl eV) (cL rfl (cL rfl (cL rfl iI))) ?_ ?_
      · exact ⟨by omega, ⟨hS2, fun z => by rw [hI2 z, aDe]; unfold aOe; rw [hlj, ← hpn]⟩, hM3⟩
      · (show 1024 - (i + 1) < 1024 - i; omega)
  · have hi' : i = 1024 := by omega
    rw [hi'] at hI0
    have hLb : (L0.map (fun z => z.1)).length ≤ (uB ks).length := tY hS0.keys (fun z hz => aGs hks ((hI0 z).1 hz))
    rw [List.length_map, aIh] at hLb
    have hkk : ks.length * ks.length ≤ 65536 * 65536 := Nat.mul_le_mul hkl hkl
    refine cK ?_
    refine dB ?_
    refine cY ?_
    refine eN ?_
    refine aF (aG (aB ?_))
    refine aA (aC (.map _) rfl) rfl rfl ?_
    refine aL aSv rfl rfl rfl ?_
    refine (aEb _ b1).mono ?_
    rintro _ w7 ⟨v7, rfl, ⟨bb, rfl, hM7⟩⟩
    refine ⟨_, rfl, ?_⟩
    have M7 : Mem _ _ [_, _] _ := hM2.call0 hM7
    refine aL aVb rfl rfl rfl ?_
    refine (oA _ bb b1 c0 L0 (M7.at_ (i := 0) rfl) (M7.lt List.mem_cons_self) hS0 (by omega) (nS 1 M7 rfl rfl)).mono ?_
    rintro _ w8 ⟨v8, rfl, ⟨r, ys, hasc, hys, rfl, hr, hM8⟩⟩
    refine ⟨_, rfl, ?_⟩
    have M8 : Mem _ _ [_, _, _] _ := M7.call0 hM8
    refine aA (aD (.slice _ _ _) rfl) rfl rfl ?_
    refine aE (aF (aR ?_))
    refine cI (.slice _ _ _) rfl ?_
    exact ⟨r, ys, hasc, fun z => (hys z).trans (hI0 z), rfl, hr, M8.keep [false, false, true]⟩
end Go.Proofs.YtlmcphcgiclanaaGreatDoor

namespace Go.Proofs.YtlmcphcgiclanaaGreatDoor
open Go.Bil
open Go.RowKit (Below)
open Go.Proofs
set_option maxHeartbeats 4000000 in
theorem zT (w : World) (A : Option Addr) (n c : Nat) (xs : List Body) (R : Rd w 10 A n (xs.map aI)) (hb : ∀ b ∈ xs, Okb b) :
    Calls Tryz.prog 132 #[.slice A n c] w (fun ex w' => ∃ v, ex = .returned v ∧ (fun v w' => ∃ (pm : Nat) (em : dL), v = .map (some pm) ∧ hJ .u32 nV (bxM xs) (some pm) em ∧ Mem w [] [em] w') v w') := by
  have hlen : xs.length = n := by simpa using R.len
  have hbd := R.bound
  refine aJ #[.tmp 2] 20 Tryz.func132 rfl Tryz.results132 Tryz.ntmps132 rfl ?_
  have M0 := Mem.refl w
  refine aG (aB ?_)
  refine aA (aD (.map _) rfl) rfl rfl ?_
  refine aE (aF (aG (aB ?_)))
  refine lH M0 rfl rfl (fun b1 w1 M1 => ?_)
  refine aA (aD (.map _) rfl) rfl rfl ?_
  refine aE (aF (aG (aG (aB ?_))))
  refine aA (aC (.slice _ _ _) rfl) rfl rfl ?_
  refine aA (cS Tryz.underlying22 rfl) rfl rfl ?_
  refine aA (aC (.int _ _) rfl) rfl rfl ?_
  refine aE (aF (bA ?_))
  refine dI (σ := Nat × dL) [2, 3, 7, 8] (fun (k, em) => [(9, .int .i64 (k : Int))]) (fun (k, em) w' => (k ≤ n ∧ hJ .u32 nV (bxM (xs.take k)) (some b1) em) ∧ Mem w [] [em] w') (fun (k, em) => n - k) (0, (some b1, .map #[] 0)) (bS rfl eV) (⟨⟨by omega, (hJ.empty _ _ b1).congr (fun q => by rw [List.take_zero]; exact aOn q)⟩, M1⟩) ?_
  rintro ⟨k, em⟩ ρ2 w2 ⟨⟨hk, hme⟩, hM2⟩
  refine aG (aB ?_)
  refine aA (aO (.bool (decide _)) rfl rfl rfl) rfl rfl ?_
  refine aE (aF (aG ?_))
  refine aY rfl (fun h10 => ?_) (fun h10 => ?_)
  · obtain ⟨xb, hxb⟩ := cN (k := k) hlen (by omega)
    refine aN (aF (aG (bA (aG (aB ?_)))))
    refine aA (bO (k) dD rfl rfl rfl ((R.mem hM2).below_len (aK aI hxb)) ((R.mem hM2).someK (aK aI hxb))) rfl rfl ?_
    refine aA (dO _ bW (R.mem hM2) (aK aI hxb) rfl) rfl rfl ?_
    refine aS kD hM2 rfl rfl (fun b3 w3 M3 => ?_)
    refine bJ 1 _ bW M3 rfl rfl rfl rfl rfl (aU rfl) rfl (fun w4 M4 => ?_)
    refine aE (aF ?_)
    refine bZ [(0, 0), (1, 0), (2, 1), (3, 1), (4, 2), (5, 2)] mixed rfl (by kernel_rfl) (fun w5 hb5 hh5 => ?_)
    have M5 := M4.drew hb5 hh5
    refine aW rfl rfl rfl (fun _ => aC (.map _) rfl) ?_
    refine aW rfl rfl rfl (fun _ => aH 0 dR rfl) ?_
    refine cB rfl rfl rfl (aZ 1 (.int _ _) cR M5 rfl rfl rfl) ?_
    refine cB rfl rfl rfl (bB 1 bW M5 rfl rfl rfl) ?_
    refine eB [true, false] rfl (by kernel_rfl) ?_
    refine aL aUg rfl rfl rfl ?_
    refine (aUy _ xb (hb xb (List.mem_of_getElem? hxb))).mono ?_
    rintro _ w6 ⟨v6, rfl, ⟨rfl, hb6⟩⟩
    refine ⟨_, rfl, ?_⟩
    have M6 := M5.callB hb6
    refine aE (aF ⟨(kO (dG rfl (aZ 1 (.int _ _) cR M6 rfl rfl rfl)) dZ), ?_⟩)
    refine eB [true] rfl (by kernel_rfl) ?_
    refine lP (enc := nV) 0 zB M6 rfl rfl hme rfl rfl rfl rfl (fun e7 w7 hm7 M7 => ?_)
    refine aE (aF ⟨dZ, ?_⟩)
    refine cE ?_
    refine dJ ?_
    refine aF (aB ?_)
    refine aA (bX rfl rfl (by omega) (by omega)) rfl rfl ?_
    refine aA (aC (.int _ _) rfl) rfl rfl ?_
    refine aE ?_
    refine cF (k + 1, e7) (bS rfl eV) (cL rfl (cL rfl (cL rfl (cL rfl iI)))) ?_ ?_
    · exact ⟨⟨by omega, hm7.congr (fun q => aJp hxb q)⟩, M7.keep [true, false]⟩
    · (show n - (k + 1) < n - k; omega)
  · have hkn : k = n := by omega
    rw [List.take_of_length_le (by omega)] at hme
    refine cK ?_
    refine dB ?_
    refine cY ?_
    refine eN ?_
    refine aF (aG (aB ?_))
    refine aA (aC (.map _) rfl) rfl rfl ?_
    refine aA (aD (.map _) rfl) rfl rfl ?_
    refine aE (aF (aR ?_))
    refine cI (.map _) rfl ?_
    exact ⟨_, _, rfl, hme, hM2⟩
set_option maxHeartbeats 4000000 in
theorem tT (w : World) (pm : Nat) :
    Calls Tryz.prog 134 #[.map (some pm)] w (fun ex w' => ∃ v, ex = .returned v ∧ (fun v w' => ∃ bm bn, v = .tuple #[.func (.func 163) #[] #[.pointer (some ⟨bn, 0, none⟩), .pointer (some ⟨bm, 0, none⟩)], .func (.func 165) #[] #[.pointer (some ⟨bn, 0, none⟩)]] ∧ Mem w [] [(some bm, bc [.map (some pm)] 186), (some bn, bc [.int .i64 0] 3)] w') v w') := by
  refine aJ #[.tmp 2, .tmp 3] 8 Tryz.func134 rfl Tryz.results134 Tryz.ntmps134 rfl ?_
  have M0 := Mem.refl w
  refine aG (aB ?_)
  refine bK (.map _) M0 rfl rfl rfl (fun b1 w1 M1 => ?_)
  refine aA (aD (_) rfl) rfl rfl ?_
  refine aA (aD (_) rfl) rfl rfl ?_
  refine aE (aF (aG (aB ?_)))
  refine aS aVz M1 rfl rfl (fun b2 w2 M2 => ?_)
  refine eC 1 (.int _ _) kT M2 rfl rfl rfl rfl rfl rfl (fun w3 M3 => ?_)
  refine aE (aF (aG (aB ?_)))
  refine aA (dC [] [.pointer _, .pointer _] rfl rfl) rfl rfl ?_
  refine aA (aD (.func _ _ _) rfl) rfl rfl ?_
  refine aE (aF (aG (aB ?_)))
  refine aA (aC (.func _ _ _) rfl) rfl rfl ?_
  refine aA (dC [] [.pointer _] rfl rfl) rfl rfl ?_
  refine aA (aD (.func _ _ _) rfl) rfl rfl ?_
  refine aA (aD (.func _ _ _) rfl) rfl rfl ?_
  refine aE (aF (aR ?_))
  refine fG (.func _ _ _) (.func _ _ _) rfl rfl ?_
  exact ⟨b1, b2, rfl, M3⟩
set_option maxHeartbeats 4000000 in
theorem vQ (w : World) (bn : Nat) (m : Int) (K : Rd w 1 (some ⟨bn, 0, none⟩) 1 [[.int .i64 m]]) :
    Calls Tryz.prog 165 #[.pointer (some ⟨bn, 0, none⟩)] w (fun ex w' => ∃ v, ex = .returned v ∧ (fun v w' => v = .int .i64 m ∧ Below w.heap.size w w') v w') := by
  rw [← fM bn]
  refine aJ #[.tmp 1] 3 Tryz.func165 rfl Tryz.results165 Tryz.ntmps165 rfl ?_
  have M0 := Mem.refl w
  refine aG (aB ?_)
  refine aA (aD (.int _ _) rfl) rfl rfl ?_
  refine aE (aF (aG (aB ?_)))
  refine aA (eI (o := 0) (.int _ _) kT (K.mem M0) (show ([[.int .i64 m]] : List (List Value))[0]? = some [.int .i64 m] from rfl) rfl rfl) rfl rfl ?_
  refine aA (aD (.int _ _) rfl) rfl rfl ?_
  refine aE (aF (aR ?_))
  refine cI (.int _ _) rfl ?_
  exact ⟨rfl, M0.below⟩
set_option maxHeartbeats 4000000 in
theorem rP (w : World) (z : Int × Int) (bn bm m : Nat) (f : Int → Option Bx) (pm : Nat) (em : dL) (hme : hJ .u32 nV f (some pm) em) (B : Rd w 1 (some ⟨bm, 0, none⟩) 1 [[.map (some pm)]]) (N : Rd w 4 (some ⟨3, 0, none⟩) 1 [cT gT]) (hO : Own [(some bn, bc [.int .i64 (m : Int)] 3), em] w) (hdB : 0 < 1 → ∀ q off, (some ⟨bm, 0, none⟩ : Option Addr) = some ⟨q, off, none⟩ → q ∉ bU [(some bn, bc [.int .i64 (m : Int)] 3), em]) (hdN : 0 < 1 → ∀ q off, (some ⟨3, 0, none⟩ : Option Addr) = some ⟨q, off, none⟩ → q ∉ bU [(some bn, bc [.int .i64 (m : Int)] 3), em]) (hm : m ≤ 1125899906842624) :
    Calls Tryz.prog 163 #[(.agg (bG z).toArray), .pointer (some ⟨bn, 0, none⟩), .pointer (some ⟨bm, 0, none⟩)] w (fun ex w' => ∃ v, ex = .returned v ∧ (fun v w' => v = .bool (yV f z) ∧ Mem w (bU [(some bn, bc [.int .i64 (m : Int)] 3), em]) [(some bn, bc [.int .i64 ((m + 1 : Nat) : Int)] 3), em] w') v w') := by
  rw [← fM bm]
  refine aJ #[.tmp 4] 17 Tryz.func163 rfl Tryz.results163 Tryz.ntmps163 rfl ?_
  have M0 := hO.mem
  refine aG (aB ?_)
  refine bK (.agg (List.toArray _)) M0 rfl rfl rfl (fun b1 w1 M1 => ?_)
  refine aA (aD (.bool false) rfl) rfl rfl ?_
  refine aE (aF (aG (aB ?_)))
  refine aA (aZ 0 (.int _ _) kT M1 rfl rfl rfl) rfl rfl ?_
  refine aA (bX rfl rfl (by omega) (by omega)) rfl rfl ?_
  refine aM 6 (.int .i64 ((m + 1 : Nat) : Int)) (iE (by omega)) ?_
  refine eC 0 (.int _ _) kT M1 rfl rfl rfl rfl rfl rfl (fun w2 M2 => ?_)
  refine aE (aF (aG (aB ?_)))
  refine aA (eI (o := 0) (.map _) aMr (B.memY M2 hdB) (show ([[.map (some pm)]] : List (List Value))[0]? = some ([.map (some pm)]) from rfl) rfl rfl) rfl rfl ?_
  refine aA (aH 0 kU rfl) rfl rfl ?_
  refine aA (aZ 2 (.int _ _) cR M2 rfl rfl rfl) rfl rfl ?_
  refine aA (gR (enc := nV) z0B 1 zB aNq M2 rfl hme rfl rfl) rfl rfl ?_
  refine aA (eI (o := 0) (.map _) aMr (B.memY M2 hdB) (show ([[.map (some pm)]] : List (List Value))[0]? = some ([.map (some pm)]) from rfl) rfl rfl) rfl rfl ?_
  refine aA (aH 1 kQ rfl) rfl rfl ?_
  refine aA (aZ 2 (.int _ _) cR M2 rfl rfl rfl) rfl rfl ?_
  refine aA (gR (enc := nV) z0B 1 zB aNq M2 rfl hme rfl rfl) rfl rfl ?_
  refine aL aVl rfl rfl rfl ?_
  refine (aAt _ (N.memY M2 hdN) ((f z.1).getD z0B) ((f z.2).getD z0B)).mono ?_
  rintro _ w3 ⟨v3, rfl, ⟨rfl, hb3⟩⟩
  refine ⟨_, rfl, ?_⟩
  have M3 := M2.callB hb3
  refine aA (nW rfl) rfl rfl ?_
  refine aA (aD (.bool (decide _)) rfl) rfl rfl ?_
  refine aE (aF (aR ?_))
  refine cI (.bool (decide _)) rfl ?_
  exact ⟨rfl, M3.keep [true, true, false]⟩
set_option maxHeartbeats 4000000 in
theorem pD (w : World) (A : Option Addr) (n c : Nat) (zs : List (Int × Int)) (R : Rd w 2 A n (zs.map bG)) (bn bm m : Nat) (f : Int → Option Bx) (pm : Nat) (em : dL) (hme : hJ .u32 nV f (some pm) em) (B : Rd w 1 (some ⟨bm, 0, none⟩) 1 [[.map (some pm)]]) (N : Rd w 4 (some ⟨3, 0, none⟩) 1 [cT gT]) (hO : Own [(some bn, bc [.int .i64 (m : Int)] 3), em] w) (hdA : 0 < n → ∀ q off, A = some ⟨q, off, none⟩ → q ∉ bU [(some bn, bc [.int .i64 (m : Int)] 3), em]) (hdB : 0 < 1 → ∀ q off, (some ⟨bm, 0, none⟩ : Option Addr) = some ⟨q, off, none⟩ → q ∉ bU [(some bn, bc [.int .i64 (m : Int)] 3), em]) (hdN : 0 < 1 → ∀ q off, (some ⟨3, 0, none⟩ : Option Addr) = some ⟨q, off, none⟩ → q ∉ bU [(some bn, bc [.int .i64 (m : Int)] 3), em]) (hm : m + n ≤ 1125899906842624) (hn : n ≤ 1099511627776) :
    Calls Tryz.prog 166 #[.slice A n c, .func (.func 163) #[] #[.pointer (some ⟨bn, 0, none⟩), .pointer (some ⟨bm, 0, none⟩)]] w (fun ex w' => ∃ v, ex = .returned v ∧ (fun v w' => v = .int .i64 (if zs.findIdx (yV f) < n then (zs.findIdx (yV f) : Int) else -1) ∧ Mem w (bU [(some bn, bc [.int .i64 (m : Int)] 3), em]) [(some bn, bc [.int .i64 ((m + min n (zs.findIdx (yV f) + 1) : Nat) : Int)] 3), em] w') v w') := by
  have hlen : zs.length = n := by simpa using R.len
  refine aJ #[.tmp 4] 19 Tryz.func166 rfl Tryz.results166 Tryz.ntmps166 rfl ?_
  have M0 := hO.mem
  refine aG (aB ?_)
  refine aA (aD (.int _ _) rfl) rfl rfl ?_
  refine aE (aF (aG (aG (aB ?_))))
  refine aA (aC (.slice _ _ _) rfl) rfl rfl ?_
  refine aA (cS Tryz.underlying159 rfl) rfl rfl ?_
  refine aA (aC (.int _ _) rfl) rfl rfl ?_
  refine aE (aF (bA ?_))
  refine dI (σ := Nat) [0, 1, 7] (fun k => [(8, .int .i64 (k : Int))]) (fun k w' => (k ≤ n ∧ ∀ (j : Nat) (x : Int × Int), j < k → zs[j]? = some x → yV f x = false) ∧ Mem w (bU [(some bn, bc [.int .i64 (m : Int)] 3), em]) [(some bn, bc [.int .i64 ((m + k : Nat) : Int)] 3), em] w') (fun k => n - k) 0 (bS rfl eV) (⟨⟨by omega, fun j c hj => by omega⟩, M0⟩) ?_
  rintro k ρ1 w1 ⟨⟨hk, hno⟩, hM1⟩
  refine aG (aB ?_)
  refine aA (aO (.bool (decide _)) rfl rfl rfl) rfl rfl ?_
  refine aE (aF (aG ?_))
  refine aY rfl (fun h9 => ?_) (fun h9 => ?_)
  · obtain ⟨xz, hxz⟩ := cN (k := k) hlen (by omega)
    refine aN (aF (aG (bA (aG (aB ?_)))))
    refine aA (aC (.int _ _) rfl) rfl rfl ?_
    refine aA (aD (.int _ _) rfl) rfl rfl ?_
    refine aE (aF (aG (aB ?_)))
    refine aA (aC (.func _ _ _) rfl) rfl rfl ?_
    refine aA (aC (.slice _ _ _) rfl) rfl rfl ?_
    refine aA (aC (.int _ _) rfl) rfl rfl ?_
    refine aA (bO (k) oV rfl rfl rfl ((R.memY hM1 hdA).below_len (aK bG hxz)) ((R.memY hM1 hdA).someK (aK bG hxz))) rfl rfl ?_
    refine aA (dO _ eT (R.memY hM1 hdA) (aK bG hxz) rfl) rfl rfl ?_
    refine aL aKu rfl rfl rfl ?_
    refine (rP _ xz bn bm (m + k) f pm em hme (B.memY hM1 hdB) (N.memY hM1 hdN) (hM1.ownSeg 0 2) hdB hdN (by omega)).mono ?_
    rintro _ w2 ⟨v2, rfl, ⟨rfl, hM2⟩⟩
    refine ⟨_, rfl, ?_⟩
    have M2 : Mem _ _ [_, _] _ := hM1.seg 0 2 hM2
    refine aE (aF ?_)
    refine iJ _ rfl (fun h16 => ?_) (fun h16 => ?_)
    · refine aG (aB ?_)
      refine aA (aC (.int _ _) rfl) rfl rfl ?_
      refine aA (aD (.int _ _) rfl) rfl rfl ?_
      refine aE (aF (aR ?_))
      refine rS ?_
      refine cP ?_
      refine yZ ?_
      refine rS ?_
      refine cP ?_
      refine cI (.int _ _) rfl ?_
      have hfi := tV hxz h16 hno
      exact ⟨iE (by rw [hfi, if_pos (by omega)]), by rw [hfi, Nat.min_eq_right (by omega)]; exact M2⟩
    · refine aN ?_
      refine dJ ?_
      refine aF (aB ?_)
      refine aA (bX rfl rfl (by omega) (by omega)) rfl rfl ?_
      refine aA (aC (.int _ _) rfl) rfl rfl ?_
      refine aE ?_
      refine cF (k + 1) (bS rfl eV) (cL rfl (cL rfl (cL rfl iI))) ?_ ?_
      · exact ⟨⟨by omega, zH (p := fun _ x => yV f x = false) hno hxz h16⟩, M2⟩
      · omega
  · refine cK ?_
    refine dB ?_
    refine cY ?_
    refine eN ?_
    refine aF (aG (aB ?_))
    refine aA (aD (.int _ _) rfl) rfl rfl ?_
    refine aE (aF (aR ?_))
    refine cI (.int _ _) rfl ?_
    have hkn : k = n := by omega
    have hfi := uR (p := yV f) (l := zs) (fun j y hy => hno j y (by have := (List.getElem?_eq_some_iff.1 hy).1; omega) hy)
    exact ⟨iE (by rw [hfi, if_neg (by omega)]), by rw [hfi, Nat.min_eq_left (by omega), ← hkn]; exact hM1⟩
set_option maxHeartbeats 16000000 in
theorem oC (w : World) (A : Option Addr) (n c : Nat) (zs : List (Int × Int)) (er : dL) (hr : aX 119 2 A n c ((zs).map bG) er) (bn bm m : Nat) (f : Int → Option Bx) (pm : Nat) (em : dL) (hme : hJ .u32 nV f (some pm) em) (B : Rd w 1 (some ⟨bm, 0, none⟩) 1 [[.map (some pm)]]) (N : Rd w 4 (some ⟨3, 0, none⟩) 1 [cT gT]) (hO : Own [er, (some bn, bc [.int .i64 (m : Int)] 3), em] w) (hdB : 0 < 1 → ∀ q off, (some ⟨bm, 0, none⟩ : Option Addr) = some ⟨q, off, none⟩ → q ∉ bU [er, (some bn, bc [.int .i64 (m : Int)] 3), em]) (hdN : 0 < 1 → ∀ q off, (some ⟨3, 0, none⟩ : Option Addr) = some ⟨q, off, none⟩ → q ∉ bU [er, (some bn, bc [.int .i64 (m : Int)] 3), em]) (hm : m + n ≤ 1125899906842624) (hn : n ≤ 1099511627776) :
    Calls Tryz.prog 135 #[.slice A n c, .func (.func 163) #[] #[.pointer (some ⟨bn, 0, none⟩), .pointer (some ⟨bm, 0, none⟩)]] w (fun ex w' => ∃ v, ex = .returned v ∧ (fun v w' => ∃ r : Row, v = .slice r.A r.n r.c ∧ aX 119 2 r.A r.n r.c ((zs.filter (fun z => !yV f z)).map bG) r.e ∧ Mem w (bU [er, (some bn, bc [.int .i64 (m : Int)] 3), em]) [r.e, (some bn, bc [.int .i64 ((m + n : Nat) : Int)] 3), em] w') v w') := by
  have hlen : zs.length = n := by simpa using hr.1
  have hcap := hr.slice
  refine aJ #[.tmp 4] 42 Tryz.func135 rfl Tryz.results135 Tryz.ntmps135 rfl ?_
  have M0 := hO.mem
  refine aG (aB ?_)
  refine aA (aD (.slice _ _ _) rfl) rfl rfl ?_
  refine aE (aF (aG (aB ?_)))
  refine aA (aC (.slice _ _ _) rfl) rfl rfl ?_
  refine aA (aC (.func _ _ _) rfl) rfl rfl ?_
  refine aL aUu rfl rfl rfl ?_
  refine (pD _ A n c zs (hr.rd M0 (aP (i := 0) rfl)) bn bm m f pm em hme (B.memY M0 hdB) (N.memY M0 hdN) (M0.ownSeg 1 2) (hr.apartTail M0) (M0.away 1 2 B hdB) (M0.away 1 2 N hdN) hm hn).mono ?_
  rintro _ w1 ⟨v1, rfl, ⟨rfl, hM1⟩⟩
  refine ⟨_, rfl, ?_⟩
  have M1 : Mem _ _ [_, _, _] _ := M0.seg 1 2 hM1
  refine aA (aD (.int _ _) rfl) rfl rfl ?_
  refine aE (aF (aG (aG (aB ?_))))
  refine aA (aC (.int _ _) rfl) rfl rfl ?_
  refine aA (aO (.bool (decide _)) rfl rfl rfl) rfl rfl ?_
  refine aE (aF ?_)
  refine aY rfl (fun h12 => ?_) (fun h12 => ?_)
  · have hge : ¬ zs.findIdx (yV f) < n := fun h => by rw [if_pos h] at h12; omega
    refine aG (aB ?_)
    refine aA (aC (.slice _ _ _) rfl) rfl rfl ?_
    refine aA (aD (.slice _ _ _) rfl) rfl rfl ?_
    refine aE (aF (aR (cP ?_)))
    refine cI (.slice _ _ _) rfl ?_
    have e1 : m + min n (zs.findIdx (yV f) + 1) = m + n := by omega
    rw [e1] at M1
    exact ⟨⟨A, n, c, er⟩, rfl, by rw [aAw (by omega)]; exact hr, M1⟩
  · have hlt : zs.findIdx (yV f) < n := Decidable.by_contra fun h => h12 (if_neg h)
    refine aN (aF (aG (aG (aB ?_))))
    refine aA (aC (.int _ _) rfl) rfl rfl ?_
    refine aA (bX rfl rfl (by omega) (by omega)) rfl rfl ?_
    refine aM 15 (.int .i64 ((zs.findIdx (yV f) + 1 : Nat) : Int)) (iE (by rw [if_pos hlt]; omega)) ?_
    refine aA (aD (.int _ _) rfl) rfl rfl ?_
    refine aE (aF (bA ?_))
    refine dI (σ := Nat × Nat × List (Int × Int) × dL) [0, 1, 4] (fun (j, k, zs2, en) => [(5, .int .i64 (k : Int)), (6, .int .i64 (j : Int))]) (fun (j, k, zs2, en) w' => (j ≤ n ∧ k < j ∧ zs2.take k = (zs.take j).filter (fun z => !yV f z) ∧ zs2.drop j = zs.drop j ∧ aX 119 2 A n c ((zs2).map bG) en) ∧ Mem w (bU [er, (some bn, bc [.int .i64 (m : Int)] 3), em]) [en, (some bn, bc [.int .i64 ((m + j : Nat) : Int)] 3), em] w') (fun (j, k, zs2, en) => n - j) (zs.findIdx (yV f) + 1, zs.findIdx (yV f), zs, er) (bS (iv rfl (if_pos hlt)) (bS rfl eV)) (⟨⟨by omega, by omega, xX (by omega), rfl, hr⟩, by
      have e1 : min n (zs.findIdx (yV f) + 1) = zs.findIdx (yV f) + 1 := by omega
      rw [e1] at M1
      exact M1⟩) ?_
    rintro ⟨j, k, zs2, en⟩ ρ2 w2 ⟨⟨hj, hkj, hpre, hsuf, hz2⟩, hM2⟩
    have hl2 : zs2.length = n := by simpa using hz2.1
    refine aG (aG (aB ?_))
    refine aA (aC (.int _ _) rfl) rfl rfl ?_
    refine aA (aC (.slice _ _ _) rfl) rfl rfl ?_
    refine aA (cS Tryz.underlying159 rfl) rfl rfl ?_
    refine aA (aO (.bool (decide _)) rfl rfl rfl) rfl rfl ?_
    refine aE (aF ?_)
    refine aY rfl (fun h19 => ?_) (fun h19 => ?_)
    · obtain ⟨xz, hxz⟩ := cN (k := j) hlen (by omega)
      have hxz2 : zs2[j]? = some xz := (aJy hsuf).trans hxz
      obtain ⟨xk, hxk⟩ := cN (k := k) hl2 (by omega)
      refine aN (aF (aG (bA (aG (aB ?_)))))
      refine aA (aC (.slice _ _ _) rfl) rfl rfl ?_
      refine aA (aC (.int _ _) rfl) rfl rfl ?_
      refine aA (bO (j) oV rfl rfl rfl ((hz2.rd hM2 (aP (i := 0) rfl)).below_len (aK bG hxz2)) ((hz2.rd hM2 (aP (i := 0) rfl)).someK (aK bG hxz2))) rfl rfl ?_
      refine aA (dO _ eT (hz2.rd hM2 (aP (i := 0) rfl)) (aK bG hxz2) rfl) rfl rfl ?_
      refine aS mX hM2 rfl rfl (fun b3 w3 M3 => ?_)
      refine bJ 3 _ eT M3 rfl rfl rfl rfl rfl (aU rfl) rfl (fun w4 M4 => ?_)
      refine aE (aF (aG (aB ?_)))
      refine aA (aC (.func _ _ _) rfl) rfl rfl ?_
      refine aA (bB 3 eT M4 rfl rfl rfl) rfl rfl ?_
      refine aL aKu rfl rfl rfl ?_
      refine (rP _ xz bn bm (m + j) f pm em hme (B.memY M4 hdB) (N.memY M4 hdN) (M4.ownSeg 1 2) (M4.away 1 2 B hdB) (M4.away 1 2 N hdN) (by omega)).mono ?_
      rintro _ w5 ⟨v5, rfl, ⟨rfl, hM5⟩⟩
      refine ⟨_, rfl, ?_⟩
      have M5 : Mem _ _ [_, _, _, _] _ := M4.seg 1 2 hM5
      refine aA (kF _ rfl rfl) rfl rfl ?_
      refine aE (aF ?_)
      refine iJ _ rfl (fun h29 => ?_) (fun h29 => ?_)
      · refine aG (aB ?_)
        refine aA (aC (.slice _ _ _) rfl) rfl rfl ?_
        refine aA (aC (.int _ _) rfl) rfl rfl ?_
        refine aA (bB 3 eT M5 rfl rfl rfl) rfl rfl ?_
        refine aA (bO (k) oV rfl rfl rfl ((hz2.rd M5 (aP (i := 0) rfl)).below_len (aK bG hxk)) ((hz2.rd M5 (aP (i := 0) rfl)).someK (aK bG hxk))) rfl rfl ?_
        refine aQa 0 _ eT M5 rfl hz2 (aK bG hxk) rfl rfl rfl rfl (aU rfl) (fun e6 w6 hR6 M6 => ?_)
        have hQ6 := hR6.mapSet (f := bG) (x := xz) rfl
        refine aE (aF (aB ?_))
        refine aA (aC (.int _ _) rfl) rfl rfl ?_
        refine aA (bX rfl rfl (by omega) (by omega)) rfl rfl ?_
        refine aA (aD (.int _ _) rfl) rfl rfl ?_
        refine aE ?_
        refine dJ ?_
        refine aF (aB ?_)
        refine aA (aC (.int _ _) rfl) rfl rfl ?_
        refine aA (bX rfl rfl (by omega) (by omega)) rfl rfl ?_
        refine aA (aD (.int _ _) rfl) rfl rfl ?_
        refine aE ?_
        refine cF (j + 1, k + 1, zs2.set k xz, e6) (bS rfl (bS rfl eV)) (cL rfl (cL rfl (cL rfl iI))) ?_ ?_
        · exact ⟨⟨by omega, by omega, by rw [aNa (by omega), hpre, qW hxz, if_neg (by simpa using h29)], by rw [aMy (by omega)]; exact xI hsuf, hQ6⟩, M6.keep [true, true, true, false]⟩
        · (show n - (j + 1) < n - j; omega)
      · refine aN ?_
        refine dJ ?_
        refine aF (aB ?_)
        refine aA (aC (.int _ _) rfl) rfl rfl ?_
        refine aA (bX rfl rfl (by omega) (by omega)) rfl rfl ?_
        refine aA (aD (.int _ _) rfl) rfl rfl ?_
        refine aE ?_
        refine cF (j + 1, k, zs2, en) (bS rfl (bS rfl eV)) (cL rfl (cL rfl (cL rfl iI))) ?_ ?_
        · exact ⟨⟨by omega, by omega, by rw [hpre, qW hxz, if_pos (by simpa using h29), List.append_nil], xI hsuf, hz2⟩, M5.keep [true, true, true, false]⟩
        · (show n - (j + 1) < n - j; omega)
    · have hjn : j = n := by omega
      rw [hjn, show List.take n zs = zs from List.take_of_length_le (by omega)] at hpre
      refine cK ?_
      refine dB ?_
      refine cY ?_
      refine eN ?_
      refine aF (aG (aB ?_))
      refine aA (aC (.slice _ _ _) rfl) rfl rfl ?_
      refine aA (aC (.int _ _) rfl) rfl rfl ?_
      refine aA (yS ((k : Int)) ((n : Int)) oV rfl ⟨_, rfl⟩ rfl (by omega) (by omega) (by omega)) rfl rfl ?_
      refine aNh 0 (k) oV (fun zv hz => by rw [aWl] at hz; injection hz with hz; subst hz; simp [Go.Bil.one, Value.cells]) hM2 rfl rfl hz2 (by omega) rfl (fun e7 w7 hR7 M7 => ?_)
      refine aE (aF (aG (aB ?_)))
      refine aA (aC (.slice _ _ _) rfl) rfl rfl ?_
      refine aA (aC (.int _ _) rfl) rfl rfl ?_
      refine aA (yS (0) ((k : Int)) oV rfl rfl ⟨_, rfl⟩ (by decide) (by omega) (by omega)) rfl rfl ?_
      refine aA (aD (.slice _ _ _) rfl) rfl rfl ?_
      refine aE (aF (aR ?_))
      refine cI (.slice _ _ _) rfl ?_
      rw [hjn] at M7
      have hpf := hR7
      rw [← List.map_take, hpre] at hpf
      exact ⟨⟨_, _, _, e7⟩, rfl, hpf, M7⟩
end Go.Proofs.YtlmcphcgiclanaaGreatDoor

namespace Go.Proofs.YtlmcphcgiclanaaGreatDoor
open Go.Bil
open Go.RowKit (Below)
open Go.Proofs
set_option maxRecDepth 100000 in
theorem aXa : fK Tryz.prog 191 = some (cQ (List.replicate 1024 gE) 0) := by kernel_rfl
set_option maxHeartbeats 16000000 in
theorem aEn (w : World) (F : Rd w 2 (some ⟨0, 0, none⟩) 1 [[.int .u32 73856093, .int .u32 19349663]]) (N : Rd w 4 (some ⟨3, 0, none⟩) 1 [cT gT]) (A : Option Addr) (n c : Nat) (xs : List Body) (R : Rd w 10 A n (xs.map aI)) (hb : ∀ b ∈ xs, Okb b) (hs : bL xs) (hn : n ≤ 4096) :
    Calls Tryz.prog 105 #[.slice A n c] w (fun ex w' => ∃ v, ex = .returned v ∧ (fun v w' => ∃ (r : Row) (m : Nat), v = .tuple #[.slice r.A r.n r.c, .int .i64 (m : Int)] ∧ (iQ xs).length ≤ m ∧ 2 * m ≤ xs.length * (xs.length - 1) ∧ aX 119 2 r.A r.n r.c ((iQ xs).map bG) r.e ∧ Mem w [] [r.e] w') v w') := by
  have hlen : xs.length = n := by simpa using R.len
  have hbd := R.bound
  refine aJ #[.tmp 2, .tmp 3] 37 Tryz.func105 rfl Tryz.results105 Tryz.ntmps105 rfl ?_
  have M0 := Mem.refl w
  refine aG (aB ?_)
  refine aA (aD (.slice _ _ _) rfl) rfl rfl ?_
  refine aA (aD (.int _ _) rfl) rfl rfl ?_
  refine aE (aF (aG (aB ?_)))
  refine aA (aC (.slice _ _ _) rfl) rfl rfl ?_
  refine aL aUc rfl rfl rfl ?_
  refine (zT _ _ _ _ xs (R.mem M0) hb).mono ?_
  rintro _ w1 ⟨v1, rfl, ⟨pm, em, rfl, hme, hM1⟩⟩
  refine ⟨_, rfl, ?_⟩
  have M1 : Mem _ _ [_] _ := M0.call0 hM1
  refine aA (aD (.map _) rfl) rfl rfl ?_
  refine aE (aF (aG (aB ?_)))
  refine aS aXa M1 rfl rfl (fun b2 w2 M2 => ?_)
  have M3 := Mem.gridNew (L := [_]) M2
  refine aE (aF (aG (aG (aB ?_))))
  refine aA (aC (.slice _ _ _) rfl) rfl rfl ?_
  refine aA (cS Tryz.underlying22 rfl) rfl rfl ?_
  refine aA (aC (.int _ _) rfl) rfl rfl ?_
  refine aE (aF (bA ?_))
  refine dI (σ := Nat × List Row) [2, 3, 4, 5, 12, 13] (fun (k, rs) => [(14, .int .i64 (k : Int))]) (fun (k, rs) w' => (k ≤ n ∧ GridRows 36 rs (gOf (xs.take k))) ∧ Mem w [] ([em] ++ ((some b2, bc (cQ rs (k : Int)) 191) :: rs.map Row.e)) w') (fun (k, rs) => n - k) (0, List.replicate 1024 gE) (bS rfl eV) (⟨⟨by omega, by rw [List.take_zero]; exact aOf _⟩, M3⟩) ?_
  rintro ⟨k, rs⟩ ρ4 w4 ⟨⟨hk, hrs⟩, hM4⟩
  refine aG (aB ?_)
  refine aA (aO (.bool (decide _)) rfl rfl rfl) rfl rfl ?_
  refine aE (aF (aG ?_))
  refine aY rfl (fun h15 => ?_) (fun h15 => ?_)
  · obtain ⟨xb, hxb⟩ := cN (k := k) hlen (by omega)
    refine aN (aF (aG (bA (aG (aB ?_)))))
    refine aA (bO (k) dD rfl rfl rfl ((R.mem hM4).below_len (aK aI hxb)) ((R.mem hM4).someK (aK aI hxb))) rfl rfl ?_
    refine aA (dO _ bW (R.mem hM4) (aK aI hxb) rfl) rfl rfl ?_
    refine aS kD hM4 rfl rfl (fun b5 w5 M5 => ?_)
    have M6 : Mem _ _ ([_, _] ++ _) _ := Mem.front (L := [_]) M5
    refine bJ 1 _ bW M6 rfl rfl rfl rfl rfl (aU rfl) rfl (fun w7 M7 => ?_)
    refine aE (aF (aB ?_))
    refine aA (aH 0 dR rfl) rfl rfl ?_
    refine aA (aZ 1 (.int _ _) cR M7 rfl rfl rfl) rfl rfl ?_
    refine aA (aC (.map _) rfl) rfl rfl ?_
    refine aA (aH 0 dR rfl) rfl rfl ?_
    refine aA (aZ 1 (.int _ _) cR M7 rfl rfl rfl) rfl rfl ?_
    refine aA (gR (enc := nV) z0B 0 zB aNq M7 rfl hme rfl rfl) rfl rfl ?_
    refine aM 23 (.agg (cT (fW xb)).toArray) (congrArg nV (by rw [lG hs (List.mem_of_getElem? hxb)]; rfl)) ?_
    refine aL aVp rfl rfl rfl ?_
    refine (zS _ (F.mem M7) b2 rs (k : Int) (gOf (xs.take k)) hrs ⟨by omega, by omega⟩ (fun j _ => Nat.le_trans (aQz _ _) (by simp; omega)) xb.key (fW xb) (aVm (hb xb (List.mem_of_getElem? hxb))) (Mem.ownTail (L := [_, _]) M7) (Mem.awayTail (L := [_, _]) M7 F)).mono ?_
    rintro _ w8 ⟨v8, rfl, ⟨rfl, rs2, hrs2, hM8⟩⟩
    refine ⟨_, rfl, ?_⟩
    have M8 : Mem _ _ ([_, _] ++ _) _ := Mem.tail (L := [_, _]) M7 hM8
    refine aE ?_
    refine dJ ?_
    refine aF (aB ?_)
    refine aA (bX rfl rfl (by omega) (by omega)) rfl rfl ?_
    refine aA (aC (.int _ _) rfl) rfl rfl ?_
    refine aE ?_
    refine cF (k + 1, rs2) (bS rfl eV) (cL rfl (cL rfl (cL rfl (cL rfl (cL rfl (cL rfl iI)))))) ?_ ?_
    · exact ⟨⟨by omega, by rw [aOc hxb]; exact hrs2⟩, Mem.keepL (L := [_, _]) [true, false] M8⟩
    · (show n - (k + 1) < n - k; omega)
  · have hkn : k = n := by omega
    rw [List.take_of_length_le (by omega)] at hrs
    refine cK ?_
    refine dB ?_
    refine cY ?_
    refine eN ?_
    refine aF (aG (aB ?_))
    refine aA (aC (.map _) rfl) rfl rfl ?_
    refine aL aUx rfl rfl rfl ?_
    refine (tT _ pm).mono ?_
    rintro _ w9 ⟨v9, rfl, ⟨bm, bn, rfl, hM9⟩⟩
    refine ⟨_, rfl, ?_⟩
    have M9 : Mem _ _ ([_, _, _] ++ _) _ := Mem.front (L := [_]) (hM4.call0 hM9)
    refine aA (aC (.tuple (List.toArray _)) rfl) rfl rfl ?_
    refine aA (bE (.func _ _ _) rfl rfl) rfl rfl ?_
    refine aA (bE (.func _ _ _) rfl rfl) rfl rfl ?_
    refine aA (aD (.func _ _ _) rfl) rfl rfl ?_
    refine aA (aD (.func _ _ _) rfl) rfl rfl ?_
    refine aE (aF (aG (aB ?_)))
    refine aL aTf rfl rfl rfl ?_
    refine (rW _ b2 rs (k : Int) (gOf xs) hrs.len (Mem.gridRd (L := [_, _, _]) M9 hrs.len) (fun j r hr => Mem.rowRd (L := [_, _, _]) M9 hrs j r hr) (xs.map (·.key)) (fun j _ x hx => by obtain ⟨b, h1, _, rfl⟩ := lR.1 hx; exact List.mem_map.2 ⟨b, h1, rfl⟩) (by simp; omega)).mono ?_
    rintro _ w10 ⟨v10, rfl, ⟨r, ps, hasc, hps, rfl, hr, hM10⟩⟩
    refine ⟨_, rfl, ?_⟩
    have M10 : Mem _ _ ([_, _, _, _] ++ _) _ := Mem.front (L := [_, _, _]) (M9.call0 hM10)
    have hpl := aGt hs hasc hps
    have hrl : ps.length = r.n := by simpa using hr.1
    have hnn : xs.length * (xs.length - 1) ≤ 4096 * 4096 := Nat.mul_le_mul (by omega) (by omega)
    refine aA (aC (.func _ _ _) rfl) rfl rfl ?_
    have M11 : Mem _ _ [_, _, _, _] _ := Mem.order4 M10
    refine aL aUt rfl rfl rfl ?_
    refine (oC _ r.A r.n r.c ps r.e hr bn bm 0 (bxM xs) pm em hme (nS 3 M11 rfl rfl) (N.mem M11) (M11.ownSeg 0 3) (M11.apartTake 3 3 rfl rfl) (M11.away 0 3 N (fun _ q off _ h => by simp at h)) (by omega) (by omega)).mono ?_
    rintro _ w12 ⟨v12, rfl, ⟨r2, rfl, hr2, hM12⟩⟩
    refine ⟨_, rfl, ?_⟩
    have M12 : Mem _ _ [_, _, _, _] _ := M11.seg 0 3 hM12
    have hfl : (iQ xs).length ≤ ps.length := by rw [← uI hs hasc hps]; exact List.length_filter_le _ _
    rw [uI hs hasc hps] at hr2
    refine aA (aD (.slice _ _ _) rfl) rfl rfl ?_
    refine aE (aF (aG (aB ?_)))
    refine aA (aC (.slice _ _ _) rfl) rfl rfl ?_
    refine aA (aC (.func _ _ _) rfl) rfl rfl ?_
    refine aL aSp rfl rfl rfl ?_
    refine (vQ _ bn _ (nS 1 M12 rfl rfl)).mono ?_
    rintro _ w13 ⟨v13, rfl, ⟨rfl, hb13⟩⟩
    refine ⟨_, rfl, ?_⟩
    have M13 := M12.callB hb13
    refine aA (aD (.slice _ _ _) rfl) rfl rfl ?_
    refine aA (aD (.int _ _) rfl) rfl rfl ?_
    refine aE (aF (aR ?_))
    refine fG (.slice _ _ _) (.int _ _) rfl rfl ?_
    exact ⟨r2, 0 + r.n, rfl, by omega, by omega, hr2, M13.keep [true, false, false, false]⟩
end Go.Proofs.YtlmcphcgiclanaaGreatDoor

namespace Go.Proofs.YtlmcphcgiclanaaGreatDoor
open Go.Bil
open Go.RowKit (Below)
open Go.Proofs
set_option maxHeartbeats 4000000 in
theorem aDw (w : World) (A : Option Addr) (n c : Nat) (xs : List Body) (R : Rd w 10 A n (xs.map aI)) :
    Calls Tryz.prog 14 #[.slice A n c] w (fun ex w' => ∃ v, ex = .returned v ∧ (fun v w' => ∃ r : Row, v = .tuple #[.slice r.A r.n r.c, .bool (decide (aRu xs))] ∧ aX 40 10 r.A r.n r.c ((gX xs).map aI) r.e ∧ Mem w [] [r.e] w') v w') := by
  have hlen : xs.length = n := by simpa using R.len
  have hbd := R.bound
  refine aJ #[.tmp 2, .tmp 3] 17 Tryz.func14 rfl Tryz.results14 Tryz.ntmps14 rfl ?_
  have M0 := Mem.refl w
  refine aG (aB ?_)
  refine aA (aD (.slice _ _ _) rfl) rfl rfl ?_
  refine aA (aD (.bool false) rfl) rfl rfl ?_
  refine aE (aF (aG (aG (aB ?_))))
  refine aA (aC (.slice _ _ _) rfl) rfl rfl ?_
  refine aA (cS Tryz.underlying22 rfl) rfl rfl ?_
  refine aA (aO (.bool (decide _)) rfl rfl rfl) rfl rfl ?_
  refine aE (aF ?_)
  refine aY rfl (fun h8 => ?_) (fun h8 => ?_)
  · refine aG (aB ?_)
    refine aA (aD (.slice _ _ _) rfl) rfl rfl ?_
    refine aA (aD (.bool false) rfl) rfl rfl ?_
    refine aE (aF (aR (cP ?_)))
    refine fG (.slice _ _ _) (.bool false) rfl rfl ?_
    exact ⟨gE, rV rfl (bF (fun h => by have := h.1; omega)), by unfold gX; rw [if_pos (by omega)]; exact aX.nil _ _ _, M0.dummy default⟩
  · refine aN (aF (aG (aB ?_)))
    refine aA (aC (.slice _ _ _) rfl) rfl rfl ?_
    refine aL aVw rfl rfl rfl ?_
    refine (aEk _ _ _ _ xs (R.mem M0) (by omega)).mono ?_
    rintro _ w1 ⟨v1, rfl, ⟨A1, n1, c1, e1, rfl, hR1, hM1⟩⟩
    refine ⟨_, rfl, ?_⟩
    have M1 : Mem _ _ [_] _ := M0.call0 hM1
    refine aA (aC (.tuple (List.toArray _)) rfl) rfl rfl ?_
    refine aA (bE (.slice _ _ _) rfl rfl) rfl rfl ?_
    refine aA (bE (.int _ _) rfl rfl) rfl rfl ?_
    refine aA (aD (.slice _ _ _) rfl) rfl rfl ?_
    refine aA (aD (.int _ _) rfl) rfl rfl ?_
    refine aE (aF (aG (aB ?_)))
    refine aA (aC (.slice _ _ _) rfl) rfl rfl ?_
    refine aA (aC (.int _ _) rfl) rfl rfl ?_
    refine aA (aO (.bool (decide _)) rfl rfl rfl) rfl rfl ?_
    refine aA (aD (.slice _ _ _) rfl) rfl rfl ?_
    refine aA (aD (.bool (decide _)) rfl) rfl rfl ?_
    refine aE (aF (aR ?_))
    refine fG (.slice _ _ _) (.bool (decide _)) rfl rfl ?_
    exact ⟨⟨A1, n1, c1, e1⟩, rV rfl (bD ⟨fun h => ⟨by omega, h⟩, fun h => h.2⟩), by unfold gX; rw [if_neg (by omega)]; exact hR1, M1⟩
end Go.Proofs.YtlmcphcgiclanaaGreatDoor

namespace Go.Proofs.YtlmcphcgiclanaaGreatDoor
open Go.Bil
open Go.RowKit (Below)
open Go.Proofs
end Go.Proofs.YtlmcphcgiclanaaGreatDoor
