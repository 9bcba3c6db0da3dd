import Derived.Test.YtlmcphcgiclanaaGreatDoorK2
import Derived.Test.YtlmcphcgiclanaaGreatDoorK5
import Derived.Test.YtlmcphcgiclanaaGreatDoorK35
import Derived.Test.YtlmcphcgiclanaaGreatDoorRows
import Derived.Test.YtlmcphcgiclanaaGreatDoorK36
import Derived.Test.YtlmcphcgiclanaaGreatDoorTie
import Derived.Test.YtlmcphcgiclanaaGreatDoorCards
import Derived.WalkKit
import Derived.ProofKit
import Derived.OpenShut
import Derived.ShutString
import Derived.ChangeOld
import Derived.Below
import Derived.SizedLaws
set_option linter.unusedVariables false
set_option linter.unusedSimpArgs false
set_option linter.unnecessarySimpa false
namespace Go.Proofs.YtlmcphcgiclanaaGreatDoor
open Go.Bil
open Go.RowKit (Below)
open Go.Proofs
set_option maxHeartbeats 32000000 in
theorem rI (w : World) (F : Rd w 2 (some ⟨0, 0, none⟩) 1 [[.int .u32 73856093, .int .u32 19349663]]) (N : Rd w 4 (some ⟨3, 0, none⟩) 1 [dE iW]) (A : Option Addr) (n c : Nat) (l : List OpRow) (hl : OpsRd w A n l) :
  Calls Tryz.prog 11 #[.slice A n c] w (fun ex w' => ∃ v, ex = .returned v ∧ (fun v w' => v = .bool true ∧ Below w.heap.size w w') v w') := by
 have hlen : l.length = n := by simpa using hl.rd.len
 have hbd := hl.rd.bound
 refine aH #[.tmp 2] 76 Tryz.func11 rfl Tryz.results11 Tryz.ntmps11 rfl ?_
 have M0 := Mem.refl w
 refine aD (aA (wq (aI (.bool false) rfl) rfl (aB (aC (aD (aD (aA (cA aYp rfl rfl (bEy _ (F.mem M0) (N.mem M0)) ?_))))))))
 rintro v1 w1 ⟨rfl, hb1⟩
 have M1 := M0.callB hb1
 refine wq (fF false rfl rfl) rfl (wq (aG (.bool false) rfl) rfl (dM rfl rfl (cA bDl rfl rfl (aOe _ A n c l (hl.mem M1)) ?_)))
 rintro v2 w2 ⟨⟨g, rfl, hg⟩, hb2⟩
 have M2 := M1.callB hb2
 refine wq (fF _ rfl rfl) rfl (wq (aX false (.bool _) rfl rfl) rfl (aB (aC ?_)))
 refine gO _ rfl (fun h14 => ?_) (fun h14 => ?_)
 ·refine aD (aA (cA aYp rfl rfl (bEy _ (F.mem M2) (N.mem M2)) ?_))
  rintro v3 w3 ⟨rfl, hb3⟩
  have M3 := M2.callB hb3
  refine wq (aI (.bool true) rfl) rfl (aB (aC (aN (bZ (bV (.bool true) rfl ?_)))))
  exact ⟨rfl, M3.below⟩
 ·obtain ⟨hn40, hby⟩ := hg (by simpa using h14)
  refine aL (aC (aD (aA (aR aRf M2 rfl rfl (fun b4 w4 M4 => ?_)))))
  have M5 := (M4.dummy default).dummy default
  refine aB (aC (aD (aD (aA (bI rfl rfl (aB (aC (aU (dO (σ := Nat × StV × List Body) [0, 3] (fun (i, r, vs) => [(4, .int .i64 (i : Int))]) (fun (i, r, vs) w' => (i ≤ n ∧ eB 40 r vs) ∧ Mem w [] [(some b4, bc [.slice r.A r.n r.c, .map r.p] 56), r.er, r.em] w') (fun (i, r, vs) => n - i) (0, ⟨none, 0, 0, none, (none, default), (none, default)⟩, []) (bM rfl eP) (⟨⟨by omega, (eB.new 40 default default)⟩, M5⟩) ?_)))))))))
  rintro ⟨i, r, vs⟩ ρ6 w6 ⟨⟨hi, hr⟩, hM6⟩
  refine aD (aD (aA (aV rfl rfl (dM rfl rfl (wq (cS Tryz.underlying48 rfl) rfl (cQ rfl rfl rfl rfl (aB (aC ?_))))))))
  refine aW rfl (fun h19 => ?_) (fun h19 => ?_)
  ·obtain ⟨x, hx⟩ := cM (xs := l) (k := i) hlen (by omega)
   have hP := hl.each x (List.mem_of_getElem? hx)
   have hxn := hby x (List.mem_of_getElem? hx)
   refine aL (aC (aD (aU (aD (aD (aA (dM rfl rfl (aV rfl rfl (wq (bP (i) rK rfl rfl rfl ((hl.rd.mem hM6).below_len (aJ OpRow.cells hx)) ((hl.rd.mem hM6).someK (aJ OpRow.cells hx))) rfl (wq (bG 0 jJ (hl.rd.mem hM6) (Nat.lt_of_le_of_lt (Nat.zero_le _) ((hl.rd.mem hM6).below_len (aJ OpRow.cells hx))) rfl) rfl ?_))))))))))
   refine wq (dR (o := 0) (.int _ _) iT (hl.rd.mem hM6) (aJ OpRow.cells hx) rfl rfl) rfl (cQ rfl rfl rfl rfl (wq (aG (.bool (decide _)) rfl) rfl ?_))
   refine cC 28 rfl (fun g28 => ?_) (fun g28 => ?_)
   ·refine cA sB rfl rfl (gT _ _ r _ hr (hM6.ownSeg 0 3)) ?_
    rintro v7 w7 ⟨qs, rfl, hqs, hM7⟩
    have M7 : Mem _ _ [_, _, _, _] _ := hM6.seg 0 3 hM7
    refine cA bDg rfl rfl (aGb _ qs.A qs.n qs.c) ?_
    rintro v8 w8 ⟨rfl, hb8⟩
    have M8 := M7.callB hb8
    refine wq (kP rfl) rfl (wq (aX true (.bool (decide _)) rfl rfl) rfl (aB (aC ?_)))
    refine aW rfl (fun h32 => ?_) (fun h32 => ?_)
    ·refine aD (aA (wq (aI (.bool true) rfl) rfl (aB (aC (aN (bZ (iM (bZ (oI ?_)))))))))
     refine iM (bZ (bV (.bool true) rfl ?_))
     exact ⟨rfl, M8.below⟩
    ·refine aL (aC (aD (aA (cA sB rfl rfl (gT _ _ r _ hr (M8.ownSeg 0 3)) ?_))))
     rintro v9 w9 ⟨qb, rfl, hqb, hM9⟩
     have M9 : Mem _ _ [_, _, _, _, _] _ := M8.seg 0 3 hM9
     refine fZ rfl rfl (aB (aC (aD (aA (dM rfl rfl (aV rfl rfl (wq (bP (i) rK rfl rfl rfl ((hl.rd.mem M9).below_len (aJ OpRow.cells hx)) ((hl.rd.mem M9).someK (aJ OpRow.cells hx))) rfl (wq (dW _ aYl (hl.rd.mem M9) (aJ OpRow.cells hx) rfl) rfl ?_))))))))
     refine aS 37 (.agg (vY x.o x.A x.n x.c).toArray) rfl (cA aYm rfl rfl (aGw _ (F.mem M9) (N.mem M9) _ r _ hr (M9.ownSeg 0 3) (M9.away 0 3 F (by simp)) (M9.away 0 3 N (by simp)) x.o x.A x.n x.c (hP.mem M9) (by omega) (M9.away 0 3 hP.rd (by simp))) ?_)
     rintro v10 w10 ⟨r2, p1, rfl, hr2, hp1, hM10⟩
     have M10 : Mem _ _ [_, _, _, _, _, _] _ := M9.seg 0 3 hM10
     refine aR aDr M10 rfl rfl (fun b11 w11 M11 => (bE 6 _ gA M11 rfl rfl rfl rfl rfl (aQ rfl) rfl (fun w12 M12 => (aB (aC (aD (aA (cA sB rfl rfl (gT _ _ r2 _ hr2 (M12.ownSeg 0 3)) ?_))))))))
     rintro v13 w13 ⟨qa, rfl, hqa, hM13⟩
     have M13 : Mem _ _ [_, _, _, _, _, _, _, _] _ := M12.seg 0 3 hM13
     refine fZ rfl rfl (aB (aC (aD (aA (dM rfl rfl (cA aYv rfl rfl (uL _ _ _ _ (lY vs x.o).1 (hqa.rd M13 (aZ (i := 7) rfl))) ?_))))))
     rintro v14 w14 ⟨rfl, hb14⟩
     have M14 := M13.callB hb14
     refine cQ rfl rfl rfl rfl (sX 42 rfl (fun h => h hr2.1.chk) (wq (aG (.bool false) rfl) rfl (wq (aE 1 nH rfl) rfl (wq (aO 6 (.int _ _) iT M14 rfl rfl rfl) rfl (cQ rfl rfl rfl rfl ?_)))))
     refine wq (aG (.bool (decide _)) rfl) rfl ?_
     refine cC 47 rfl (fun g47 => ?_) (fun g47 => ?_)
     ·refine dM rfl rfl (dM rfl rfl ?_)
      have hsame : (lY vs x.o).2.err ≠ 0 → vs = (lY vs x.o).1 := aCy
      refine cA qR rfl rfl (fK _ _ _ _ _ (hqb.rd M14 (aZ (i := 4) rfl)) _ _ _ _ (hqa.rd M14 (aZ (i := 7) rfl))) ?_
      rintro v15 w15 ⟨rfl, hb15⟩
      have M15 := M14.callB hb15
      refine kE 50 rfl (hsame g47) (wq (fF false rfl rfl) rfl (wq (aX true (.bool false) rfl rfl) rfl (wq (aX false (.bool false) rfl rfl) rfl (wq (aG (.bool false) rfl) rfl (dM rfl rfl ?_)))))
      refine aV rfl rfl (wq (bP (i) rK rfl rfl rfl ((hl.rd.mem M15).below_len (aJ OpRow.cells hx)) ((hl.rd.mem M15).someK (aJ OpRow.cells hx))) rfl (wq (bG 0 jJ (hl.rd.mem M15) (Nat.lt_of_le_of_lt (Nat.zero_le _) ((hl.rd.mem M15).below_len (aJ OpRow.cells hx))) rfl) rfl (wq (dR (o := 0) (.int _ _) iT (hl.rd.mem M15) (aJ OpRow.cells hx) rfl rfl) rfl ?_)))
      refine cQ rfl rfl rfl rfl (wq (aG (.bool (decide _)) rfl) rfl ?_)
      refine cC 61 rfl (fun g61 => ?_) (fun g61 => ?_)
      ·refine aK rfl rfl (aK rfl rfl (aK rfl rfl (aK rfl rfl (aK rfl rfl (aK rfl rfl ?_)))))
       refine wq (aX true (.bool true) rfl rfl) rfl (wq (aG (.bool true) rfl) rfl (dM rfl rfl (dM rfl rfl (cA qR rfl rfl (fK _ _ _ _ _ (hqb.rd M15 (aZ (i := 4) rfl)) _ _ _ _ (hqa.rd M15 (aZ (i := 7) rfl))) ?_))))
       rintro v16 w16 ⟨rfl, hb16⟩
       have M16 := M15.callB hb16
       refine kE 72 rfl (by first | exact fQ (.inl g61) | exact fQ (.inr g69)) (wq (fF false rfl rfl) rfl (wq (aX true (.bool false) rfl rfl) rfl (wq (aX false (.bool false) rfl rfl) rfl (aB (aC (bR rfl ?_))))))
       refine aL (cU (aC (aA (aV rfl rfl (wq (bL rfl rfl (by omega) (by omega)) rfl (bI rfl rfl ?_))))))
       refine aB ?_
       refine cI (i + 1, r2, (lY vs x.o).1) (bM rfl eP) (cV rfl (cV rfl iZ)) ?_ ?_
       ·exact ⟨⟨by omega, hr2⟩, M16.keep [true, true, true, false, false, false, false, false]⟩
       ·(show n - (i + 1) < n - i; omega)
      ·refine dM rfl rfl (aV rfl rfl (wq (bP (i) rK rfl rfl rfl ((hl.rd.mem M15).below_len (aJ OpRow.cells hx)) ((hl.rd.mem M15).someK (aJ OpRow.cells hx))) rfl (wq (bG 0 jJ (hl.rd.mem M15) (Nat.lt_of_le_of_lt (Nat.zero_le _) ((hl.rd.mem M15).below_len (aJ OpRow.cells hx))) rfl) rfl ?_)))
       refine wq (dR (o := 0) (.int _ _) iT (hl.rd.mem M15) (aJ OpRow.cells hx) rfl rfl) rfl (cQ rfl rfl rfl rfl (wq (aX false (.bool (decide _)) rfl rfl) rfl (wq (aG (.bool (decide _)) rfl) rfl ?_)))
       refine cC 69 rfl (fun g69 => ?_) (fun g69 => ?_)
       ·refine dM rfl rfl (dM rfl rfl (cA qR rfl rfl (fK _ _ _ _ _ (hqb.rd M15 (aZ (i := 4) rfl)) _ _ _ _ (hqa.rd M15 (aZ (i := 7) rfl))) ?_))
        rintro v17 w17 ⟨rfl, hb17⟩
        have M17 := M15.callB hb17
        refine kE 72 rfl (by first | exact fQ (.inl g61) | exact fQ (.inr g69)) (wq (fF false rfl rfl) rfl (wq (aX true (.bool false) rfl rfl) rfl (wq (aX false (.bool false) rfl rfl) rfl (aB (aC (bR rfl ?_))))))
        refine aL (cU (aC (aA (aV rfl rfl (wq (bL rfl rfl (by omega) (by omega)) rfl (bI rfl rfl ?_))))))
        refine aB ?_
        refine cI (i + 1, r2, (lY vs x.o).1) (bM rfl eP) (cV rfl (cV rfl iZ)) ?_ ?_
        ·exact ⟨⟨by omega, hr2⟩, M17.keep [true, true, true, false, false, false, false, false]⟩
        ·(show n - (i + 1) < n - i; omega)
       ·refine aK rfl rfl (aK rfl rfl (aK rfl rfl (aK rfl rfl (wq (aX false (.bool false) rfl rfl) rfl (wq (aX false (.bool false) rfl rfl) rfl ?_)))))
        refine aB (aC (bR rfl (aL (cU (aC (aA (aV rfl rfl ?_)))))))
        refine wq (bL rfl rfl (by omega) (by omega)) rfl (bI rfl rfl (aB ?_))
        refine cI (i + 1, r2, (lY vs x.o).1) (bM rfl eP) (cV rfl (cV rfl iZ)) ?_ ?_
        ·exact ⟨⟨by omega, hr2⟩, M15.keep [true, true, true, false, false, false, false, false]⟩
        ·(show n - (i + 1) < n - i; omega)
     ·refine aK rfl rfl (aK rfl rfl ?_)
      have hsame : (lY vs x.o).2.err ≠ 0 → vs = (lY vs x.o).1 := aCy
      refine aK rfl rfl (aK rfl rfl (wq (aX false (.bool false) rfl rfl) rfl (wq (aX false (.bool false) rfl rfl) rfl (wq (aG (.bool false) rfl) rfl (dM rfl rfl ?_)))))
      refine aV rfl rfl (wq (bP (i) rK rfl rfl rfl ((hl.rd.mem M14).below_len (aJ OpRow.cells hx)) ((hl.rd.mem M14).someK (aJ OpRow.cells hx))) rfl (wq (bG 0 jJ (hl.rd.mem M14) (Nat.lt_of_le_of_lt (Nat.zero_le _) ((hl.rd.mem M14).below_len (aJ OpRow.cells hx))) rfl) rfl (wq (dR (o := 0) (.int _ _) iT (hl.rd.mem M14) (aJ OpRow.cells hx) rfl rfl) rfl ?_)))
      refine cQ rfl rfl rfl rfl (wq (aG (.bool (decide _)) rfl) rfl ?_)
      refine cC 61 rfl (fun g61 => ?_) (fun g61 => ?_)
      ·refine aK rfl rfl (aK rfl rfl (aK rfl rfl (aK rfl rfl (aK rfl rfl (aK rfl rfl ?_)))))
       refine wq (aX true (.bool true) rfl rfl) rfl (wq (aG (.bool true) rfl) rfl (dM rfl rfl (dM rfl rfl (cA qR rfl rfl (fK _ _ _ _ _ (hqb.rd M14 (aZ (i := 4) rfl)) _ _ _ _ (hqa.rd M14 (aZ (i := 7) rfl))) ?_))))
       rintro v18 w18 ⟨rfl, hb18⟩
       have M18 := M14.callB hb18
       refine kE 72 rfl (by first | exact fQ (.inl g61) | exact fQ (.inr g69)) (wq (fF false rfl rfl) rfl (wq (aX true (.bool false) rfl rfl) rfl (wq (aX false (.bool false) rfl rfl) rfl (aB (aC (bR rfl ?_))))))
       refine aL (cU (aC (aA (aV rfl rfl (wq (bL rfl rfl (by omega) (by omega)) rfl (bI rfl rfl ?_))))))
       refine aB ?_
       refine cI (i + 1, r2, (lY vs x.o).1) (bM rfl eP) (cV rfl (cV rfl iZ)) ?_ ?_
       ·exact ⟨⟨by omega, hr2⟩, M18.keep [true, true, true, false, false, false, false, false]⟩
       ·(show n - (i + 1) < n - i; omega)
      ·refine dM rfl rfl (aV rfl rfl (wq (bP (i) rK rfl rfl rfl ((hl.rd.mem M14).below_len (aJ OpRow.cells hx)) ((hl.rd.mem M14).someK (aJ OpRow.cells hx))) rfl (wq (bG 0 jJ (hl.rd.mem M14) (Nat.lt_of_le_of_lt (Nat.zero_le _) ((hl.rd.mem M14).below_len (aJ OpRow.cells hx))) rfl) rfl ?_)))
       refine wq (dR (o := 0) (.int _ _) iT (hl.rd.mem M14) (aJ OpRow.cells hx) rfl rfl) rfl (cQ rfl rfl rfl rfl (wq (aX false (.bool (decide _)) rfl rfl) rfl (wq (aG (.bool (decide _)) rfl) rfl ?_)))
       refine cC 69 rfl (fun g69 => ?_) (fun g69 => ?_)
       ·refine dM rfl rfl (dM rfl rfl (cA qR rfl rfl (fK _ _ _ _ _ (hqb.rd M14 (aZ (i := 4) rfl)) _ _ _ _ (hqa.rd M14 (aZ (i := 7) rfl))) ?_))
        rintro v19 w19 ⟨rfl, hb19⟩
        have M19 := M14.callB hb19
        refine kE 72 rfl (by first | exact fQ (.inl g61) | exact fQ (.inr g69)) (wq (fF false rfl rfl) rfl (wq (aX true (.bool false) rfl rfl) rfl (wq (aX false (.bool false) rfl rfl) rfl (aB (aC (bR rfl ?_))))))
        refine aL (cU (aC (aA (aV rfl rfl (wq (bL rfl rfl (by omega) (by omega)) rfl (bI rfl rfl ?_))))))
        refine aB ?_
        refine cI (i + 1, r2, (lY vs x.o).1) (bM rfl eP) (cV rfl (cV rfl iZ)) ?_ ?_
        ·exact ⟨⟨by omega, hr2⟩, M19.keep [true, true, true, false, false, false, false, false]⟩
        ·(show n - (i + 1) < n - i; omega)
       ·refine aK rfl rfl (aK rfl rfl (aK rfl rfl (aK rfl rfl (wq (aX false (.bool false) rfl rfl) rfl (wq (aX false (.bool false) rfl rfl) rfl ?_)))))
        refine aB (aC (bR rfl (aL (cU (aC (aA (aV rfl rfl ?_)))))))
        refine wq (bL rfl rfl (by omega) (by omega)) rfl (bI rfl rfl (aB ?_))
        refine cI (i + 1, r2, (lY vs x.o).1) (bM rfl eP) (cV rfl (cV rfl iZ)) ?_ ?_
        ·exact ⟨⟨by omega, hr2⟩, M14.keep [true, true, true, false, false, false, false, false]⟩
        ·(show n - (i + 1) < n - i; omega)
   ·refine aK rfl rfl (aK rfl rfl (aK rfl rfl (wq (aX false (.bool false) rfl rfl) rfl (aB (aC (bR rfl ?_))))))
    refine aL (aC (aD (aA (cA sB rfl rfl (gT _ _ r _ hr (hM6.ownSeg 0 3)) ?_))))
    rintro v20 w20 ⟨qb, rfl, hqb, hM20⟩
    have M20 : Mem _ _ [_, _, _, _] _ := hM6.seg 0 3 hM20
    refine fZ rfl rfl (aB (aC (aD (aA (dM rfl rfl (aV rfl rfl (wq (bP (i) rK rfl rfl rfl ((hl.rd.mem M20).below_len (aJ OpRow.cells hx)) ((hl.rd.mem M20).someK (aJ OpRow.cells hx))) rfl (wq (dW _ aYl (hl.rd.mem M20) (aJ OpRow.cells hx) rfl) rfl ?_))))))))
    refine aS 37 (.agg (vY x.o x.A x.n x.c).toArray) rfl (cA aYm rfl rfl (aGw _ (F.mem M20) (N.mem M20) _ r _ hr (M20.ownSeg 0 3) (M20.away 0 3 F (by simp)) (M20.away 0 3 N (by simp)) x.o x.A x.n x.c (hP.mem M20) (by omega) (M20.away 0 3 hP.rd (by simp))) ?_)
    rintro v21 w21 ⟨r2, p1, rfl, hr2, hp1, hM21⟩
    have M21 : Mem _ _ [_, _, _, _, _] _ := M20.seg 0 3 hM21
    refine aR aDr M21 rfl rfl (fun b22 w22 M22 => (bE 5 _ gA M22 rfl rfl rfl rfl rfl (aQ rfl) rfl (fun w23 M23 => (aB (aC (aD (aA (cA sB rfl rfl (gT _ _ r2 _ hr2 (M23.ownSeg 0 3)) ?_))))))))
    rintro v24 w24 ⟨qa, rfl, hqa, hM24⟩
    have M24 : Mem _ _ [_, _, _, _, _, _, _] _ := M23.seg 0 3 hM24
    refine fZ rfl rfl (aB (aC (aD (aA (dM rfl rfl (cA aYv rfl rfl (uL _ _ _ _ (lY vs x.o).1 (hqa.rd M24 (aZ (i := 6) rfl))) ?_))))))
    rintro v25 w25 ⟨rfl, hb25⟩
    have M25 := M24.callB hb25
    refine cQ rfl rfl rfl rfl (sX 42 rfl (fun h => h hr2.1.chk) (wq (aG (.bool false) rfl) rfl (wq (aE 1 nH rfl) rfl (wq (aO 5 (.int _ _) iT M25 rfl rfl rfl) rfl (cQ rfl rfl rfl rfl ?_)))))
    refine wq (aG (.bool (decide _)) rfl) rfl ?_
    refine cC 47 rfl (fun g47 => ?_) (fun g47 => ?_)
    ·refine dM rfl rfl (dM rfl rfl ?_)
     have hsame : (lY vs x.o).2.err ≠ 0 → vs = (lY vs x.o).1 := aCy
     refine cA qR rfl rfl (fK _ _ _ _ _ (hqb.rd M25 (aZ (i := 3) rfl)) _ _ _ _ (hqa.rd M25 (aZ (i := 6) rfl))) ?_
     rintro v26 w26 ⟨rfl, hb26⟩
     have M26 := M25.callB hb26
     refine kE 50 rfl (hsame g47) (wq (fF false rfl rfl) rfl (wq (aX true (.bool false) rfl rfl) rfl (wq (aX false (.bool false) rfl rfl) rfl (wq (aG (.bool false) rfl) rfl (dM rfl rfl ?_)))))
     refine aV rfl rfl (wq (bP (i) rK rfl rfl rfl ((hl.rd.mem M26).below_len (aJ OpRow.cells hx)) ((hl.rd.mem M26).someK (aJ OpRow.cells hx))) rfl (wq (bG 0 jJ (hl.rd.mem M26) (Nat.lt_of_le_of_lt (Nat.zero_le _) ((hl.rd.mem M26).below_len (aJ OpRow.cells hx))) rfl) rfl (wq (dR (o := 0) (.int _ _) iT (hl.rd.mem M26) (aJ OpRow.cells hx) rfl rfl) rfl ?_)))
     refine cQ rfl rfl rfl rfl (wq (aG (.bool (decide _)) rfl) rfl ?_)
     refine cC 61 rfl (fun g61 => ?_) (fun g61 => ?_)
     ·refine aK rfl rfl (aK rfl rfl (aK rfl rfl (aK rfl rfl (aK rfl rfl (aK rfl rfl ?_)))))
      refine wq (aX true (.bool true) rfl rfl) rfl (wq (aG (.bool true) rfl) rfl (dM rfl rfl (dM rfl rfl (cA qR rfl rfl (fK _ _ _ _ _ (hqb.rd M26 (aZ (i := 3) rfl)) _ _ _ _ (hqa.rd M26 (aZ (i := 6) rfl))) ?_))))
      rintro v27 w27 ⟨rfl, hb27⟩
      have M27 := M26.callB hb27
      refine kE 72 rfl (by first | exact fQ (.inl g61) | exact fQ (.inr g69)) (wq (fF false rfl rfl) rfl (wq (aX true (.bool false) rfl rfl) rfl (wq (aX false (.bool false) rfl rfl) rfl (aB (aC (bR rfl ?_))))))
      refine aL (cU (aC (aA (aV rfl rfl (wq (bL rfl rfl (by omega) (by omega)) rfl (bI rfl rfl ?_))))))
      refine aB ?_
      refine cI (i + 1, r2, (lY vs x.o).1) (bM rfl eP) (cV rfl (cV rfl iZ)) ?_ ?_
      ·exact ⟨⟨by omega, hr2⟩, M27.keep [true, true, true, false, false, false, false]⟩
      ·(show n - (i + 1) < n - i; omega)
     ·refine dM rfl rfl (aV rfl rfl (wq (bP (i) rK rfl rfl rfl ((hl.rd.mem M26).below_len (aJ OpRow.cells hx)) ((hl.rd.mem M26).someK (aJ OpRow.cells hx))) rfl (wq (bG 0 jJ (hl.rd.mem M26) (Nat.lt_of_le_of_lt (Nat.zero_le _) ((hl.rd.mem M26).below_len (aJ OpRow.cells hx))) rfl) rfl ?_)))
      refine wq (dR (o := 0) (.int _ _) iT (hl.rd.mem M26) (aJ OpRow.cells hx) rfl rfl) rfl (cQ rfl rfl rfl rfl (wq (aX false (.bool (decide _)) rfl rfl) rfl (wq (aG (.bool (decide _)) rfl) rfl ?_)))
      refine cC 69 rfl (fun g69 => ?_) (fun g69 => ?_)
      ·refine dM rfl rfl (dM rfl rfl (cA qR rfl rfl (fK _ _ _ _ _ (hqb.rd M26 (aZ (i := 3) rfl)) _ _ _ _ (hqa.rd M26 (aZ (i := 6) rfl))) ?_))
       rintro v28 w28 ⟨rfl, hb28⟩
       have M28 := M26.callB hb28
       refine kE 72 rfl (by first | exact fQ (.inl g61) | exact fQ (.inr g69)) (wq (fF false rfl rfl) rfl (wq (aX true (.bool false) rfl rfl) rfl (wq (aX false (.bool false) rfl rfl) rfl (aB (aC (bR rfl ?_))))))
       refine aL (cU (aC (aA (aV rfl rfl (wq (bL rfl rfl (by omega) (by omega)) rfl (bI rfl rfl ?_))))))
       refine aB ?_
       refine cI (i + 1, r2, (lY vs x.o).1) (bM rfl eP) (cV rfl (cV rfl iZ)) ?_ ?_
       ·exact ⟨⟨by omega, hr2⟩, M28.keep [true, true, true, false, false, false, false]⟩
       ·(show n - (i + 1) < n - i; omega)
      ·refine aK rfl rfl (aK rfl rfl (aK rfl rfl (aK rfl rfl (wq (aX false (.bool false) rfl rfl) rfl (wq (aX false (.bool false) rfl rfl) rfl ?_)))))
       refine aB (aC (bR rfl (aL (cU (aC (aA (aV rfl rfl ?_)))))))
       refine wq (bL rfl rfl (by omega) (by omega)) rfl (bI rfl rfl (aB ?_))
       refine cI (i + 1, r2, (lY vs x.o).1) (bM rfl eP) (cV rfl (cV rfl iZ)) ?_ ?_
       ·exact ⟨⟨by omega, hr2⟩, M26.keep [true, true, true, false, false, false, false]⟩
       ·(show n - (i + 1) < n - i; omega)
    ·refine aK rfl rfl (aK rfl rfl ?_)
     have hsame : (lY vs x.o).2.err ≠ 0 → vs = (lY vs x.o).1 := aCy
     refine aK rfl rfl (aK rfl rfl (wq (aX false (.bool false) rfl rfl) rfl (wq (aX false (.bool false) rfl rfl) rfl (wq (aG (.bool false) rfl) rfl (dM rfl rfl ?_)))))
     refine aV rfl rfl (wq (bP (i) rK rfl rfl rfl ((hl.rd.mem M25).below_len (aJ OpRow.cells hx)) ((hl.rd.mem M25).someK (aJ OpRow.cells hx))) rfl (wq (bG 0 jJ (hl.rd.mem M25) (Nat.lt_of_le_of_lt (Nat.zero_le _) ((hl.rd.mem M25).below_len (aJ OpRow.cells hx))) rfl) rfl (wq (dR (o := 0) (.int _ _) iT (hl.rd.mem M25) (aJ OpRow.cells hx) rfl rfl) rfl ?_)))
     refine cQ rfl rfl rfl rfl (wq (aG (.bool (decide _)) rfl) rfl ?_)
     refine cC 61 rfl (fun g61 => ?_) (fun g61 => ?_)
     ·refine aK rfl rfl (aK rfl rfl (aK rfl rfl (aK rfl rfl (aK rfl rfl (aK rfl rfl ?_)))))
      refine wq (aX true (.bool true) rfl rfl) rfl (wq (aG (.bool true) rfl) rfl (dM rfl rfl (dM rfl rfl (cA qR rfl rfl (fK _ _ _ _ _ (hqb.rd M25 (aZ (i := 3) rfl)) _ _ _ _ (hqa.rd M25 (aZ (i := 6) rfl))) ?_))))
      rintro v29 w29 ⟨rfl, hb29⟩
      have M29 := M25.callB hb29
      refine kE 72 rfl (by first | exact fQ (.inl g61) | exact fQ (.inr g69)) (wq (fF false rfl rfl) rfl (wq (aX true (.bool false) rfl rfl) rfl (wq (aX false (.bool false) rfl rfl) rfl (aB (aC (bR rfl ?_))))))
      refine aL (cU (aC (aA (aV rfl rfl (wq (bL rfl rfl (by omega) (by omega)) rfl (bI rfl rfl ?_))))))
      refine aB ?_
      refine cI (i + 1, r2, (lY vs x.o).1) (bM rfl eP) (cV rfl (cV rfl iZ)) ?_ ?_
      ·exact ⟨⟨by omega, hr2⟩, M29.keep [true, true, true, false, false, false, false]⟩
      ·(show n - (i + 1) < n - i; omega)
     ·refine dM rfl rfl (aV rfl rfl (wq (bP (i) rK rfl rfl rfl ((hl.rd.mem M25).below_len (aJ OpRow.cells hx)) ((hl.rd.mem M25).someK (aJ OpRow.cells hx))) rfl (wq (bG 0 jJ (hl.rd.mem M25) (Nat.lt_of_le_of_lt (Nat.zero_le _) ((hl.rd.mem M25).below_len (aJ OpRow.cells hx))) rfl) rfl ?_)))
      refine wq (dR (o := 0) (.int _ _) iT (hl.rd.mem M25) (aJ OpRow.cells hx) rfl rfl) rfl (cQ rfl rfl rfl rfl (wq (aX false (.bool (decide _)) rfl rfl) rfl (wq (aG (.bool (decide _)) rfl) rfl ?_)))
      refine cC 69 rfl (fun g69 => ?_) (fun g69 => ?_)
      ·refine dM rfl rfl (dM rfl rfl (cA qR rfl rfl (fK _ _ _ _ _ (hqb.rd M25 (aZ (i := 3) rfl)) _ _ _ _ (hqa.rd M25 (aZ (i := 6) rfl))) ?_))
       rintro v30 w30 ⟨rfl, hb30⟩
       have M30 := M25.callB hb30
       refine kE 72 rfl (by first | exact fQ (.inl g61) | exact fQ (.inr g69)) (wq (fF false rfl rfl) rfl (wq (aX true (.bool false) rfl rfl) rfl (wq (aX false (.bool false) rfl rfl) rfl (aB (aC (bR rfl ?_))))))
       refine aL (cU (aC (aA (aV rfl rfl (wq (bL rfl rfl (by omega) (by omega)) rfl (bI rfl rfl ?_))))))
       refine aB ?_
       refine cI (i + 1, r2, (lY vs x.o).1) (bM rfl eP) (cV rfl (cV rfl iZ)) ?_ ?_
       ·exact ⟨⟨by omega, hr2⟩, M30.keep [true, true, true, false, false, false, false]⟩
       ·(show n - (i + 1) < n - i; omega)
      ·refine aK rfl rfl (aK rfl rfl (aK rfl rfl (aK rfl rfl (wq (aX false (.bool false) rfl rfl) rfl (wq (aX false (.bool false) rfl rfl) rfl ?_)))))
       refine aB (aC (bR rfl (aL (cU (aC (aA (aV rfl rfl ?_)))))))
       refine wq (bL rfl rfl (by omega) (by omega)) rfl (bI rfl rfl (aB ?_))
       refine cI (i + 1, r2, (lY vs x.o).1) (bM rfl eP) (cV rfl (cV rfl iZ)) ?_ ?_
       ·exact ⟨⟨by omega, hr2⟩, M25.keep [true, true, true, false, false, false, false]⟩
       ·(show n - (i + 1) < n - i; omega)
  ·refine cP (cZ (cX (fA (aC (aD (aA (wq (aI (.bool true) rfl) rfl ?_)))))))
   refine aB (aC (aN (bV (.bool true) rfl ?_)))
   exact ⟨rfl, hM6.below⟩
namespace worldInvariant
open Go.ChangeShapes Go.WideShapes Go.ChangeAt Go.RowKit
open Go.ChangeMaps (open_string shut_string)
theorem own : ownKnob Tryz.prog.godebug = none := by kernel_rfl
theorem laidOut : laidOutB Tryz.prog = true := by kernel_rfl
set_option maxRecDepth 100000 in
theorem lifted (os : Os) (started : os.Started) (H : Type) (enc : TypeId × Value → H) :
  ReturnsInHanded {} Tryz.checked os 11 .any (fun w args => (Rows.worldInvariantSpec.pre enc Tryz.prog Tryz.f11 [] false w args ∧ laidMet Tryz.prog yB w) ∧ sizedMet enc Tryz.prog Tryz.f11 (OpenSpec.ofChange Rows.worldInvariantSpec) false w args) (Rows.worldInvariantSpec.post enc Tryz.prog Tryz.f11 false true false false) := by
 refine returnsInHanded_of_change_and (C := Tryz.checked) (X := fun w _ => laidMet Tryz.prog yB w) (fun _ _ _ hh h => h.of_heap hh) own started (by kernel_rfl) Tryz.func11
  (ChangeSpec.witness_at (enc := enc) (C := Tryz.checked) (os := os) (X := fun w _ => laidMet Tryz.prog yB w) false (aLw os) #[.slice none 0 0] 8 rfl (by kernel_rfl) (by kernel_rfl) (by kernel_rfl) (by kernel_rfl) (by kernel_rfl) (laidMet_of_run' 8 (by kernel_rfl) (by kernel_rfl))) ?_
 intro W base args ds gs before hval0 hW hcnd hsz0 hL _
 have hsz : (DataW.weightsEach Tryz.prog (Tryz.f11.params.toList ++ Rows.worldInvariantSpec.plain.varTypes Tryz.prog) (ds ++ gs)).all (· ≤ reachBytes) = true := hsz0
 have hval : ∀ (j : Nat) t v, Tryz.f11.params[j]? = some t → args[j]? = some v → Value.okWide Tryz.prog W .any base t v := hval0
 have hW' := hW
 obtain ⟨p, q, hA0, hV, rfl, hfz, hnd⟩ := hW
 have hA : DataW.TrodAll enc Tryz.prog W 0 (fun _ => true) true Tryz.f11.params.toList args.toList ds p := hA0
 rw [Tryz.params11] at hA hval hsz
 obtain ⟨v0, vs0, d0, ds0, p0, q0, hargs, rfl, rfl, h0, r0⟩ := trodAll_cons hA
 obtain ⟨rfl, rfl, rfl⟩ := trodAll_nil r0
 obtain rfl : args = #[v0] := by cases args; simp_all
 obtain ⟨rfl, rfl⟩ := trodVars_none hV
 have k0 := h0
 have lt0 : ∀ x ∈ p0, x.block < W.heap.size := by obtain ⟨m, hm⟩ := k0; exact DataW.trod_lt m _ _ _ hm
 obtain ⟨a0, len0, cap0, rfl⟩ := okWide_slice Tryz.underlying48 (hval 0 48 v0 rfl rfl)
 have y0 : ∀ n ∈ d0.weights Tryz.prog 48, n ≤ reachBytes := fun n hn => by simpa using List.all_eq_true.1 hsz _ (DataW.weights_mem_each (j := 0) rfl rfl n hn)
 obtain ⟨xs0, R0⟩ := aRn rK opT y0 h0
 clear hA0 hval0 hsz0 hsz
 refine (rI W (rdF hL) (rdN hL) _ _ _ xs0 R0).mono fun e W' ⟨v, he, hv, bel⟩ => ?_
 subst he
 subst hv
 exact ⟨_, rfl, _, _, _, [], _, [], hW', trodAll_mk1 (shut_bool Tryz.underlying4 _), (trodAll_cons_mk (Below.trod laidOut (by kernel_rfl) (of_decide_eq_true (by kernel_rfl)) k0 bel lt0) trodAll_mk0), rfl, bel.frame _, fun h => by cases h⟩
theorem andT {a b : Bool} (ha : a = true) (hb : b = true) : (a && b) = true := by rw [ha, hb]; rfl
set_option maxHeartbeats 16000000 in
theorem closed : joinedFacts Tryz.prog 11 Tryz.f11 Rows.worldInvariantSpec Rows.worldInvariantRow = true := by
 unfold joinedFacts
 repeat' (with_reducible refine andT ?_ ?_)
 all_goals (as_aux_lemma => kernel_rfl)
theorem over : Rows.worldInvariantRow.holds Tryz.pinned (OpenSpec.ofChange Rows.worldInvariantSpec) :=
 OpenClaim.holds_of_wide 11 Tryz.f11 rfl rfl rfl rfl rfl rfl rfl ⟨rfl, rfl, rfl, rfl, rfl⟩ rfl rfl rfl rfl rfl (by kernel_rfl) Tryz.func11 closed
  (of_decide_eq_true (by kernel_rfl)) (by unfold Func.isWrapper; first | (rw [if_pos (by decide +kernel)]; kernel_rfl) | (rw [if_neg (by decide +kernel)]; exact ⟨rfl, rfl⟩))
  (fun os started H enc _ => lifted os started H enc)
end worldInvariant
theorem worldInvariant_holds : Rows.WorldInvariantSaid := worldInvariant.over
#print axioms worldInvariant_holds
theorem worldInvariant_card : Rows.WorldInvariantCardSaid :=
 Claim7.holds_tied_plain_at .later [] [.data, .data] true (true, "efc75206f113ecd8e5cc872cd0b30c800981909977c6e963415616c654d1aab5") false
  worldInvariant_holds (fun _ h => by cases h) (by kernel_rfl) (fun _ h => by cases h) worldInvariant_row_tie rfl ⟨rfl, rfl⟩ (by kernel_rfl) rfl
  (fun f fn hf hfn => by
   obtain rfl : f = 11 := Option.some.inj ((show Tryz.prog.funcNamed "billiard/billiardlaw22.WorldInvariant" = some 11 by kernel_rfl).symm.trans hf) |>.symm
   obtain rfl : fn = Tryz.f11 := (Option.some.inj (Tryz.func11.symm.trans hfn)).symm
   exact ⟨by kernel_rfl, fun j t ht => by
    rw [Tryz.params11] at ht
    have hm : t ∈ [48] := by simpa using Array.mem_of_getElem? ht
    have hall : ([48].all fun u => !Tryz.prog.wantsStandIn u) = true := by kernel_rfl
    exact (show Tryz.prog.wantsStandIn t = false by simpa using List.all_eq_true.1 hall t hm)⟩)
  (by kernel_rfl)
#print axioms worldInvariant_card
end Go.Proofs.YtlmcphcgiclanaaGreatDoor
