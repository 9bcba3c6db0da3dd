/- Part of the proof of the laws of this seat: S20c, S20d, S20e, S20f, S20g, S20h. No conditions. -/
import Derived.Test.YtaoaknafiegfoaaGreatDoorK2
import Derived.Test.YtaoaknafiegfoaaGreatDoorK5
import Derived.Test.YtaoaknafiegfoaaGreatDoorK20
import Derived.Test.YtaoaknafiegfoaaGreatDoorK18
import Derived.Test.YtaoaknafiegfoaaGreatDoorK24
import Derived.Test.YtaoaknafiegfoaaGreatDoorK26
set_option linter.unusedVariables false
set_option linter.unusedSimpArgs false
set_option linter.unnecessarySimpa false
namespace Go.Proofs.YtaoaknafiegfoaaGreatDoor
open Go.Bil
open Go.RowKit (Below)
open Go.Proofs
set_option maxHeartbeats 8000000 in
theorem aZl (w : World) (bs : Nat) (rx ry : Row) (F G : Body → Int) (A : Option Addr) (n c : Nat) (xs : List Body) (R : Rd w 10 A n (xs.map aF)) (hs : cA xs) (hb : ∀ b ∈ xs, Okb b) (hrx : aW 2 1 rx.A rx.n rx.c ((xs.map F).map cF) rx.e) (hry : aW 2 1 ry.A ry.n ry.c ((xs.map G).map cF) ry.e) (hF : ∀ b ∈ xs, -1152921504606846976 ≤ F b ∧ F b ≤ 1152921504606846976) (hG : ∀ b ∈ xs, -1152921504606846976 ≤ G b ∧ G b ≤ 1152921504606846976) (cn : Con) (hc : OkC xs cn) (hO : Own [(some bs, bc [.slice A n c, .slice rx.A rx.n rx.c, .slice ry.A ry.n ry.c] 303), rx.e, ry.e] w) (hdA : 0 < n → ∀ q off, A = some ⟨q, off, none⟩ → q ∉ bH [(some bs, bc [.slice A n c, .slice rx.A rx.n rx.c, .slice ry.A ry.n ry.c] 303), rx.e, ry.e]) :
  Calls Tryz.prog 220 #[.pointer (some ⟨bs, 0, none⟩), .agg (cN cn).toArray] w (fun ex w' => ∃ v, ex = .returned v ∧ (fun v w' => v = .tuple #[] ∧ ∃ ex ey : dN, aW 2 1 rx.A rx.n rx.c ((xs.map (aFr xs (·.nx) cn F)).map cF) ex ∧ aW 2 1 ry.A ry.n ry.c ((xs.map (aFr xs (·.ny) cn G)).map cF) ey ∧ Mem w (bH [(some bs, bc [.slice A n c, .slice rx.A rx.n rx.c, .slice ry.A ry.n ry.c] 303), rx.e, ry.e]) [(some bs, bc [.slice A n c, .slice rx.A rx.n rx.c, .slice ry.A ry.n ry.c] 303), ex, ey] w') v w') := by
 have hlen : xs.length = n := by simpa using R.len
 have hbd := R.bound
 have hlx : xs.length = rx.n := by simpa using hrx.1
 have hly : xs.length = ry.n := by simpa using hry.1
 obtain ⟨pa, xa, hxa, hka, hla, hba, hma⟩ := qO hs hc.l
 obtain ⟨pb, xb, hxb, hkb, hlb, hbb, hmb⟩ := qO hs hc.h
 have hoa := hb xa hma
 have hob := hb xb hmb
 have hne := hc.ne
 have hpl := (List.getElem?_eq_some_iff.1 hxa).1
 have hpl2 := (List.getElem?_eq_some_iff.1 hxb).1
 have hpab : pa ≠ pb := fun g => by subst g; rw [hxa] at hxb; injection hxb with hxb; subst hxb; omega
 have ma := hoa.m
 have mb := hob.m
 have hra := xN hc.n hoa hob (m := xa.mass) (by omega)
 have hrb := xN hc.n hoa hob (m := xb.mass) (by omega)
 have gax := (mM hra.2.2 hc.n.x).2.2
 have gay := (mM hra.2.2 hc.n.y).2.2
 have gbx := (mM hrb.2.2 hc.n.x).2.2
 have gby := (mM hrb.2.2 hc.n.y).2.2
 have fa := hF xa hma
 have fb := hF xb hmb
 have ga := hG xa hma
 have gb := hG xb hmb
 have hFa : (xs.map F)[pa]? = some (F xa) := by rw [List.getElem?_map, hxa]; rfl
 have hGa : (xs.map G)[pa]? = some (G xa) := by rw [List.getElem?_map, hxa]; rfl
 have hFb : ((xs.map F).set pa (F xa - pR (mH cn xa xb) xa.mass cn.nx))[pb]? = some (F xb) := sD (by rw [List.getElem?_map, hxb]; rfl) hpab
 have hGb : ((xs.map G).set pa (G xa - pR (mH cn xa xb) xa.mass cn.ny))[pb]? = some (G xb) := sD (by rw [List.getElem?_map, hxb]; rfl) hpab
 refine aH #[] 139 Tryz.func220 rfl Tryz.results220 Tryz.ntmps220 rfl ?_
 have M0 := hO.mem
 refine aD (aA (bG (.agg (List.toArray _)) M0 rfl rfl rfl (fun b1 w1 M1 => (aB (aC (aD (bO [(0, 0), (1, 0), (2, 0), (3, 1), (4, 0), (5, 0), (6, 1), (7, 2), (8, 0), (9, 0), (10, 0), (11, 0), (12, 0)] mixed rfl (by kernel_rfl) (fun w2 hb2 hh2 => ?_))))))))
 have M2 := M1.drew hb2 hh2
 refine aV rfl rfl rfl (fun _ => aG (.pointer _) rfl) (aV rfl rfl rfl (fun _ => aO rfl) (aV rfl rfl rfl (fun _ => aE 0 nO rfl) (bV rfl rfl rfl (aL 0 (.slice _ _ _) fI M2 rfl rfl rfl) (aV rfl rfl rfl (fun _ => aE 0 sZ rfl) (aV rfl rfl rfl (fun _ => aE 0 nQ rfl) ?_)))))
 refine bV rfl rfl rfl (aL 3 (.int _ _) cC M2 rfl rfl rfl) (dG [true, true] rfl (by kernel_rfl) (bX aEd rfl rfl (qY _ cn.low _ _ _ xs (R.memY M2 hdA) hs) ?_))
 rintro v3 w3 ⟨rfl, hb3⟩
 have M3 := M2.callB hb3
 refine aB (aC ⟨dH, ?_⟩)
 refine aV rfl rfl rfl (fun _ => aG (.tuple (List.toArray _)) rfl) (aV rfl rfl rfl (fun _ => bE (.int _ _) rfl rfl) (fH 20 (.int .i64 (pa : Int)) (iE (by rw [hla])) (aV rfl rfl rfl (fun _ => bE (.bool (decide _)) rfl rfl) (qN rfl rfl rfl (aV rfl rfl rfl (fun _ => aI (.bool (decide _)) rfl) ?_)))))
 refine cD (aC (aD (bO [(0, 0), (1, 0), (2, 0), (3, 1), (4, 0), (5, 0), (6, 1), (7, 2), (8, 0), (9, 0), (10, 0), (11, 0), (12, 0)] mixed rfl (by kernel_rfl) (fun w4 hb4 hh4 => ?_))))
 have M4 := M3.drew hb4 hh4
 refine aV rfl rfl rfl (fun _ => aG (.pointer _) rfl) (aV rfl rfl rfl (fun _ => aO rfl) (aV rfl rfl rfl (fun _ => aE 0 nO rfl) (bV rfl rfl rfl (aL 0 (.slice _ _ _) fI M4 rfl rfl rfl) (aV rfl rfl rfl (fun _ => aE 0 sZ rfl) (aV rfl rfl rfl (fun _ => aE 1 nU rfl) ?_)))))
 refine bV rfl rfl rfl (aL 3 (.int _ _) cC M4 rfl rfl rfl) (dG [true, true] rfl (by kernel_rfl) (bX aEd rfl rfl (qY _ cn.high _ _ _ xs (R.memY M4 hdA) hs) ?_))
 rintro v5 w5 ⟨rfl, hb5⟩
 have M5 := M4.callB hb5
 refine aB (aC ⟨dH, ?_⟩)
 refine aV rfl rfl rfl (fun _ => aG (.tuple (List.toArray _)) rfl) (aV rfl rfl rfl (fun _ => bE (.int _ _) rfl rfl) (fH 31 (.int .i64 (pb : Int)) (iE (by rw [hlb])) (aV rfl rfl rfl (fun _ => bE (.bool (decide _)) rfl rfl) (qN rfl rfl rfl (aV rfl rfl rfl (fun _ => aI (.bool (decide _)) rfl) ?_)))))
 refine cD (aC (aD (bO [(0, 1), (1, 0), (2, 0), (3, 0), (4, 1), (5, 0), (6, 1), (7, 1), (8, 0), (9, 0), (10, 0), (11, 1), (12, 0), (13, 1), (14, 1), (15, 2), (16, 0)] mixed rfl (by kernel_rfl) (fun w6 hb6 hh6 => ?_))))
 have M6 := M5.drew hb6 hh6
 refine bV rfl rfl rfl (bC 3 gI M6 rfl rfl rfl) (aV rfl rfl rfl (fun _ => aG (.pointer _) rfl) (aV rfl rfl rfl (fun _ => aO rfl) (aV rfl rfl rfl (fun _ => aE 0 nO rfl) (bV rfl rfl rfl (aL 0 (.slice _ _ _) fI M6 rfl rfl rfl) (fV rfl rfl rfl ?_)))))
 refine bV rfl rfl rfl (bN (pa) dW rfl rfl rfl ((R.memY M6 hdA).below_len (aJ aF hxa)) ((R.memY M6 hdA).someK (aJ aF hxa))) (bV rfl rfl rfl (dC _ bS (R.memY M6 hdA) (aJ aF hxa) rfl) (aV rfl rfl rfl (fun _ => aG (.pointer _) rfl) (aV rfl rfl rfl (fun _ => aO rfl) ?_)))
 refine aV rfl rfl rfl (fun _ => aE 0 nO rfl) (bV rfl rfl rfl (aL 0 (.slice _ _ _) fI M6 rfl rfl rfl) (fV rfl rfl rfl (bV rfl rfl rfl (bN (pb) dW rfl rfl rfl ((R.memY M6 hdA).below_len (aJ aF hxb)) ((R.memY M6 hdA).someK (aJ aF hxb))) (bV rfl rfl rfl (dC _ bS (R.memY M6 hdA) (aJ aF hxb) rfl) ?_))))
 refine dG [true, true, true, true, true, true, true] rfl (by kernel_rfl) (bX bHj rfl rfl (aFp _ cn xa xb hc.n hoa hob) ?_)
 rintro v7 w7 ⟨rfl, hb7⟩
 have M7 := M6.callB hb7
 refine aB (aC ⟨dH, ?_⟩)
 refine qN rfl rfl rfl (cD (aC (aD (bO [(0, 0), (1, 0), (2, 0), (3, 0), (4, 1), (5, 0), (6, 1), (7, 1), (8, 1), (9, 0), (10, 1), (11, 2), (12, 0), (13, 0), (14, 0), (15, 0), (16, 0)] mixed rfl (by kernel_rfl) (fun w8 hb8 hh8 => ?_)))))
 have M8 := M7.drew hb8 hh8
 refine fV rfl rfl rfl (aV rfl rfl rfl (fun _ => aG (.pointer _) rfl) (aV rfl rfl rfl (fun _ => aO rfl) (aV rfl rfl rfl (fun _ => aE 0 nO rfl) (bV rfl rfl rfl (aL 0 (.slice _ _ _) fI M8 rfl rfl rfl) (fV rfl rfl rfl ?_)))))
 refine bV rfl rfl rfl (bN (pa) dW rfl rfl rfl ((R.memY M8 hdA).below_len (aJ aF hxa)) ((R.memY M8 hdA).someK (aJ aF hxa))) (bV rfl rfl rfl (bJ 4 fB (R.memY M8 hdA) (Nat.lt_of_le_of_lt (Nat.zero_le _) ((R.memY M8 hdA).below_len (aJ aF hxa))) rfl) (bV rfl rfl rfl (eJ (o := 4) (.int _ _) aU (R.memY M8 hdA) (aJ aF hxa) rfl rfl) ?_))
 refine aV rfl rfl rfl (fun _ => aE 2 oC rfl) (bV rfl rfl rfl (tX 3 _ bM M8 rfl rfl rfl rfl) (dG [true, true, true, true, true] rfl (by kernel_rfl) (bX aSq rfl rfl (aAb _ (mH cn xa xb) xa.mass cn.nx cn.ny ⟨hra.1, hra.2.1⟩ (by omega) hra.2.2 hc.n.x hc.n.y) ?_)))
 rintro v9 w9 ⟨rfl, hb9⟩
 have M9 := M8.callB hb9
 refine aB (aC ⟨dH, ?_⟩)
 refine aV rfl rfl rfl (fun _ => aG (.tuple (List.toArray _)) rfl) (aV rfl rfl rfl (fun _ => bE (.int _ _) rfl rfl) (aV rfl rfl rfl (fun _ => bE (.int _ _) rfl rfl) (qN rfl rfl rfl (qN rfl rfl rfl (cD ?_)))))
 refine aC (aD (bO [(0, 0), (1, 0), (2, 0), (3, 1), (4, 0), (5, 0), (6, 0), (7, 0), (8, 1), (9, 0), (10, 0), (11, 0), (12, 0), (13, 1), (14, 0), (15, 1), (16, 1), (17, 0), (18, 0), (19, 0), (20, 0), (21, 0), (22, 1), (23, 0), (24, 1), (25, 1), (26, 0), (27, 0), (28, 1), (29, 2), (30, 1), (31, 2)] mixed rfl (by kernel_rfl) (fun w10 hb10 hh10 => ?_)))
 have M10 := M9.drew hb10 hh10
 refine aV rfl rfl rfl (fun _ => aG (.pointer _) rfl) (aV rfl rfl rfl (fun _ => aO rfl) (aV rfl rfl rfl (fun _ => aE 1 nL rfl) (bV rfl rfl rfl (aL 0 (.slice _ _ _) kW M10 rfl rfl rfl) (fV rfl rfl rfl (aV rfl rfl rfl (fun _ => aG (.pointer _) rfl) ?_)))))
 refine aV rfl rfl rfl (fun _ => aO rfl) (aV rfl rfl rfl (fun _ => aE 2 oE rfl) (bV rfl rfl rfl (aL 0 (.slice _ _ _) kW M10 rfl rfl rfl) (fV rfl rfl rfl (aV rfl rfl rfl (fun _ => aG (.pointer _) rfl) (aV rfl rfl rfl (fun _ => aO rfl) ?_)))))
 refine aV rfl rfl rfl (fun _ => aE 1 nL rfl) (bV rfl rfl rfl (aL 0 (.slice _ _ _) kW M10 rfl rfl rfl) (fV rfl rfl rfl (bV rfl rfl rfl (bN (pa) mO rfl rfl rfl ((hrx.rd M10 (aX (i := 1) rfl)).below_len (aJ cF hFa)) ((hrx.rd M10 (aX (i := 1) rfl)).someK (aJ cF hFa))) ?_)))
 refine bV rfl rfl rfl (iB (.int _ _) lS (hrx.rd M10 (aX (i := 1) rfl)) (aJ cF hFa) rfl) (fV rfl rfl rfl (aV rfl rfl rfl (fun _ => mD rfl rfl (by omega) (by omega)) (aV rfl rfl rfl (fun _ => aG (.pointer _) rfl) (aV rfl rfl rfl (fun _ => aO rfl) (aV rfl rfl rfl (fun _ => aE 2 oE rfl) ?_)))))
 refine bV rfl rfl rfl (aL 0 (.slice _ _ _) kW M10 rfl rfl rfl) (fV rfl rfl rfl (bV rfl rfl rfl (bN (pa) mO rfl rfl rfl ((hry.rd M10 (aX (i := 2) rfl)).below_len (aJ cF hGa)) ((hry.rd M10 (aX (i := 2) rfl)).someK (aJ cF hGa))) (bV rfl rfl rfl (iB (.int _ _) lS (hry.rd M10 (aX (i := 2) rfl)) (aJ cF hGa) rfl) ?_)))
 refine fV rfl rfl rfl (aV rfl rfl rfl (fun _ => mD rfl rfl (by omega) (by omega)) (bV rfl rfl rfl (bN (pa) mO rfl rfl rfl ((hrx.rd M10 (aX (i := 1) rfl)).below_len (aJ cF hFa)) ((hrx.rd M10 (aX (i := 1) rfl)).someK (aJ cF hFa))) (dG [true, true, true, true, true, true, true, true, true] rfl (by kernel_rfl) ?_)))
 refine xB 1 (.int _ _) lS M10 rfl hrx (aJ cF hFa) rfl rfl rfl rfl (fun e11 w11 hR11 M11 => ?_)
 have hQ11 := hR11.mapSet (f := cF) (x := F xa - pR (mH cn xa xb) xa.mass cn.nx) rfl
 refine aB (aC ⟨dH, ?_⟩)
 refine bV rfl rfl rfl (bN (pa) mO rfl rfl rfl ((hry.rd M11 (aX (i := 2) rfl)).below_len (aJ cF hGa)) ((hry.rd M11 (aX (i := 2) rfl)).someK (aJ cF hGa))) (dG [true] rfl (by kernel_rfl) (xB 2 (.int _ _) lS M11 rfl hry (aJ cF hGa) rfl rfl rfl rfl (fun e12 w12 hR12 M12 => ?_)))
 have hQ12 := hR12.mapSet (f := cF) (x := G xa - pR (mH cn xa xb) xa.mass cn.ny) rfl
 refine aB (aC ⟨dH, ?_⟩)
 refine cD (aC (aD (bO [(0, 0), (1, 0), (2, 0), (3, 0), (4, 1), (5, 0), (6, 1), (7, 1), (8, 1), (9, 0), (10, 1), (11, 2), (12, 0), (13, 0), (14, 0), (15, 0), (16, 0)] mixed rfl (by kernel_rfl) (fun w13 hb13 hh13 => ?_))))
 have M13 := M12.drew hb13 hh13
 refine fV rfl rfl rfl (aV rfl rfl rfl (fun _ => aG (.pointer _) rfl) (aV rfl rfl rfl (fun _ => aO rfl) (aV rfl rfl rfl (fun _ => aE 0 nO rfl) (bV rfl rfl rfl (aL 0 (.slice _ _ _) fI M13 rfl rfl rfl) (fV rfl rfl rfl ?_)))))
 refine bV rfl rfl rfl (bN (pb) dW rfl rfl rfl ((R.memY M13 hdA).below_len (aJ aF hxb)) ((R.memY M13 hdA).someK (aJ aF hxb))) (bV rfl rfl rfl (bJ 4 fB (R.memY M13 hdA) (Nat.lt_of_le_of_lt (Nat.zero_le _) ((R.memY M13 hdA).below_len (aJ aF hxb))) rfl) (bV rfl rfl rfl (eJ (o := 4) (.int _ _) aU (R.memY M13 hdA) (aJ aF hxb) rfl rfl) ?_))
 refine aV rfl rfl rfl (fun _ => aE 2 oC rfl) (bV rfl rfl rfl (tX 3 _ bM M13 rfl rfl rfl rfl) (dG [true, true, true, true, true] rfl (by kernel_rfl) (bX aSq rfl rfl (aAb _ (mH cn xa xb) xb.mass cn.nx cn.ny ⟨hrb.1, hrb.2.1⟩ (by omega) hrb.2.2 hc.n.x hc.n.y) ?_)))
 rintro v14 w14 ⟨rfl, hb14⟩
 have M14 := M13.callB hb14
 refine aB (aC ⟨dH, ?_⟩)
 refine aV rfl rfl rfl (fun _ => aG (.tuple (List.toArray _)) rfl) (aV rfl rfl rfl (fun _ => bE (.int _ _) rfl rfl) (aV rfl rfl rfl (fun _ => bE (.int _ _) rfl rfl) (qN rfl rfl rfl (qN rfl rfl rfl (cD ?_)))))
 refine aC (bO [(0, 0), (1, 0), (2, 0), (3, 1), (4, 0), (5, 0), (6, 0), (7, 0), (8, 1), (9, 0), (10, 0), (11, 0), (12, 0), (13, 1), (14, 0), (15, 1), (16, 1), (17, 0), (18, 0), (19, 0), (20, 0), (21, 0), (22, 1), (23, 0), (24, 1), (25, 1), (26, 0), (27, 0), (28, 1), (29, 2), (30, 1), (31, 2)] mixed rfl (by kernel_rfl) (fun w15 hb15 hh15 => ?_))
 have M15 := M14.drew hb15 hh15
 refine aV rfl rfl rfl (fun _ => aG (.pointer _) rfl) (aV rfl rfl rfl (fun _ => aO rfl) (aV rfl rfl rfl (fun _ => aE 1 nL rfl) (bV rfl rfl rfl (aL 0 (.slice _ _ _) kW M15 rfl rfl rfl) (fV rfl rfl rfl (aV rfl rfl rfl (fun _ => aG (.pointer _) rfl) ?_)))))
 refine aV rfl rfl rfl (fun _ => aO rfl) (aV rfl rfl rfl (fun _ => aE 2 oE rfl) (bV rfl rfl rfl (aL 0 (.slice _ _ _) kW M15 rfl rfl rfl) (fV rfl rfl rfl (aV rfl rfl rfl (fun _ => aG (.pointer _) rfl) (aV rfl rfl rfl (fun _ => aO rfl) ?_)))))
 refine aV rfl rfl rfl (fun _ => aE 1 nL rfl) (bV rfl rfl rfl (aL 0 (.slice _ _ _) kW M15 rfl rfl rfl) (fV rfl rfl rfl (bV rfl rfl rfl (bN (pb) mO rfl rfl rfl ((hQ11.rd M15 (aX (i := 1) rfl)).below_len (aJ cF hFb)) ((hQ11.rd M15 (aX (i := 1) rfl)).someK (aJ cF hFb))) ?_)))
 refine bV rfl rfl rfl (iB (.int _ _) lS (hQ11.rd M15 (aX (i := 1) rfl)) (aJ cF hFb) rfl) (fV rfl rfl rfl (aV rfl rfl rfl (fun _ => bU rfl rfl (by omega) (by omega)) (aV rfl rfl rfl (fun _ => aG (.pointer _) rfl) (aV rfl rfl rfl (fun _ => aO rfl) (aV rfl rfl rfl (fun _ => aE 2 oE rfl) ?_)))))
 refine bV rfl rfl rfl (aL 0 (.slice _ _ _) kW M15 rfl rfl rfl) (fV rfl rfl rfl (bV rfl rfl rfl (bN (pb) mO rfl rfl rfl ((hQ12.rd M15 (aX (i := 2) rfl)).below_len (aJ cF hGb)) ((hQ12.rd M15 (aX (i := 2) rfl)).someK (aJ cF hGb))) (bV rfl rfl rfl (iB (.int _ _) lS (hQ12.rd M15 (aX (i := 2) rfl)) (aJ cF hGb) rfl) ?_)))
 refine fV rfl rfl rfl (aV rfl rfl rfl (fun _ => bU rfl rfl (by omega) (by omega)) (bV rfl rfl rfl (bN (pb) mO rfl rfl rfl ((hQ11.rd M15 (aX (i := 1) rfl)).below_len (aJ cF hFb)) ((hQ11.rd M15 (aX (i := 1) rfl)).someK (aJ cF hFb))) (dG [true, true, true, true, true, true, true, true, true] rfl (by kernel_rfl) ?_)))
 refine xB 1 (.int _ _) lS M15 rfl hQ11 (aJ cF hFb) rfl rfl rfl rfl (fun e16 w16 hR16 M16 => ?_)
 have hQ16 := hR16.mapSet (f := cF) (x := F xb + pR (mH cn xa xb) xb.mass cn.nx) rfl
 refine aB (aC ⟨dH, ?_⟩)
 refine bV rfl rfl rfl (bN (pb) mO rfl rfl rfl ((hQ12.rd M16 (aX (i := 2) rfl)).below_len (aJ cF hGb)) ((hQ12.rd M16 (aX (i := 2) rfl)).someK (aJ cF hGb))) (dG [true] rfl (by kernel_rfl) (xB 2 (.int _ _) lS M16 rfl hQ12 (aJ cF hGb) rfl rfl rfl rfl (fun e17 w17 hR17 M17 => ?_)))
 have hQ17 := hR17.mapSet (f := cF) (x := G xb + pR (mH cn xa xb) xb.mass cn.ny) rfl
 refine aB (aC ⟨dH, ?_⟩)
 refine cD (iV ?_)
 exact ⟨rfl, e16, e17, by rw [← aNm hs hxa hxb hka hkb hc hba hbb]; exact hQ16, by rw [← aNm hs hxa hxb hka hkb hc hba hbb]; exact hQ17, M17.keep [true, true, true, false]⟩
set_option maxHeartbeats 4000000 in
theorem aHk (w : World) (bs : Nat) (rx ry : Row) (A : Option Addr) (n c : Nat) (xs : List Body) (R : Rd w 10 A n (xs.map aF)) (hs : cA xs) (hb : ∀ b ∈ xs, Okb b) (B : Option Addr) (mc c' : Nat) (cs : List Con) (R' : Rd w 5 B mc (cs.map cN)) (hcs : ∀ c ∈ cs, OkC xs c) (hmc : mc ≤ 8589934592) (hrx : aW 2 1 rx.A rx.n rx.c ((xs.map (fun b => fX xs (cs.take 0) (·.nx) b)).map cF) rx.e) (hry : aW 2 1 ry.A ry.n ry.c ((xs.map (fun b => fX xs (cs.take 0) (·.ny) b)).map cF) ry.e) (hO : Own [(some bs, bc [.slice A n c, .slice rx.A rx.n rx.c, .slice ry.A ry.n ry.c] 303), rx.e, ry.e] w) (hdA : 0 < n → ∀ q off, A = some ⟨q, off, none⟩ → q ∉ bH [(some bs, bc [.slice A n c, .slice rx.A rx.n rx.c, .slice ry.A ry.n ry.c] 303), rx.e, ry.e]) (hdB : 0 < mc → ∀ q off, B = some ⟨q, off, none⟩ → q ∉ bH [(some bs, bc [.slice A n c, .slice rx.A rx.n rx.c, .slice ry.A ry.n ry.c] 303), rx.e, ry.e]) :
  Calls Tryz.prog 219 #[.slice B mc c', .func (.func 220) #[.pointer (some ⟨bs, 0, none⟩)] #[]] w (fun ex w' => ∃ v, ex = .returned v ∧ (fun v w' => v = .tuple #[] ∧ ∃ ex ey : dN, aW 2 1 rx.A rx.n rx.c ((xs.map (fun b => fX xs cs (·.nx) b)).map cF) ex ∧ aW 2 1 ry.A ry.n ry.c ((xs.map (fun b => fX xs cs (·.ny) b)).map cF) ey ∧ Mem w (bH [(some bs, bc [.slice A n c, .slice rx.A rx.n rx.c, .slice ry.A ry.n ry.c] 303), rx.e, ry.e]) [(some bs, bc [.slice A n c, .slice rx.A rx.n rx.c, .slice ry.A ry.n ry.c] 303), ex, ey] w') v w') := by
 have hlen : xs.length = n := by simpa using R.len
 have hbd := R.bound
 have hclen : cs.length = mc := by simpa using R'.len
 have hbd' := R'.bound
 refine aH #[] 16 Tryz.func219 rfl Tryz.results219 Tryz.ntmps219 rfl ?_
 have M0 := hO.mem
 refine aD (aA (eG rfl rfl (wq (cP Tryz.underlying166 rfl) rfl (aY rfl rfl (aB (aC (aS (dK (σ := Nat × dN × dN) [1, 6, 7] (fun (k, ex, ey) => [(8, .int .i64 (k : Int))]) (fun (k, ex, ey) w' => (k ≤ mc ∧ aW 2 1 rx.A rx.n rx.c ((xs.map (fun b => fX xs (cs.take k) (·.nx) b)).map cF) ex ∧ aW 2 1 ry.A ry.n ry.c ((xs.map (fun b => fX xs (cs.take k) (·.ny) b)).map cF) ey) ∧ Mem w (bH [(some bs, bc [.slice A n c, .slice rx.A rx.n rx.c, .slice ry.A ry.n ry.c] 303), rx.e, ry.e]) [(some bs, bc [.slice A n c, .slice rx.A rx.n rx.c, .slice ry.A ry.n ry.c] 303), ex, ey] w') (fun (k, ex, ey) => mc - k) (0, rx.e, ry.e) (bR rfl eZ) (⟨⟨by omega, hrx, hry⟩, M0⟩) ?_))))))))
 rintro ⟨k, ex, ey⟩ ρ1 w1 ⟨⟨hk, hqx, hqy⟩, hM1⟩
 refine aD (aA (dA rfl rfl rfl rfl (aB (aC (aD ?_)))))
 refine aZ rfl (fun h9 => ?_) (fun h9 => ?_)
 ·obtain ⟨cn, hcn⟩ := cI (xs := cs) (k := k) hclen (by omega)
  have hkx : ∀ b ∈ xs, -1152921504606846976 ≤ fX xs (cs.take k) (·.nx) b ∧ fX xs (cs.take k) (·.nx) b ≤ 1152921504606846976 := fun b hbm => by have := sR (cs := cs.take k) (g := (·.nx)) hs hb (fun c h => hcs c (List.mem_of_mem_take h)) (fun c h => (hcs c (List.mem_of_mem_take h)).n.x) hbm; have := List.length_take_le k cs; omega
  have hky : ∀ b ∈ xs, -1152921504606846976 ≤ fX xs (cs.take k) (·.ny) b ∧ fX xs (cs.take k) (·.ny) b ≤ 1152921504606846976 := fun b hbm => by have := sR (cs := cs.take k) (g := (·.ny)) hs hb (fun c h => hcs c (List.mem_of_mem_take h)) (fun c h => (hcs c (List.mem_of_mem_take h)).n.y) hbm; have := List.length_take_le k cs; omega
  refine aK (aC (aD (aS (aD (aA (wq (bN (k) aDi rfl rfl rfl ((R'.memY hM1 hdB).below_len (aJ cN hcn)) ((R'.memY hM1 hdB).someK (aJ cN hcn))) rfl (wq (dC _ gI (R'.memY hM1 hdB) (aJ cN hcn) rfl) rfl (aQ uB hM1 rfl rfl (fun b2 w2 M2 => ?_)))))))))
  refine bB 3 _ gI M2 rfl rfl rfl rfl rfl (aR rfl) rfl (fun w3 M3 => (aB (aC (aA (wq (aG (.func _ _ _) rfl) rfl (wq (bC 3 gI M3 rfl rfl rfl) rfl (bX bEo rfl rfl (aZl _ bs ⟨rx.A, rx.n, rx.c, ex⟩ ⟨ry.A, ry.n, ry.c, ey⟩ (fun b => fX xs (cs.take k) (·.nx) b) (fun b => fX xs (cs.take k) (·.ny) b) A n c xs (R.memY M3 hdA) hs hb hqx hqy hkx hky cn (hcs cn (List.mem_of_getElem? hcn)) (M3.ownSeg 0 3) (M3.away 0 3 R hdA)) ?_)))))))
  rintro v4 w4 ⟨rfl, ex2, ey2, hqx2, hqy2, hM4⟩
  have M4 : Mem _ _ [_, _, _, _] _ := M3.seg 0 3 hM4
  refine aB (dE (aC (aA (wq (bU rfl rfl (by omega) (by omega)) rfl (aY rfl rfl (aB ?_))))))
  refine cS (k + 1, ex2, ey2) (bR rfl eZ) (cV rfl (cV rfl (cV rfl jQ))) ?_ ?_
  ·exact ⟨⟨by omega, by rw [← aDa hcn]; exact hqx2, by rw [← aDa hcn]; exact hqy2⟩, M4.keep [true, true, true, false]⟩
  ·(show mc - (k + 1) < mc - k; omega)
 ·have hkn : k = mc := by omega
  rw [List.take_of_length_le (by omega)] at hqx hqy
  refine cR (cZ (cX (eQ (iV ?_))))
  exact ⟨rfl, ex, ey, hqx, hqy, hM1⟩
theorem Mem.rot3 {w0 w : World} {X : List Nat} {a b c : dN} (M : Mem w0 X [a, b, c] w) : Mem w0 X [c, b, a] w := M.perm (List.reverse_perm [a, b, c]).symm
theorem Mem.rot3' {w0 w : World} {X : List Nat} {a b c : dN} (M : Mem w0 X [a, b, c] w) : Mem w0 X [c, a, b] w := M.perm (List.perm_append_comm (l₁ := [a, b]) (l₂ := [c]))
theorem aYk {xs : List Body} {cs : List Con} {n : Nat} (hs : cA xs) (hb : ∀ b ∈ xs, Okb b) (hcs : ∀ c ∈ cs, OkC xs c) (hn : cs.length = n) (hl : n ≤ 8589934592) {b : Body} (h : b ∈ xs) : (-1152921504606846976 ≤ fX xs cs (·.nx) b ∧ fX xs cs (·.nx) b ≤ 1152921504606846976) ∧ -1152921504606846976 ≤ fX xs cs (·.ny) b ∧ fX xs cs (·.ny) b ≤ 1152921504606846976 := by
 have h1 := sR (cs := cs) (g := (·.nx)) hs hb hcs (fun c h => (hcs c h).n.x) h
 have h2 := sR (cs := cs) (g := (·.ny)) hs hb hcs (fun c h => (hcs c h).n.y) h
 omega
set_option maxHeartbeats 4000000 in
theorem aVc (w : World) (A : Option Addr) (n c : Nat) (xs : List Body) (R : Rd w 10 A n (xs.map aF)) (hs : cA xs) (hb : ∀ b ∈ xs, Okb b) (hn : n ≤ 1048576) (B : Option Addr) (mc c' : Nat) (cs : List Con) (R' : Rd w 5 B mc (cs.map cN)) (hcs : ∀ c ∈ cs, OkC xs c) (hmc : mc ≤ 8589934592) :
  Calls Tryz.prog 186 #[.slice A n c, .slice B mc c'] w (fun ex w' => ∃ v, ex = .returned v ∧ (fun v w' => ∃ rx ry : Row, v = .tuple #[.slice rx.A rx.n rx.c, .slice ry.A ry.n ry.c] ∧ aW 2 1 rx.A rx.n rx.c ((xs.map (fun b => fX xs cs (·.nx) b)).map cF) rx.e ∧ aW 2 1 ry.A ry.n ry.c ((xs.map (fun b => fX xs cs (·.ny) b)).map cF) ry.e ∧ Mem w [] [rx.e, ry.e] w') v w') := by
 have hlen : xs.length = n := by simpa using R.len
 have hbd := R.bound
 have hclen : cs.length = mc := by simpa using R'.len
 have hbd' := R'.bound
 have hz0 : ∀ g : Con → Int, List.replicate n ([.int .i64 0] : List Value) = (xs.map (fun b => fX xs (cs.take 0) g b)).map cF := fun g => by rw [aYo, aOo hlen (0 : Int)]; exact congrArg (List.map cF) (List.map_congr_left (fun b _ => (aOy xs cs g b).symm))
 refine aH #[.tmp 4, .tmp 5] 28 Tryz.func186 rfl Tryz.results186 Tryz.ntmps186 rfl ?_
 have M0 := Mem.refl w
 refine aD (aA (fP rfl rfl (fP rfl rfl (aB (aC (aD (aUt [(0, 0), (1, 0), (2, 0), (4, 0), (5, 0)] 3 6 [(6, 2), (7, 0), (8, 2), (9, 0)] [(3, 2), (7, 0), (8, 2), (9, 0)] mixed rfl (by kernel_rfl) (fun w1 hb1 hh1 => ?_))))))))
 have M1 := M0.drew hb1 hh1
 refine vB rfl rfl rfl (fun _ => aG (.slice _ _ _) rfl) (vB rfl rfl rfl (fun _ => aG (.slice _ _ _) rfl) (vB rfl rfl rfl (fun _ => cP Tryz.underlying29 rfl) (vB rfl rfl rfl (fun _ => aG (.slice _ _ _) rfl) (vB rfl rfl rfl (fun _ => cP Tryz.underlying29 rfl) ?_))))
 refine aNw ?_ ?_
 ·refine dG [] rfl (by kernel_rfl) (jP (n) [.int .i64 0] mO xV rfl M1 rfl rfl rfl rfl rfl rfl (by omega) (by omega) (fun b2 w2 M2 => ?_))
  have hL10 := kA (T := 2) (sz := 1) (b := b2) (nn := n) (List.replicate n [.int .i64 0]) (fun l hl => by rw [List.eq_of_mem_replicate hl]; rfl) (by simp) (by omega)
  rw [hz0 (·.nx)] at hL10
  rw [hz0 (·.nx)] at M2
  refine aB (aC ⟨dH, ?_⟩)
  refine dG [] rfl (by kernel_rfl) (jP (n) [.int .i64 0] mO xV rfl M2 rfl rfl rfl rfl rfl rfl (by omega) (by omega) (fun b3 w3 M3 => ?_))
  have hL13 := kA (T := 2) (sz := 1) (b := b3) (nn := n) (List.replicate n [.int .i64 0]) (fun l hl => by rw [List.eq_of_mem_replicate hl]; rfl) (by simp) (by omega)
  rw [hz0 (·.ny)] at hL13
  rw [hz0 (·.ny)] at M3
  refine aB (aC ⟨dH, ?_⟩)
  refine aV rfl rfl rfl (fun _ => cH [(0, .slice _ _ _), (1, .slice _ _ _), (2, .slice _ _ _)] _ aCo rfl rfl) (dG [] rfl (by kernel_rfl) (bG (.agg (List.toArray _)) M3 rfl rfl rfl (fun b4 w4 M4 => ?_)))
  refine aB (aC ⟨dH, ?_⟩)
  refine aV rfl rfl rfl (fun _ => aI (.pointer _) rfl) (cD (aC (aD (aA (eG rfl rfl (wq (aG (.pointer _) rfl) rfl (wq (cO [.pointer _] [] rfl rfl) rfl ?_)))))))
  have M5 : Mem _ _ [_, _, _] _ := Mem.rot3' M4
  refine bX aUa rfl rfl (aHk _ b4 ⟨some ⟨b2, 0, none⟩, n, n, (some b2, bc ((xs.map (fun b => fX xs (cs.take 0) (·.nx) b)).map cF).flatten 2)⟩ ⟨some ⟨b3, 0, none⟩, n, n, (some b3, bc ((xs.map (fun b => fX xs (cs.take 0) (·.ny) b)).map cF).flatten 2)⟩ A n c xs (R.mem M5) hs hb B mc c' cs (R'.mem M5) hcs hmc hL10 hL13 (M5.ownSeg 0 3) (M5.away 0 3 R (by simp)) (M5.away 0 3 R' (by simp))) ?_
  rintro v6 w6 ⟨rfl, ex, ey, hqx, hqy, hM6⟩
  have M6 : Mem _ _ [_, _, _] _ := M5.seg 0 3 hM6
  refine aB (aC (aD (bO [(0, 0), (1, 0), (2, 0), (3, 1), (4, 0), (5, 0), (6, 0), (7, 1), (8, 0), (9, 0)] mixed rfl (by kernel_rfl) (fun w7 hb7 hh7 => ?_))))
  have M7 := M6.drew hb7 hh7
  refine aV rfl rfl rfl (fun _ => aG (.pointer _) rfl) (aV rfl rfl rfl (fun _ => aO rfl) (aV rfl rfl rfl (fun _ => aE 1 nL rfl) (bV rfl rfl rfl (aL 0 (.slice _ _ _) kW M7 rfl rfl rfl) (aV rfl rfl rfl (fun _ => aG (.pointer _) rfl) (aV rfl rfl rfl (fun _ => aO rfl) ?_)))))
  refine aV rfl rfl rfl (fun _ => aE 2 oE rfl) (bV rfl rfl rfl (aL 0 (.slice _ _ _) kW M7 rfl rfl rfl) (aV rfl rfl rfl (fun _ => aI (.slice _ _ _) rfl) (aV rfl rfl rfl (fun _ => aI (.slice _ _ _) rfl) (cD (aC (aM ?_))))))
  refine iH (.slice _ _ _) (.slice _ _ _) rfl rfl ?_
  exact ⟨⟨(some ⟨b2, 0, none⟩), n, n, ex⟩, ⟨(some ⟨b3, 0, none⟩), n, n, ey⟩, rfl, hqx, hqy, M7.keep [false, true, true]⟩
 ·refine dG [] rfl (by kernel_rfl) (jP (n) [.int .i64 0] mO xV rfl M1 rfl rfl rfl rfl rfl rfl (by omega) (by omega) (fun b8 w8 M8 => ?_))
  have hL13 := kA (T := 2) (sz := 1) (b := b8) (nn := n) (List.replicate n [.int .i64 0]) (fun l hl => by rw [List.eq_of_mem_replicate hl]; rfl) (by simp) (by omega)
  rw [hz0 (·.ny)] at hL13
  rw [hz0 (·.ny)] at M8
  refine aB (aC ⟨dH, ?_⟩)
  refine dG [] rfl (by kernel_rfl) (jP (n) [.int .i64 0] mO xV rfl M8 rfl rfl rfl rfl rfl rfl (by omega) (by omega) (fun b9 w9 M9 => ?_))
  have hL10 := kA (T := 2) (sz := 1) (b := b9) (nn := n) (List.replicate n [.int .i64 0]) (fun l hl => by rw [List.eq_of_mem_replicate hl]; rfl) (by simp) (by omega)
  rw [hz0 (·.nx)] at hL10
  rw [hz0 (·.nx)] at M9
  refine aB (aC ⟨dH, ?_⟩)
  refine aV rfl rfl rfl (fun _ => cH [(0, .slice _ _ _), (1, .slice _ _ _), (2, .slice _ _ _)] _ aCo rfl rfl) (dG [] rfl (by kernel_rfl) (bG (.agg (List.toArray _)) M9 rfl rfl rfl (fun b10 w10 M10 => ?_)))
  refine aB (aC ⟨dH, ?_⟩)
  refine aV rfl rfl rfl (fun _ => aI (.pointer _) rfl) (cD (aC (aD (aA (eG rfl rfl (wq (aG (.pointer _) rfl) rfl (wq (cO [.pointer _] [] rfl rfl) rfl ?_)))))))
  have M11 : Mem _ _ [_, _, _] _ := Mem.rot3 M10
  refine bX aUa rfl rfl (aHk _ b10 ⟨some ⟨b9, 0, none⟩, n, n, (some b9, bc ((xs.map (fun b => fX xs (cs.take 0) (·.nx) b)).map cF).flatten 2)⟩ ⟨some ⟨b8, 0, none⟩, n, n, (some b8, bc ((xs.map (fun b => fX xs (cs.take 0) (·.ny) b)).map cF).flatten 2)⟩ A n c xs (R.mem M11) hs hb B mc c' cs (R'.mem M11) hcs hmc hL10 hL13 (M11.ownSeg 0 3) (M11.away 0 3 R (by simp)) (M11.away 0 3 R' (by simp))) ?_
  rintro v12 w12 ⟨rfl, ex, ey, hqx, hqy, hM12⟩
  have M12 : Mem _ _ [_, _, _] _ := M11.seg 0 3 hM12
  refine aB (aC (aD (bO [(0, 0), (1, 0), (2, 0), (3, 1), (4, 0), (5, 0), (6, 0), (7, 1), (8, 0), (9, 0)] mixed rfl (by kernel_rfl) (fun w13 hb13 hh13 => ?_))))
  have M13 := M12.drew hb13 hh13
  refine aV rfl rfl rfl (fun _ => aG (.pointer _) rfl) (aV rfl rfl rfl (fun _ => aO rfl) (aV rfl rfl rfl (fun _ => aE 1 nL rfl) (bV rfl rfl rfl (aL 0 (.slice _ _ _) kW M13 rfl rfl rfl) (aV rfl rfl rfl (fun _ => aG (.pointer _) rfl) (aV rfl rfl rfl (fun _ => aO rfl) ?_)))))
  refine aV rfl rfl rfl (fun _ => aE 2 oE rfl) (bV rfl rfl rfl (aL 0 (.slice _ _ _) kW M13 rfl rfl rfl) (aV rfl rfl rfl (fun _ => aI (.slice _ _ _) rfl) (aV rfl rfl rfl (fun _ => aI (.slice _ _ _) rfl) (cD (aC (aM ?_))))))
  refine iH (.slice _ _ _) (.slice _ _ _) rfl rfl ?_
  exact ⟨⟨(some ⟨b9, 0, none⟩), n, n, ex⟩, ⟨(some ⟨b8, 0, none⟩), n, n, ey⟩, rfl, hqx, hqy, M13.keep [false, true, true]⟩
set_option maxHeartbeats 8000000 in
theorem aOx (w : World) (A : Option Addr) (n c : Nat) (xs : List Body) (R : Rd w 10 A n (xs.map aF)) (hs : cA xs) (hb : ∀ b ∈ xs, Okb b) (hn : n ≤ 1048576) (B : Option Addr) (mc c' : Nat) (cs : List Con) (R' : Rd w 5 B mc (cs.map cN)) (hcs : ∀ c ∈ cs, OkC xs c) (hmc : mc ≤ 8589934592) :
  Calls Tryz.prog 160 #[.slice A n c, .slice B mc c'] w (fun ex w' => ∃ v, ex = .returned v ∧ (fun v w' => ∃ r : Row, v = .tuple #[.slice r.A r.n r.c, .bool (aUy xs cs)] ∧ aW 39 10 r.A r.n r.c ((aFa xs cs).map aF) r.e ∧ Mem w [] [r.e] w') v w') := by
 have hlen : xs.length = n := by simpa using R.len
 have hbd := R.bound
 have hclen : cs.length = mc := by simpa using R'.len
 have hbd' := R'.bound
 refine aH #[.tmp 4, .tmp 5] 75 Tryz.func160 rfl Tryz.results160 Tryz.ntmps160 rfl ?_
 have M0 := Mem.refl w
 refine aD (aA (fP rfl rfl (wq (aI (.bool false) rfl) rfl (aB (aC (aD (aA (eG rfl rfl (eG rfl rfl ?_)))))))))
 refine bX bDo rfl rfl (aVc _ A n c xs (R.mem M0) hs hb hn B mc c' cs (R'.mem M0) hcs hmc) ?_
 rintro v1 w1 ⟨rx, ry, rfl, hrx, hry, hM1⟩
 have M1 : Mem _ _ [_, _] _ := M0.call0 hM1
 have hrxn : xs.length = rx.n := by simpa using hrx.1
 have hryn : xs.length = ry.n := by simpa using hry.1
 refine wq (aG (.tuple (List.toArray _)) rfl) rfl (wq (bE (.slice _ _ _) rfl rfl) rfl (wq (bE (.slice _ _ _) rfl rfl) rfl (fP rfl rfl (fP rfl rfl (aB (aC (aD (aA ?_))))))))
 refine wq (aI (.bool false) rfl) rfl (aB (aC (aD (aA (fP rfl rfl ?_)))))
 have M2 := M1.dummy default
 refine aB (aC (aD (aD (aA (eG rfl rfl (wq (cP Tryz.underlying29 rfl) rfl (aY rfl rfl (aB (aC (aS (dK (σ := Nat × Row) [4, 5, 6, 7, 22, 23] (fun (k, q) => [(8, .bool ((xs.take k).any (aYx xs cs))), (9, .slice q.A q.n q.c), (24, .int .i64 (k : Int))]) (fun (k, q) w' => (k ≤ n ∧ aW 39 10 q.A q.n q.c (((xs.take k).map (aIq xs cs)).map aF) q.e) ∧ Mem w [] [rx.e, ry.e, q.e] w') (fun (k, q) => n - k) (0, gP) (bR (bv rfl rfl) (bR rfl (bR rfl eZ))) (⟨⟨by omega, aW.nil _ _ _⟩, M2⟩) ?_)))))))))))
 rintro ⟨k, q⟩ ρ3 w3 ⟨⟨hk, hq⟩, hM3⟩
 have htl := List.length_take_le k xs
 have hqn : (xs.take k).length = q.n := by simpa using hq.1
 refine aD (aA (dA rfl rfl rfl rfl (aB (aC (aD ?_)))))
 refine aZ rfl (fun h25 => ?_) (fun h25 => ?_)
 ·obtain ⟨xb, hxb⟩ := cI (xs := xs) (k := k) hlen (by omega)
  have hxm := List.mem_of_getElem? hxb
  have hsb := aYk hs hb hcs hclen hmc hxm
  have hvb := (hb xb hxm).v
  have hlx := eI (xb.vx + fX xs cs (·.nx) xb) (l := 16777216) (by decide)
  have hly := eI (xb.vy + fX xs cs (·.ny) xb) (l := 16777216) (by decide)
  refine aK (aC (aD (aS (aD (aA (aY rfl rfl (wq (bN (k) dW rfl rfl rfl ((R.mem hM3).below_len (aJ aF hxb)) ((R.mem hM3).someK (aJ aF hxb))) rfl (wq (dC _ bS (R.mem hM3) (aJ aF hxb) rfl) rfl (aQ gS hM3 rfl rfl (fun b4 w4 M4 => (bP rfl rfl ?_)))))))))))
  refine bB 3 _ bS M4 rfl rfl rfl rfl rfl (aR rfl) rfl (fun w5 M5 => (aB (aC (aD (bO [(0, 0), (1, 0), (2, 1), (3, 0), (4, 0), (5, 0), (6, 1), (7, 1), (8, 0), (9, 2), (10, 0), (11, 0), (12, 0), (13, 0), (14, 0)] mixed rfl (by kernel_rfl) (fun w6 hb6 hh6 => ?_))))))
  have M6 := M5.drew hb6 hh6
  refine aV rfl rfl rfl (fun _ => aE 8 fA rfl) (aV rfl rfl rfl (fun _ => aE 0 dR rfl) (bV rfl rfl rfl (aL 3 (.int _ _) aU M6 rfl rfl rfl) (aV rfl rfl rfl (fun _ => bZ fW Tryz.underlying2 rfl (kQ _ (by omega) (by omega))) (oF rfl rfl rfl (fV rfl rfl rfl ?_)))))
  refine bV rfl rfl rfl (bN (k) mO rfl rfl rfl ((hrx.rd M6 (aX (i := 0) rfl)).below_len (aJ cF (aJ _ hxb))) ((hrx.rd M6 (aX (i := 0) rfl)).someK (aJ cF (aJ _ hxb)))) (bV rfl rfl rfl (iB (.int _ _) lS (hrx.rd M6 (aX (i := 0) rfl)) (aJ cF (aJ _ hxb)) rfl) ?_)
  refine aV rfl rfl rfl (fun _ => bU rfl rfl (by omega) (by omega)) (dG [true, true, true] rfl (by kernel_rfl) (bX aLi rfl rfl (zL _ (xb.vx + fX xs cs (·.nx) xb) 16777216 ⟨by decide, by decide⟩) ?_))
  rintro v7 w7 ⟨rfl, hb7⟩
  have M7 := M6.callB hb7
  refine aB (aC ⟨dH, ?_⟩)
  refine aV rfl rfl rfl (fun _ => aG (.tuple (List.toArray _)) rfl) (aV rfl rfl rfl (fun _ => bE (.int _ _) rfl rfl) (aV rfl rfl rfl (fun _ => bE (.bool (decide _)) rfl rfl) (qN rfl rfl rfl (aV rfl rfl rfl (fun _ => aI (.bool (decide _)) rfl) (cD ?_)))))
  refine aC (aD (bO [(0, 0), (1, 0), (2, 1), (3, 0), (4, 0), (5, 0), (6, 1), (7, 1), (8, 0), (9, 2), (10, 0), (11, 0), (12, 0), (13, 0), (14, 0)] mixed rfl (by kernel_rfl) (fun w8 hb8 hh8 => ?_)))
  have M8 := M7.drew hb8 hh8
  refine aV rfl rfl rfl (fun _ => aE 8 fA rfl) (aV rfl rfl rfl (fun _ => aE 1 dJ rfl) (bV rfl rfl rfl (aL 3 (.int _ _) aU M8 rfl rfl rfl) (aV rfl rfl rfl (fun _ => bZ fW Tryz.underlying2 rfl (kQ _ (by omega) (by omega))) (oF rfl rfl rfl (fV rfl rfl rfl ?_)))))
  refine bV rfl rfl rfl (bN (k) mO rfl rfl rfl ((hry.rd M8 (aX (i := 1) rfl)).below_len (aJ cF (aJ _ hxb))) ((hry.rd M8 (aX (i := 1) rfl)).someK (aJ cF (aJ _ hxb)))) (bV rfl rfl rfl (iB (.int _ _) lS (hry.rd M8 (aX (i := 1) rfl)) (aJ cF (aJ _ hxb)) rfl) ?_)
  refine aV rfl rfl rfl (fun _ => bU rfl rfl (by omega) (by omega)) (dG [true, true, true] rfl (by kernel_rfl) (bX aLi rfl rfl (zL _ (xb.vy + fX xs cs (·.ny) xb) 16777216 ⟨by decide, by decide⟩) ?_))
  rintro v9 w9 ⟨rfl, hb9⟩
  have M9 := M8.callB hb9
  refine aB (aC ⟨dH, ?_⟩)
  refine aV rfl rfl rfl (fun _ => aG (.tuple (List.toArray _)) rfl) (aV rfl rfl rfl (fun _ => bE (.int _ _) rfl rfl) (aV rfl rfl rfl (fun _ => bE (.bool (decide _)) rfl rfl) (qN rfl rfl rfl (aV rfl rfl rfl (fun _ => aI (.bool (decide _)) rfl) (cD ?_)))))
  refine aC (aD (aA (aY rfl rfl (wq (bZ us2 Tryz.underlying21 rfl (lV _ (by omega) (by omega))) rfl (aY rfl rfl (wq (bZ us2 Tryz.underlying21 rfl (lV _ (by omega) (by omega))) rfl (wq (cH [(0, .int _ _), (1, .int _ _)] _ fE rfl rfl) rfl ?_)))))))
  refine wq (aE 8 fA rfl) rfl (aDw 3 _ bM M9 rfl rfl rfl rfl rfl (aR rfl) (Nat.le_of_ble_eq_true rfl) (fun w10 M10 => (aB (aC (aD (aA (wq (aG (.bool _) rfl) rfl (wq (aG (.bool _) rfl) rfl ?_))))))))
  refine nK 62 _ rfl (fun g62 => ?_) (fun g62 => ?_)
  ·refine aN rfl rfl (wq (bQ true (.bool true) rfl rfl) rfl (wq (aG (.bool true) rfl) rfl (aN rfl rfl (wq (bQ true (.bool true) rfl rfl) rfl (wq (aI (.bool true) rfl) rfl ?_)))))
   refine aB (aC (aA (eG rfl rfl (wq (bC 3 bS M10 rfl rfl rfl) rfl (dB [.agg (List.toArray _)] [aF (aIq xs cs xb)] rfl dW M10 rfl rfl rfl rfl (dI rfl) (by decide) (fun b11 w11 M11 => (eC 2 [aF (aIq xs cs xb)] dW M11 rfl rfl rfl rfl rfl hq rfl (by simp [aF, Go.Bil.one]) (dD.ofMem 4 M11 rfl) (by omega) (fun A12 c12 e12 w12 M12 hR12 => ?_))))))))
   refine fP rfl rfl (aB (dE (aC (aA (wq (bU rfl rfl (by omega) (by omega)) rfl (aY rfl rfl ?_))))))
   refine aB ?_
   refine cS (k + 1, ⟨A12, q.n + 1, c12, e12⟩) (bR (bv rfl (by rw [cT hxb, List.any_append, List.any_cons, List.any_nil, Bool.or_false]; rw [g62, Bool.true_or])) (bR rfl (bR rfl eZ))) (cV rfl (cV rfl (cV rfl (cV rfl (cV rfl (cV rfl jQ)))))) ?_ ?_
   ·exact ⟨⟨by omega, by rw [cT hxb, List.map_append, List.map_append]; exact hR12⟩, M12.keep [true, true, true, false, false]⟩
   ·(show n - (k + 1) < n - k; omega)
  ·refine wq (aG (.bool (decide _)) rfl) rfl (wq (bQ false (.bool (decide _)) rfl rfl) rfl (wq (aG (.bool (decide _)) rfl) rfl ?_))
   refine cU 65 rfl (fun g65 => ?_) (fun g65 => ?_)
   ·refine aN rfl rfl (wq (bQ true (.bool true) rfl rfl) rfl (wq (aI (.bool true) rfl) rfl (aB (aC (aA (eG rfl rfl (wq (bC 3 bS M10 rfl rfl rfl) rfl ?_)))))))
    refine dB [.agg (List.toArray _)] [aF (aIq xs cs xb)] rfl dW M10 rfl rfl rfl rfl (dI rfl) (by decide) (fun b13 w13 M13 => (eC 2 [aF (aIq xs cs xb)] dW M13 rfl rfl rfl rfl rfl hq rfl (by simp [aF, Go.Bil.one]) (dD.ofMem 4 M13 rfl) (by omega) (fun A14 c14 e14 w14 M14 hR14 => ?_)))
    refine fP rfl rfl (aB (dE (aC (aA (wq (bU rfl rfl (by omega) (by omega)) rfl (aY rfl rfl ?_))))))
    refine aB ?_
    refine cS (k + 1, ⟨A14, q.n + 1, c14, e14⟩) (bR (bv rfl (by rw [cT hxb, List.any_append, List.any_cons, List.any_nil, Bool.or_false]; rw [g62]; simp [aYx, g65])) (bR rfl (bR rfl eZ))) (cV rfl (cV rfl (cV rfl (cV rfl (cV rfl (cV rfl jQ)))))) ?_ ?_
    ·exact ⟨⟨by omega, by rw [cT hxb, List.map_append, List.map_append]; exact hR14⟩, M14.keep [true, true, true, false, false]⟩
    ·(show n - (k + 1) < n - k; omega)
   ·refine wq (aG (.bool (decide _)) rfl) rfl (wq (bQ false (.bool (decide _)) rfl rfl) rfl (wq (aI (.bool (decide _)) rfl) rfl (aB (aC (aA (eG rfl rfl (wq (bC 3 bS M10 rfl rfl rfl) rfl ?_)))))))
    refine dB [.agg (List.toArray _)] [aF (aIq xs cs xb)] rfl dW M10 rfl rfl rfl rfl (dI rfl) (by decide) (fun b15 w15 M15 => (eC 2 [aF (aIq xs cs xb)] dW M15 rfl rfl rfl rfl rfl hq rfl (by simp [aF, Go.Bil.one]) (dD.ofMem 4 M15 rfl) (by omega) (fun A16 c16 e16 w16 M16 hR16 => ?_)))
    refine fP rfl rfl (aB (dE (aC (aA (wq (bU rfl rfl (by omega) (by omega)) rfl (aY rfl rfl ?_))))))
    refine aB ?_
    refine cS (k + 1, ⟨A16, q.n + 1, c16, e16⟩) (bR (bv rfl (by rw [cT hxb, List.any_append, List.any_cons, List.any_nil, Bool.or_false]; rw [g62]; simp [aYx, g65])) (bR rfl (bR rfl eZ))) (cV rfl (cV rfl (cV rfl (cV rfl (cV rfl (cV rfl jQ)))))) ?_ ?_
    ·exact ⟨⟨by omega, by rw [cT hxb, List.map_append, List.map_append]; exact hR16⟩, M16.keep [true, true, true, false, false]⟩
    ·(show n - (k + 1) < n - k; omega)
 ·have hkn : k = n := by omega
  rw [List.take_of_length_le (by omega)] at hq
  refine cR (cZ (cX (eQ (aC (aD (aA (eG rfl rfl ?_)))))))
  refine wq (aG (.bool _) rfl) rfl (fP rfl rfl (wq (aI (.bool _) rfl) rfl (aB (aC (aM (iH (.slice _ _ _) (.bool _) rfl rfl ?_))))))
  exact ⟨q, aAu rfl (congrArg Value.bool (by rw [List.take_of_length_le (by omega)]; rfl)), hq, hM3.keep [false, false, true]⟩
set_option maxHeartbeats 4000000 in
theorem aQy (w : World) (A : Option Addr) (n c : Nat) (xs : List Body) (R : Rd w 10 A n (xs.map aF)) (hs : cA xs) (hb : ∀ b ∈ xs, Okb b) (hn : n ≤ 1048576) (B : Option Addr) (mc c' : Nat) (cs : List Con) (R' : Rd w 5 B mc (cs.map cN)) (hcs : ∀ c ∈ cs, OkC xs c) (hmc : mc ≤ 8589934592) :
  Calls Tryz.prog 146 #[.slice A n c, .slice B mc c'] w (fun ex w' => ∃ v, ex = .returned v ∧ (fun v w' => ∃ r : Row, v = .tuple #[.slice r.A r.n r.c, .bool (gX xs cs 4).2] ∧ aW 39 10 r.A r.n r.c (((gX xs cs 4).1).map aF) r.e ∧ Mem w [] [r.e] w') v w') := by
 have hlen : xs.length = n := by simpa using R.len
 have hbd := R.bound
 have hclen : cs.length = mc := by simpa using R'.len
 have hbd' := R'.bound
 refine aH #[.tmp 4, .tmp 5] 25 Tryz.func146 rfl Tryz.results146 Tryz.ntmps146 rfl ?_
 have M0 := Mem.refl w
 refine aD (aA (fP rfl rfl (wq (aI (.bool false) rfl) rfl (aB (aC (aD (aA (wq (aI (.bool false) rfl) rfl ?_))))))))
 have M1 := M0.dummy default
 refine aB (aC (aD (aD (aA (aY rfl rfl (aB (aC (aS (dK (σ := Nat × Row) [1, 4, 5] (fun (k, q) => [(0, .slice q.A q.n q.c), (6, .bool (gX xs cs k).2), (9, .int .i64 (k : Int))]) (fun (k, q) w' => (k ≤ 4 ∧ Rd w' 10 q.A q.n ((gX xs cs k).1.map aF) ∧ (0 < k → aW 39 10 q.A q.n q.c (((gX xs cs k).1).map aF) q.e)) ∧ Mem w [] [q.e] w') (fun (k, q) => 4 - k) (0, ⟨A, n, c, (none, default)⟩) (bR rfl (bR (bv rfl rfl) (bR rfl eZ))) (⟨⟨by omega, R.mem M1, (fun h => absurd h (by omega))⟩, M1⟩) ?_)))))))))
 rintro ⟨k, q⟩ ρ2 w2 ⟨⟨hk, hRq, hq⟩, hM2⟩
 have hql : (gX xs cs k).1.length = q.n := by simpa using hRq.len
 have hsl := (jS xs cs k).len
 refine aD (aA (dA rfl rfl rfl rfl (aB (aC (aD ?_)))))
 refine aZ rfl (fun h10 => ?_) (fun h10 => ?_)
 ·refine aK (aC (aD (aS (aD (aA (eG rfl rfl (eG rfl rfl (bX bFg rfl rfl (aOx _ q.A q.n q.c (gX xs cs k).1 hRq ((jS xs cs k).sorted hs) (tU hb k) (by omega) B mc c' cs (R'.mem hM2) (fun c h => (jS xs cs k).okc (hcs c h)) hmc) ?_))))))))
  rintro v3 w3 ⟨r, rfl, hr, hM3⟩
  have M3 : Mem _ _ [_, _] _ := hM2.call0 hM3
  refine wq (aG (.tuple (List.toArray _)) rfl) rfl (wq (bE (.slice _ _ _) rfl rfl) rfl (wq (bE (.bool _) rfl rfl) rfl (fP rfl rfl (wq (aI (.bool _) rfl) rfl (aB (aC (aA ?_)))))))
  refine eG rfl rfl (wq (aG (.bool _) rfl) rfl (wq (aG (.bool _) rfl) rfl ?_))
  refine nK 19 _ rfl (fun g19 => ?_) (fun g19 => ?_)
  ·refine aN rfl rfl (wq (bQ true (.bool true) rfl rfl) rfl (fP rfl rfl (wq (aI (.bool true) rfl) rfl (aB (dE ?_)))))
   refine aC (aA (wq (bU rfl rfl (by omega) (by omega)) rfl (aY rfl rfl (aB ?_))))
   refine cS (k + 1, r) (bR rfl (bR (bv rfl (by show true = (_ || _); rw [g19, Bool.true_or])) (bR rfl eZ))) (cV rfl (cV rfl (cV rfl jQ))) ?_ ?_
   ·exact ⟨⟨by omega, hr.rd M3 (aX (i := 1) rfl), (fun _ => hr)⟩, M3.keep [false, true]⟩
   ·(show 4 - (k + 1) < 4 - k; omega)
  ·refine wq (aG (.bool _) rfl) rfl (wq (bQ false (.bool _) rfl rfl) rfl (fP rfl rfl (wq (aI (.bool _) rfl) rfl (aB (dE ?_)))))
   refine aC (aA (wq (bU rfl rfl (by omega) (by omega)) rfl (aY rfl rfl (aB ?_))))
   refine cS (k + 1, r) (bR rfl (bR (bv rfl (by show _ = (_ || _); rw [g19, Bool.false_or])) (bR rfl eZ))) (cV rfl (cV rfl (cV rfl jQ))) ?_ ?_
   ·exact ⟨⟨by omega, hr.rd M3 (aX (i := 1) rfl), (fun _ => hr)⟩, M3.keep [false, true]⟩
   ·(show 4 - (k + 1) < 4 - k; omega)
 ·have hk4 : k = 4 := by omega
  rw [hk4] at hq
  refine cR (cZ (cX (eQ (aC (aD (aA (eG rfl rfl ?_)))))))
  refine wq (aG (.bool _) rfl) rfl (fP rfl rfl (wq (aI (.bool _) rfl) rfl (aB (aC (aM (iH (.slice _ _ _) (.bool _) rfl rfl ?_))))))
  exact ⟨q, aAu rfl (congrArg Value.bool (by rw [hk4])), hq (by omega), hM2⟩
set_option maxHeartbeats 4000000 in
theorem yL (w : World) (c : Con) (a b : Body) (hc : Okn c) (ha : Okb a) (hb : Okb b) :
  Calls Tryz.prog 190 #[.agg (cN c).toArray, (.agg (aF a).toArray), (.agg (aF b).toArray)] w (fun ex w' => ∃ v, ex = .returned v ∧ (fun v w' => v = .int .i64 (pW c a b) ∧ Below w.heap.size w w') v w') := by
 have hdp := hc.d
 have hm1 := ha.m
 have hm2 := hb.m
 refine aH #[.tmp 6] 27 Tryz.func190 rfl Tryz.results190 Tryz.ntmps190 rfl ?_
 have M0 := Mem.refl w
 refine aD (aA (bG (.agg (List.toArray _)) M0 rfl rfl rfl (fun b1 w1 M1 => (bG (.agg (List.toArray _)) M1 rfl rfl rfl (fun b2 w2 M2 => (bG (.agg (List.toArray _)) M2 rfl rfl rfl (fun b3 w3 M3 => (bP rfl rfl (aB (aC (aD (aA ?_))))))))))))
 refine wq (aE 4 aTg rfl) rfl (wq (aL 0 (.int _ _) aU M3 rfl rfl rfl) rfl (wq (bZ fW Tryz.underlying2 rfl (kQ _ (by omega) (by omega))) rfl (wq (mD rfl rfl (by omega) (by omega)) rfl (bP rfl rfl (aB (aC (aD (aD (aA ?_)))))))))
 refine aY rfl rfl (dA rfl rfl rfl rfl (wq (aG (.bool (decide _)) rfl) rfl ?_))
 refine cU 14 rfl (fun g14 => ?_) (fun g14 => ?_)
 ·refine aN rfl rfl (aN rfl rfl (aN rfl rfl (aN rfl rfl (aN rfl rfl (aN rfl rfl ?_)))))
  refine aN rfl rfl (aN rfl rfl (wq (bQ true (.bool true) rfl rfl) rfl (aB (aC (cM rfl (aD (aA ?_)))))))
  refine bP rfl rfl (aB (aC (aM (cE (bW (.int _ _) rfl ?_)))))
  exact ⟨iE (by unfold pW; rw [if_pos (by omega)]), M3.below⟩
 ·refine wq (aE 4 fB rfl) rfl (wq (aL 1 (.int _ _) aU M3 rfl rfl rfl) rfl (dA rfl rfl rfl rfl (wq (aG (.bool (decide _)) rfl) rfl ?_)))
  refine cU 18 rfl (fun g18 => ?_) (fun g18 => ?_)
  ·refine wq (aE 4 fB rfl) rfl (wq (aL 2 (.int _ _) aU M3 rfl rfl rfl) rfl (dA rfl rfl rfl rfl (wq (bQ true (.bool (decide _)) rfl rfl) rfl (wq (bQ false (.bool (decide _)) rfl rfl) rfl (aB (aC ?_))))))
   refine aZ rfl (fun h23 => ?_) (fun h23 => ?_)
   ·refine aD (aA (bP rfl rfl (aB (aC (aM (cE (bW (.int _ _) rfl ?_)))))))
    exact ⟨iE (by unfold pW; rw [if_pos (by omega)]), M3.below⟩
   ·refine aK (aC (aD (aA (aY rfl rfl (wq (gE rfl rfl (by omega) (by omega)) rfl (wq (gM rfl rfl (by decide)) rfl (bP rfl rfl (aB (aC (aM ?_))))))))))
    refine bW (.int _ _) rfl ?_
    exact ⟨iE (by unfold pW; rw [if_neg (by omega)]; exact mU _), M3.below⟩
  ·refine aN rfl rfl (aN rfl rfl (aN rfl rfl (wq (bQ false (.bool false) rfl rfl) rfl (wq (bQ false (.bool false) rfl rfl) rfl (aB (aC ?_))))))
   refine cB rfl (aK (aC (aD (aA (aY rfl rfl (wq (gE rfl rfl (by omega) (by omega)) rfl (wq (gM rfl rfl (by decide)) rfl (bP rfl rfl ?_))))))))
   refine aB (aC (aM (bW (.int _ _) rfl ?_)))
   exact ⟨iE (by unfold pW; rw [if_neg (by omega)]; exact mU _), M3.below⟩
set_option maxHeartbeats 4000000 in
theorem aCz (w : World) (c : Con) (a b : Body) (hc : Okn c) (ha : Okb a) (hb : Okb b) (hi : Bool) :
  Calls Tryz.prog 163 #[.agg (cN c).toArray, (.agg (aF a).toArray), (.agg (aF b).toArray), .bool hi] w (fun ex w' => ∃ v, ex = .returned v ∧ (fun v w' => v = .int .i64 (pF c a b (if hi = true then b.mass else a.mass)) ∧ Below w.heap.size w w') v w') := by
 have hdp := hc.d
 have hm1 := ha.m
 have hm2 := hb.m
 have hm0 : 0 ≤ (if hi = true then b.mass else a.mass) ∧ (if hi = true then b.mass else a.mass) ≤ 1048576 := by split <;> omega
 have hsr := bBr (a := a) (b := b) hc hm0
 have har := aFc (a := a) (b := b) hc
 refine aH #[.tmp 8] 36 Tryz.func163 rfl Tryz.results163 Tryz.ntmps163 rfl ?_
 have M0 := Mem.refl w
 refine aD (aA (bG (.agg (List.toArray _)) M0 rfl rfl rfl (fun b1 w1 M1 => (bG (.agg (List.toArray _)) M1 rfl rfl rfl (fun b2 w2 M2 => (bG (.agg (List.toArray _)) M2 rfl rfl rfl (fun b3 w3 M3 => (bP rfl rfl (aB (aC (aD (aA ?_))))))))))))
 refine wq (aE 4 fB rfl) rfl (wq (aL 1 (.int _ _) aU M3 rfl rfl rfl) rfl (bP rfl rfl (aB (aC (aD (aD (aA (wq (aG (.bool _) rfl) rfl (aB (aC ?_))))))))))
 refine gR _ rfl (fun h14 => ?_) (fun h14 => ?_)
 ·refine aA (wq (aE 4 fB rfl) rfl (wq (aL 2 (.int _ _) aU M3 rfl rfl rfl) rfl (bP rfl rfl (aB (aC (aD (bO [(0, 1), (1, 1), (2, 1), (4, 0), (5, 0), (6, 0), (7, 1), (8, 0), (9, 0), (10, 1), (11, 0), (12, 0), (13, 0), (3, 2), (14, 2), (15, 0), (16, 0), (17, 0), (18, 0), (19, 0)] mixed rfl (by kernel_rfl) (fun w4 hb4 hh4 => ?_))))))))
  have M4 := M3.drew hb4 hh4
  refine bV rfl rfl rfl (bC 0 gI M4 rfl rfl rfl) (bV rfl rfl rfl (bC 1 bS M4 rfl rfl rfl) (bV rfl rfl rfl (bC 2 bS M4 rfl rfl rfl) (fV rfl rfl rfl (aV rfl rfl rfl (fun _ => bZ fW Tryz.underlying2 rfl (kQ _ (by omega) (by omega))) (fH 23 (.int .i64 (if hi = true then b.mass else a.mass)) (iE (by rw [h14]; rfl)) ?_)))))
  refine aV rfl rfl rfl (fun _ => aE 4 fB rfl) (bV rfl rfl rfl (aL 1 (.int _ _) aU M4 rfl rfl rfl) (aV rfl rfl rfl (fun _ => bZ fW Tryz.underlying2 rfl (kQ _ (by omega) (by omega))) (aV rfl rfl rfl (fun _ => aE 4 fB rfl) (bV rfl rfl rfl (aL 2 (.int _ _) aU M4 rfl rfl rfl) ?_))))
  refine aV rfl rfl rfl (fun _ => bZ fW Tryz.underlying2 rfl (kQ _ (by omega) (by omega))) (aV rfl rfl rfl (fun _ => bU rfl rfl (by omega) (by omega)) (aV rfl rfl rfl (fun _ => oR rfl rfl ) (dG [false, false, true, true, true] rfl (by kernel_rfl) (bX aVf rfl rfl (yL _ c a b hc ha hb) ?_))))
  rintro v5 w5 ⟨rfl, hb5⟩
  have M5 := M4.callB hb5
  refine aB (aC ⟨(eF (bK rfl (aL 2 (.int _ _) aU M5 rfl rfl rfl)) (eF (bK rfl (aL 1 (.int _ _) aU M5 rfl rfl rfl)) dH)), ?_⟩)
  refine dG [true, true] rfl (by kernel_rfl) (bX aFn rfl rfl (aEk _ (pW c a b) (if hi = true then b.mass else a.mass) (max 1 (a.mass + b.mass)) (by omega) hm0.1 (by omega) (by omega) (by omega) (by omega) (by omega)) ?_)
  rintro v6 w6 ⟨rfl, hb6⟩
  have M6 := M5.callB hb6
  refine aB (aC ⟨dH, ?_⟩)
  refine aV rfl rfl rfl (fun _ => aG (.tuple (List.toArray _)) rfl) (aV rfl rfl rfl (fun _ => bE (.int _ _) rfl rfl) (aV rfl rfl rfl (fun _ => bE (.int _ _) rfl rfl) (qN rfl rfl rfl (qN rfl rfl rfl (cD ?_)))))
  refine aC (aD (aA (aY rfl rfl (bP rfl rfl (aB (aC (aM (bW (.int _ _) rfl ?_))))))))
  exact ⟨rfl, M6.below⟩
 ·refine aK (aC (aD (bO [(0, 1), (1, 1), (2, 1), (4, 0), (5, 0), (6, 0), (7, 1), (8, 0), (9, 0), (10, 1), (11, 0), (12, 0), (13, 0), (3, 2), (14, 2), (15, 0), (16, 0), (17, 0), (18, 0), (19, 0)] mixed rfl (by kernel_rfl) (fun w7 hb7 hh7 => ?_))))
  have M7 := M3.drew hb7 hh7
  refine bV rfl rfl rfl (bC 0 gI M7 rfl rfl rfl) (bV rfl rfl rfl (bC 1 bS M7 rfl rfl rfl) (bV rfl rfl rfl (bC 2 bS M7 rfl rfl rfl) (fV rfl rfl rfl (aV rfl rfl rfl (fun _ => bZ fW Tryz.underlying2 rfl (kQ _ (by omega) (by omega))) (fH 23 (.int .i64 (if hi = true then b.mass else a.mass)) (iE (by rw [h14]; rfl)) ?_)))))
  refine aV rfl rfl rfl (fun _ => aE 4 fB rfl) (bV rfl rfl rfl (aL 1 (.int _ _) aU M7 rfl rfl rfl) (aV rfl rfl rfl (fun _ => bZ fW Tryz.underlying2 rfl (kQ _ (by omega) (by omega))) (aV rfl rfl rfl (fun _ => aE 4 fB rfl) (bV rfl rfl rfl (aL 2 (.int _ _) aU M7 rfl rfl rfl) ?_))))
  refine aV rfl rfl rfl (fun _ => bZ fW Tryz.underlying2 rfl (kQ _ (by omega) (by omega))) (aV rfl rfl rfl (fun _ => bU rfl rfl (by omega) (by omega)) (aV rfl rfl rfl (fun _ => oR rfl rfl ) (dG [false, false, true, true, true] rfl (by kernel_rfl) (bX aVf rfl rfl (yL _ c a b hc ha hb) ?_))))
  rintro v8 w8 ⟨rfl, hb8⟩
  have M8 := M7.callB hb8
  refine aB (aC ⟨(eF (bK rfl (aL 2 (.int _ _) aU M8 rfl rfl rfl)) (eF (bK rfl (aL 1 (.int _ _) aU M8 rfl rfl rfl)) dH)), ?_⟩)
  refine dG [true, true] rfl (by kernel_rfl) (bX aFn rfl rfl (aEk _ (pW c a b) (if hi = true then b.mass else a.mass) (max 1 (a.mass + b.mass)) (by omega) hm0.1 (by omega) (by omega) (by omega) (by omega) (by omega)) ?_)
  rintro v9 w9 ⟨rfl, hb9⟩
  have M9 := M8.callB hb9
  refine aB (aC ⟨dH, ?_⟩)
  refine aV rfl rfl rfl (fun _ => aG (.tuple (List.toArray _)) rfl) (aV rfl rfl rfl (fun _ => bE (.int _ _) rfl rfl) (aV rfl rfl rfl (fun _ => bE (.int _ _) rfl rfl) (qN rfl rfl rfl (qN rfl rfl rfl (cD ?_)))))
  refine aC (aD (aA (aY rfl rfl (bP rfl rfl (aB (aC (aM (bW (.int _ _) rfl ?_))))))))
  exact ⟨rfl, M9.below⟩
set_option maxHeartbeats 4000000 in
theorem zV (w : World) (bo bk : Nat) (cn : Con) (q : Row) (l : List (Int × Int)) (hq : aW 177 2 q.A q.n q.c ((l).map cL) q.e) (p : Nat) (s z : Int) (f : Int × Int) (hp : l[p]? = some f) (hs : 0 ≤ s ∧ s ≤ 1073741824) (hz : z = 1 ∨ z = -1) (hc : Okn cn) (hf : (-1152921504606846976 ≤ f.1 ∧ f.1 ≤ 1152921504606846976) ∧ -1152921504606846976 ≤ f.2 ∧ f.2 ≤ 1152921504606846976) (hO : Own [(some bo, bc [.slice q.A q.n q.c] 127), q.e, (some bk, bc (cN cn) 211)] w) :
  Calls Tryz.prog 162 #[.int .i64 (p : Int), .int .i64 s, .int .i64 z, .pointer (some ⟨bo, 0, none⟩), .pointer (some ⟨bk, 0, none⟩)] w (fun ex w' => ∃ v, ex = .returned v ∧ (fun v w' => v = .tuple #[] ∧ ∃ e : dN, aW 177 2 q.A q.n q.c ((l.set p (aHv s z cn f)).map cL) e ∧ Mem w (bH [(some bo, bc [.slice q.A q.n q.c] 127), q.e, (some bk, bc (cN cn) 211)]) [(some bo, bc [.slice q.A q.n q.c] 127), e, (some bk, bc (cN cn) 211)] w') v w') := by
 have hcx := hc.x
 have hcy := hc.y
 have hl : l.length = q.n := by simpa using hq.1
 have hpl := (List.getElem?_eq_some_iff.1 hp).1
 have r1 := qW hs hc.x
 have r2 := qW hs hc.y
 have hp2 : (l.set p (f.1 + z * (s * cn.nx / 65536), f.2))[p]? = some (f.1 + z * (s * cn.nx / 65536), f.2) := by rw [List.getElem?_set_self hpl]
 have z1 : -1073741824 ≤ z * (s * cn.nx / 65536) ∧ z * (s * cn.nx / 65536) ≤ 1073741824 := by rcases hz with rfl | rfl <;> omega
 have z2 : -1073741824 ≤ z * (s * cn.ny / 65536) ∧ z * (s * cn.ny / 65536) ≤ 1073741824 := by rcases hz with rfl | rfl <;> omega
 refine aH #[] 42 Tryz.func162 rfl Tryz.results162 Tryz.ntmps162 rfl ?_
 have M0 := hO.mem
 refine aD (bO [(0, 1), (1, 0), (2, 1), (3, 1), (4, 1), (5, 0), (6, 0), (7, 0), (8, 0), (9, 1), (10, 0), (11, 0), (12, 0), (13, 0), (14, 0), (15, 1), (16, 1), (17, 2)] mixed rfl (by kernel_rfl) (fun w1 hb1 hh1 => ?_))
 have M1 := M0.drew hb1 hh1
 refine bV rfl rfl rfl (aL 0 (.slice _ _ _) vC M1 rfl rfl rfl) (fV rfl rfl rfl (bV rfl rfl rfl (bN (p) zC rfl rfl rfl ((hq.rd M1 (aX (i := 1) rfl)).below_len (aJ cL hp)) ((hq.rd M1 (aX (i := 1) rfl)).someK (aJ cL hp))) (bV rfl rfl rfl (bJ 0 aAp (hq.rd M1 (aX (i := 1) rfl)) (Nat.lt_of_le_of_lt (Nat.zero_le _) ((hq.rd M1 (aX (i := 1) rfl)).below_len (aJ cL hp))) rfl) ?_)))
 refine bV rfl rfl rfl (eJ (o := 0) (.int _ _) lS (hq.rd M1 (aX (i := 1) rfl)) (aJ cL hp) rfl rfl) (fV rfl rfl rfl (fV rfl rfl rfl (aV rfl rfl rfl (fun _ => aE 2 oC rfl) (aV rfl rfl rfl (fun _ => aE 0 dR rfl) (bV rfl rfl rfl (aL 2 (.int _ _) aU M1 rfl rfl rfl) ?_)))))
 refine aV rfl rfl rfl (fun _ => bZ fW Tryz.underlying2 rfl (kQ _ (by omega) (by omega))) (aV rfl rfl rfl (fun _ => gE rfl rfl (by omega) (by omega)) (aV rfl rfl rfl (fun _ => gM rfl rfl (by decide)) (fH 20 (.int .i64 (s * cn.nx / 65536)) (iE (mU _)) (aV rfl rfl rfl (fun _ => gE rfl rfl (by omega) (by omega)) ?_))))
 refine aV rfl rfl rfl (fun _ => bU rfl rfl (by omega) (by omega)) (bV rfl rfl rfl (bN (p) zC rfl rfl rfl ((hq.rd M1 (aX (i := 1) rfl)).below_len (aJ cL hp)) ((hq.rd M1 (aX (i := 1) rfl)).someK (aJ cL hp))) (bV rfl rfl rfl (bJ 0 aAp (hq.rd M1 (aX (i := 1) rfl)) (Nat.lt_of_le_of_lt (Nat.zero_le _) ((hq.rd M1 (aX (i := 1) rfl)).below_len (aJ cL hp))) rfl) ?_))
 refine dG [true, true, true, true, true, true, true] rfl (by kernel_rfl) (aEj (o := 0) 1 (.int _ _) lS M1 rfl hq (aJ cL hp) rfl rfl rfl rfl rfl (fun e2 w2 hR2 M2 => ?_))
 have hQ2 := hR2.mapSet (f := cL) (x := (f.1 + z * (s * cn.nx / 65536), f.2)) rfl
 refine aB (aC ⟨dH, ?_⟩)
 refine cD (aC (bO [(0, 1), (1, 0), (2, 1), (3, 1), (4, 1), (5, 0), (6, 0), (7, 0), (8, 0), (9, 1), (10, 0), (11, 0), (12, 0), (13, 0), (14, 0), (15, 1), (16, 1), (17, 2)] mixed rfl (by kernel_rfl) (fun w3 hb3 hh3 => ?_)))
 have M3 := M2.drew hb3 hh3
 refine bV rfl rfl rfl (aL 0 (.slice _ _ _) vC M3 rfl rfl rfl) (fV rfl rfl rfl (bV rfl rfl rfl (bN (p) zC rfl rfl rfl ((hQ2.rd M3 (aX (i := 1) rfl)).below_len (aJ cL hp2)) ((hQ2.rd M3 (aX (i := 1) rfl)).someK (aJ cL hp2))) (bV rfl rfl rfl (bJ 1 zD (hQ2.rd M3 (aX (i := 1) rfl)) (Nat.lt_of_le_of_lt (Nat.zero_le _) ((hQ2.rd M3 (aX (i := 1) rfl)).below_len (aJ cL hp2))) rfl) ?_)))
 refine bV rfl rfl rfl (eJ (o := 1) (.int _ _) lS (hQ2.rd M3 (aX (i := 1) rfl)) (aJ cL hp2) rfl rfl) (fV rfl rfl rfl (fV rfl rfl rfl (aV rfl rfl rfl (fun _ => aE 2 oC rfl) (aV rfl rfl rfl (fun _ => aE 1 dJ rfl) (bV rfl rfl rfl (aL 2 (.int _ _) aU M3 rfl rfl rfl) ?_)))))
 refine aV rfl rfl rfl (fun _ => bZ fW Tryz.underlying2 rfl (kQ _ (by omega) (by omega))) (aV rfl rfl rfl (fun _ => gE rfl rfl (by omega) (by omega)) (aV rfl rfl rfl (fun _ => gM rfl rfl (by decide)) (fH 37 (.int .i64 (s * cn.ny / 65536)) (iE (mU _)) (aV rfl rfl rfl (fun _ => gE rfl rfl (by omega) (by omega)) ?_))))
 refine aV rfl rfl rfl (fun _ => bU rfl rfl (by omega) (by omega)) (bV rfl rfl rfl (bN (p) zC rfl rfl rfl ((hQ2.rd M3 (aX (i := 1) rfl)).below_len (aJ cL hp2)) ((hQ2.rd M3 (aX (i := 1) rfl)).someK (aJ cL hp2))) (bV rfl rfl rfl (bJ 1 zD (hQ2.rd M3 (aX (i := 1) rfl)) (Nat.lt_of_le_of_lt (Nat.zero_le _) ((hQ2.rd M3 (aX (i := 1) rfl)).below_len (aJ cL hp2))) rfl) ?_))
 refine dG [true, true, true, true, true, true, true] rfl (by kernel_rfl) (aEj (o := 1) 1 (.int _ _) lS M3 rfl hQ2 (aJ cL hp2) rfl rfl rfl rfl rfl (fun e4 w4 hR4 M4 => ?_))
 have hQ4 := hR4.mapSet (f := cL) (x := aHv s z cn f) rfl
 rw [List.set_set] at hQ4
 refine aB (aC ⟨dH, ?_⟩)
 refine cD (iV ?_)
 exact ⟨rfl, e4, hQ4, M4⟩
theorem Mem.swap2 {w0 w : World} {X : List Nat} {a b : dN} (M : Mem w0 X [a, b] w) : Mem w0 X [b, a] w := M.perm (List.Perm.swap b a [])
theorem aFm {xs : List Body} {cs : List Con} {n : Nat} (hs : cA xs) (hb : ∀ b ∈ xs, Okb b) (hcs : ∀ c ∈ cs, OkC xs c) (hn : cs.length = n) (hl : n ≤ 1073741824) (k : Nat) {b : Body} (h : b ∈ xs) : (-1152921504606846976 ≤ (iW xs (cs.take k) b).1 ∧ (iW xs (cs.take k) b).1 ≤ 1152921504606846976) ∧ -1152921504606846976 ≤ (iW xs (cs.take k) b).2 ∧ (iW xs (cs.take k) b).2 ≤ 1152921504606846976 := by
 have ht : (cs.take k).length ≤ cs.length := by rw [List.length_take]; omega
 have h1 := aHw (cs := cs.take k) (g := (·.nx)) hs hb (fun c h => hcs c (List.mem_of_mem_take h)) (fun c h => (hcs c (List.mem_of_mem_take h)).n.x) h
 have h2 := aHw (cs := cs.take k) (g := (·.ny)) hs hb (fun c h => hcs c (List.mem_of_mem_take h)) (fun c h => (hcs c (List.mem_of_mem_take h)).n.y) h
 unfold iW
 simp only
 omega
set_option maxHeartbeats 8000000 in
theorem aLn (w : World) (A : Option Addr) (n c : Nat) (xs : List Body) (R : Rd w 10 A n (xs.map aF)) (hs : cA xs) (hb : ∀ b ∈ xs, Okb b) (hn : n ≤ 1048576) (B : Option Addr) (mc c' : Nat) (cs : List Con) (R' : Rd w 5 B mc (cs.map cN)) (hcs : ∀ c ∈ cs, OkC xs c) (hmc : mc ≤ 1073741824) :
  Calls Tryz.prog 147 #[.slice A n c, .slice B mc c'] w (fun ex w' => ∃ v, ex = .returned v ∧ (fun v w' => ∃ r : Row, v = .slice r.A r.n r.c ∧ aW 177 2 r.A r.n r.c ((xs.map (iW xs cs)).map cL) r.e ∧ Mem w [] [r.e] w') v w') := by
 have hlen : xs.length = n := by simpa using R.len
 have hbd := R.bound
 have hclen : cs.length = mc := by simpa using R'.len
 have hbd' := R'.bound
 have hz0 : List.replicate n ([.int .i64 0, .int .i64 0] : List Value) = (xs.map (iW xs (cs.take 0))).map cL := by rw [aZg, aOo hlen ((0, 0) : Int × Int)]; exact congrArg (List.map cL) (List.map_congr_left (fun b _ => Prod.ext (aDe xs cs (·.nx) b).symm (aDe xs cs (·.ny) b).symm))
 refine aH #[.tmp 4] 67 Tryz.func147 rfl Tryz.results147 Tryz.ntmps147 rfl ?_
 have M0 := Mem.refl w
 refine aD (aA (fP rfl rfl (aB (aC (aD (aA (eG rfl rfl (wq (cP Tryz.underlying29 rfl) rfl (jP (n) [.int .i64 0, .int .i64 0] zC bBh rfl M0 rfl rfl rfl rfl rfl rfl (by omega) (by omega) (fun b1 w1 M1 => ?_))))))))))
 have hL15 := kA (T := 177) (sz := 2) (b := b1) (nn := n) (List.replicate n [.int .i64 0, .int .i64 0]) (fun l hl => by rw [List.eq_of_mem_replicate hl]; rfl) (by simp) (by omega)
 rw [hz0] at hL15
 rw [hz0] at M1
 refine aQ bBg M1 rfl rfl (fun b2 w2 M2 => (dX 1 (.slice _ _ _) vC M2 rfl rfl rfl rfl rfl rfl (fun w3 M3 => (aB (aC (aD (aD (aA ?_))))))))
 have M4 : Mem _ _ [_, _] _ := Mem.swap2 M3
 refine eG rfl rfl (wq (cP Tryz.underlying166 rfl) rfl (aY rfl rfl (aB (aC (aS (dK (σ := Nat × dN) [0, 4, 5, 16, 17] (fun (k, e) => [(18, .int .i64 (k : Int))]) (fun (k, e) w' => (k ≤ mc ∧ aW 177 2 (some ⟨b1, 0, none⟩) n n ((xs.map (iW xs (cs.take k))).map cL) e) ∧ Mem w [] [(some b2, bc [.slice (some ⟨b1, 0, none⟩) n n] 127), e] w') (fun (k, e) => mc - k) (0, (some b1, bc ((xs.map (iW xs (cs.take 0))).map cL).flatten 177)) (bR rfl eZ) (⟨⟨by omega, hL15⟩, M4⟩) ?_))))))
 rintro ⟨k, e⟩ ρ5 w5 ⟨⟨hk, hq⟩, hM5⟩
 refine aD (aA (dA rfl rfl rfl rfl (aB (aC (aD ?_)))))
 refine aZ rfl (fun h19 => ?_) (fun h19 => ?_)
 ·obtain ⟨cn, hcn⟩ := cI (xs := cs) (k := k) hclen (by omega)
  have hc := hcs cn (List.mem_of_getElem? hcn)
  obtain ⟨pa, xa, hxa, hka, hla, hba, hma⟩ := qO hs hc.l
  obtain ⟨pb, xb, hxb, hkb, hlb, hbb, hmb⟩ := qO hs hc.h
  have hoa := hb xa hma
  have hob := hb xb hmb
  have hne := hc.ne
  have ma := hoa.m
  have mb := hob.m
  have hpab : pa ≠ pb := fun g => by subst g; rw [hxa] at hxb; injection hxb with hxb; subst hxb; omega
  refine aK (aC (aD (aS (aD (aA (wq (bN (k) aDi rfl rfl rfl ((R'.mem hM5).below_len (aJ cN hcn)) ((R'.mem hM5).someK (aJ cN hcn))) rfl (wq (dC _ gI (R'.mem hM5) (aJ cN hcn) rfl) rfl (aQ uB hM5 rfl rfl (fun b6 w6 M6 => (bB 2 _ gI M6 rfl rfl rfl rfl rfl (aR rfl) rfl (fun w7 M7 => ?_)))))))))))
  refine aB (aC (aD (aA (eG rfl rfl (wq (aE 0 sZ rfl) rfl (wq (aE 0 nQ rfl) rfl (wq (aL 2 (.int _ _) cC M7 rfl rfl rfl) rfl (bX aEd rfl rfl (qY _ cn.low _ _ _ xs (R.mem M7) hs) ?_))))))))
  rintro v8 w8 ⟨rfl, hb8⟩
  have M8 := M7.callB hb8
  refine wq (aG (.tuple (List.toArray _)) rfl) rfl (wq (bE (.int _ _) rfl rfl) rfl (aT 28 (.int .i64 (pa : Int)) (iE (by rw [hla])) (wq (bE (.bool (decide _)) rfl rfl) rfl (bP rfl rfl (wq (aI (.bool (decide _)) rfl) rfl ?_)))))
  refine aB (aC (aD (aA (eG rfl rfl (wq (aE 0 sZ rfl) rfl (wq (aE 1 nU rfl) rfl (wq (aL 2 (.int _ _) cC M8 rfl rfl rfl) rfl (bX aEd rfl rfl (qY _ cn.high _ _ _ xs (R.mem M8) hs) ?_))))))))
  rintro v9 w9 ⟨rfl, hb9⟩
  have M9 := M8.callB hb9
  refine wq (aG (.tuple (List.toArray _)) rfl) rfl (wq (bE (.int _ _) rfl rfl) rfl (aT 36 (.int .i64 (pb : Int)) (iE (by rw [hlb])) (wq (bE (.bool (decide _)) rfl rfl) rfl (bP rfl rfl (wq (aI (.bool (decide _)) rfl) rfl ?_)))))
  refine aB (aC (aD (aA (wq (cO [] [.pointer _, .pointer _] rfl rfl) rfl (wq (aI (.func _ _ _) rfl) rfl (aB (aC (aD (bO [(0, 0), (1, 0), (2, 1), (3, 0), (4, 0), (5, 1), (6, 1), (7, 0), (8, 0), (9, 1), (10, 1), (11, 2), (12, 2)] mixed rfl (by kernel_rfl) (fun w10 hb10 hh10 => ?_))))))))))
  have M10 := M9.drew hb10 hh10
  refine aV rfl rfl rfl (fun _ => aG (.func _ _ _) rfl) (fV rfl rfl rfl (bV rfl rfl rfl (bC 2 gI M10 rfl rfl rfl) (oF rfl rfl rfl (fV rfl rfl rfl (bV rfl rfl rfl (bN (pa) dW rfl rfl rfl ((R.mem M10).below_len (aJ aF hxa)) ((R.mem M10).someK (aJ aF hxa))) ?_)))))
  refine bV rfl rfl rfl (dC _ bS (R.mem M10) (aJ aF hxa) rfl) (oF rfl rfl rfl (fV rfl rfl rfl (bV rfl rfl rfl (bN (pb) dW rfl rfl rfl ((R.mem M10).below_len (aJ aF hxb)) ((R.mem M10).someK (aJ aF hxb))) (bV rfl rfl rfl (dC _ bS (R.mem M10) (aJ aF hxb) rfl) ?_))))
  refine dG [true, true, true, true, true] rfl (by kernel_rfl) (bX aWq rfl rfl (aCz _ cn xa xb hc.n hoa hob false) ?_)
  rintro v11 w11 ⟨rfl, hb11⟩
  have M11 := M10.callB hb11
  refine aB (aC ⟨dH, ?_⟩)
  refine fH 50 (.int .i64 (pF cn xa xb xa.mass)) rfl (dG [] rfl (by kernel_rfl) (bX aUf rfl rfl (zV _ b2 b6 cn ⟨some ⟨b1, 0, none⟩, n, n, e⟩ (xs.map (iW xs (cs.take k))) hq pa (pF cn xa xb xa.mass) (-1) (iW xs (cs.take k) xa) (aJ _ hxa) (aEh hc.n (by omega)) (.inr rfl) hc.n (aFm hs hb hcs hclen hmc k hma) (M11.ownSeg 0 3)) ?_))
  rintro v12 w12 ⟨rfl, e1, hq1, hM12⟩
  have M12 : Mem _ _ [_, _, _] _ := M11.seg 0 3 hM12
  refine aB (aC ⟨dH, ?_⟩)
  refine cD (aC (bO [(0, 0), (1, 0), (2, 1), (3, 0), (4, 0), (5, 1), (6, 1), (7, 0), (8, 0), (9, 1), (10, 1), (11, 2), (12, 2)] mixed rfl (by kernel_rfl) (fun w13 hb13 hh13 => ?_)))
  have M13 := M12.drew hb13 hh13
  refine aV rfl rfl rfl (fun _ => aG (.func _ _ _) rfl) (fV rfl rfl rfl (bV rfl rfl rfl (bC 2 gI M13 rfl rfl rfl) (oF rfl rfl rfl (fV rfl rfl rfl (bV rfl rfl rfl (bN (pa) dW rfl rfl rfl ((R.mem M13).below_len (aJ aF hxa)) ((R.mem M13).someK (aJ aF hxa))) ?_)))))
  refine bV rfl rfl rfl (dC _ bS (R.mem M13) (aJ aF hxa) rfl) (oF rfl rfl rfl (fV rfl rfl rfl (bV rfl rfl rfl (bN (pb) dW rfl rfl rfl ((R.mem M13).below_len (aJ aF hxb)) ((R.mem M13).someK (aJ aF hxb))) (bV rfl rfl rfl (dC _ bS (R.mem M13) (aJ aF hxb) rfl) ?_))))
  refine dG [true, true, true, true, true] rfl (by kernel_rfl) (bX aWq rfl rfl (aCz _ cn xa xb hc.n hoa hob true) ?_)
  rintro v14 w14 ⟨rfl, hb14⟩
  have M14 := M13.callB hb14
  refine aB (aC ⟨dH, ?_⟩)
  refine fH 63 (.int .i64 (pF cn xa xb xb.mass)) rfl (dG [] rfl (by kernel_rfl) (bX aUf rfl rfl (zV _ b2 b6 cn ⟨some ⟨b1, 0, none⟩, n, n, e1⟩ _ hq1 pb (pF cn xa xb xb.mass) (1) (iW xs (cs.take k) xb) (sD (aJ _ hxb) hpab) (aEh hc.n (by omega)) (.inl rfl) hc.n (aFm hs hb hcs hclen hmc k hmb) (M14.ownSeg 0 3)) ?_))
  rintro v15 w15 ⟨rfl, e2, hq2, hM15⟩
  have M15 : Mem _ _ [_, _, _] _ := M14.seg 0 3 hM15
  refine aB (aC ⟨dH, ?_⟩)
  refine cD (dE (aC (aA (wq (bU rfl rfl (by omega) (by omega)) rfl (aY rfl rfl (aB ?_))))))
  refine cS (k + 1, e2) (bR rfl eZ) (cV rfl (cV rfl (cV rfl (cV rfl (cV rfl jQ))))) ?_ ?_
  ·exact ⟨⟨by omega, by rw [← aQh hcn, ← aYm hs hxa hxb hka hkb hc hba hbb]; exact hq2⟩, M15.keep [true, true, false]⟩
  ·(show mc - (k + 1) < mc - k; omega)
 ·have hkn : k = mc := by omega
  rw [List.take_of_length_le (by omega)] at hq
  refine cR (cZ (cX (eQ (aC (aD (aA (wq (aL 0 (.slice _ _ _) vC hM5 rfl rfl rfl) rfl ?_)))))))
  refine fP rfl rfl (aB (aC (aM (bW (.slice _ _ _) rfl ?_))))
  exact ⟨⟨(some ⟨b1, 0, none⟩), n, n, e⟩, rfl, hq, hM5.keep [false, true]⟩
end Go.Proofs.YtaoaknafiegfoaaGreatDoor
