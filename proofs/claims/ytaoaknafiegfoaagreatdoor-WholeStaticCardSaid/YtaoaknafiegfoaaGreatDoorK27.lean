/- Part of the proof of the laws of this seat: S20c, S20d, S20e, S20f, S20g, S20h. No conditions. -/
import Derived.Test.YtaoaknafiegfoaaGreatDoorK2
import Derived.Test.YtaoaknafiegfoaaGreatDoorK5
import Derived.Test.YtaoaknafiegfoaaGreatDoorK20
import Derived.Test.YtaoaknafiegfoaaGreatDoorK18
import Derived.Test.YtaoaknafiegfoaaGreatDoorK24
import Derived.Test.YtaoaknafiegfoaaGreatDoorK26
set_option linter.unusedVariables false
set_option linter.unusedSimpArgs false
set_option linter.unnecessarySimpa false
namespace Go.Proofs.YtaoaknafiegfoaaGreatDoor
open Go.Bil
open Go.RowKit (Below)
open Go.Proofs
set_option maxHeartbeats 8000000 in
theorem aYx (w : World) (bs : Nat) (rx ry : Row) (F G : Body → Int) (A : Option Addr) (n c : Nat) (xs : List Body) (R : Rd w 10 A n (xs.map aF)) (hs : bV xs) (hb : ∀ b ∈ xs, Okb b) (hrx : aU 2 1 rx.A rx.n rx.c ((xs.map F).map cE) rx.e) (hry : aU 2 1 ry.A ry.n ry.c ((xs.map G).map cE) ry.e) (hF : ∀ b ∈ xs, -1152921504606846976 ≤ F b ∧ F b ≤ 1152921504606846976) (hG : ∀ b ∈ xs, -1152921504606846976 ≤ G b ∧ G b ≤ 1152921504606846976) (cn : Con) (hc : OkC xs cn) (hO : Own [(some bs, bc [.slice A n c, .slice rx.A rx.n rx.c, .slice ry.A ry.n ry.c] 303), rx.e, ry.e] w) (hdA : 0 < n → ∀ q off, A = some ⟨q, off, none⟩ → q ∉ bH [(some bs, bc [.slice A n c, .slice rx.A rx.n rx.c, .slice ry.A ry.n ry.c] 303), rx.e, ry.e]) :
  Calls Tryz.prog 220 #[.pointer (some ⟨bs, 0, none⟩), .agg (cL cn).toArray] w (fun ex w' => ∃ v, ex = .returned v ∧ (fun v w' => v = .tuple #[] ∧ ∃ ex ey : dK, aU 2 1 rx.A rx.n rx.c ((xs.map (aEe xs (·.nx) cn F)).map cE) ex ∧ aU 2 1 ry.A ry.n ry.c ((xs.map (aEe xs (·.ny) cn G)).map cE) ey ∧ Mem w (bH [(some bs, bc [.slice A n c, .slice rx.A rx.n rx.c, .slice ry.A ry.n ry.c] 303), rx.e, ry.e]) [(some bs, bc [.slice A n c, .slice rx.A rx.n rx.c, .slice ry.A ry.n ry.c] 303), ex, ey] w') v w') := by
 have hlen : xs.length = n := by simpa using R.len
 have hbd := R.bound
 have hlx : xs.length = rx.n := by simpa using hrx.1
 have hly : xs.length = ry.n := by simpa using hry.1
 obtain ⟨pa, xa, hxa, hka, hla, hba, hma⟩ := rC hs hc.l
 obtain ⟨pb, xb, hxb, hkb, hlb, hbb, hmb⟩ := rC hs hc.h
 have hoa := hb xa hma
 have hob := hb xb hmb
 have hne := hc.ne
 have hpl := (List.getElem?_eq_some_iff.1 hxa).1
 have hpl2 := (List.getElem?_eq_some_iff.1 hxb).1
 have hpab : pa ≠ pb := fun g => by subst g; rw [hxa] at hxb; injection hxb with hxb; subst hxb; omega
 have ma := hoa.m
 have mb := hob.m
 have hra := xN hc.n hoa hob (m := xa.mass) (by omega)
 have hrb := xN hc.n hoa hob (m := xb.mass) (by omega)
 have gax := (nG hra.2.2 hc.n.x).2.2
 have gay := (nG hra.2.2 hc.n.y).2.2
 have gbx := (nG hrb.2.2 hc.n.x).2.2
 have gby := (nG hrb.2.2 hc.n.y).2.2
 have fa := hF xa hma
 have fb := hF xb hmb
 have ga := hG xa hma
 have gb := hG xb hmb
 have hFa : (xs.map F)[pa]? = some (F xa) := by rw [List.getElem?_map, hxa]; rfl
 have hGa : (xs.map G)[pa]? = some (G xa) := by rw [List.getElem?_map, hxa]; rfl
 have hFb : ((xs.map F).set pa (F xa - oP (mY cn xa xb) xa.mass cn.nx))[pb]? = some (F xb) := sK (by rw [List.getElem?_map, hxb]; rfl) hpab
 have hGb : ((xs.map G).set pa (G xa - oP (mY cn xa xb) xa.mass cn.ny))[pb]? = some (G xb) := sK (by rw [List.getElem?_map, hxb]; rfl) hpab
 refine aH #[] 139 Tryz.func220 rfl Tryz.results220 Tryz.ntmps220 rfl ?_
 have M0 := hO.mem
 refine aD (aA (bG (.agg (List.toArray _)) M0 rfl rfl rfl (fun b1 w1 M1 => (aB (aC (aD (bO [(0, 0), (1, 0), (2, 0), (3, 1), (4, 0), (5, 0), (6, 1), (7, 2), (8, 0), (9, 0), (10, 0), (11, 0), (12, 0)] mixed rfl (by kernel_rfl) (fun w2 hb2 hh2 => ?_))))))))
 have M2 := M1.drew hb2 hh2
 refine aY rfl rfl rfl (fun _ => aG (.pointer _) rfl) (aY rfl rfl rfl (fun _ => aN rfl) (aY rfl rfl rfl (fun _ => aE 0 oA rfl) (bW rfl rfl rfl (aM 0 (.slice _ _ _) fJ M2 rfl rfl rfl) (aY rfl rfl rfl (fun _ => aE 0 tT rfl) (aY rfl rfl rfl (fun _ => aE 0 oK rfl) ?_)))))
 refine bW rfl rfl rfl (aM 3 (.int _ _) bU M2 rfl rfl rfl) (dU [true, true] rfl (by kernel_rfl) (bZ aEp rfl rfl (qR _ cn.low _ _ _ xs (R.memY M2 hdA) hs) ?_))
 rintro v3 w3 ⟨rfl, hb3⟩
 have M3 := M2.callB hb3
 refine aB (aC ⟨dT, ?_⟩)
 refine aY rfl rfl rfl (fun _ => aG (.tuple (List.toArray _)) rfl) (aY rfl rfl rfl (fun _ => bB (.int _ _) rfl rfl) (fN 20 (.int .i64 (pa : Int)) (iE (by rw [hla])) (aY rfl rfl rfl (fun _ => bB (.bool (decide _)) rfl rfl) (qO rfl rfl rfl (aY rfl rfl rfl (fun _ => aI (.bool (decide _)) rfl) ?_)))))
 refine cB (aC (aD (bO [(0, 0), (1, 0), (2, 0), (3, 1), (4, 0), (5, 0), (6, 1), (7, 2), (8, 0), (9, 0), (10, 0), (11, 0), (12, 0)] mixed rfl (by kernel_rfl) (fun w4 hb4 hh4 => ?_))))
 have M4 := M3.drew hb4 hh4
 refine aY rfl rfl rfl (fun _ => aG (.pointer _) rfl) (aY rfl rfl rfl (fun _ => aN rfl) (aY rfl rfl rfl (fun _ => aE 0 oA rfl) (bW rfl rfl rfl (aM 0 (.slice _ _ _) fJ M4 rfl rfl rfl) (aY rfl rfl rfl (fun _ => aE 0 tT rfl) (aY rfl rfl rfl (fun _ => aE 1 oG rfl) ?_)))))
 refine bW rfl rfl rfl (aM 3 (.int _ _) bU M4 rfl rfl rfl) (dU [true, true] rfl (by kernel_rfl) (bZ aEp rfl rfl (qR _ cn.high _ _ _ xs (R.memY M4 hdA) hs) ?_))
 rintro v5 w5 ⟨rfl, hb5⟩
 have M5 := M4.callB hb5
 refine aB (aC ⟨dT, ?_⟩)
 refine aY rfl rfl rfl (fun _ => aG (.tuple (List.toArray _)) rfl) (aY rfl rfl rfl (fun _ => bB (.int _ _) rfl rfl) (fN 31 (.int .i64 (pb : Int)) (iE (by rw [hlb])) (aY rfl rfl rfl (fun _ => bB (.bool (decide _)) rfl rfl) (qO rfl rfl rfl (aY rfl rfl rfl (fun _ => aI (.bool (decide _)) rfl) ?_)))))
 refine cB (aC (aD (bO [(0, 1), (1, 0), (2, 0), (3, 0), (4, 1), (5, 0), (6, 1), (7, 1), (8, 0), (9, 0), (10, 0), (11, 1), (12, 0), (13, 1), (14, 1), (15, 2), (16, 0)] mixed rfl (by kernel_rfl) (fun w6 hb6 hh6 => ?_))))
 have M6 := M5.drew hb6 hh6
 refine bW rfl rfl rfl (bC 3 gR M6 rfl rfl rfl) (aY rfl rfl rfl (fun _ => aG (.pointer _) rfl) (aY rfl rfl rfl (fun _ => aN rfl) (aY rfl rfl rfl (fun _ => aE 0 oA rfl) (bW rfl rfl rfl (aM 0 (.slice _ _ _) fJ M6 rfl rfl rfl) (gV rfl rfl rfl ?_)))))
 refine bW rfl rfl rfl (bR (pa) dF rfl rfl rfl ((R.memY M6 hdA).below_len (aJ aF hxa)) ((R.memY M6 hdA).someK (aJ aF hxa))) (bW rfl rfl rfl (dJ _ bJ (R.memY M6 hdA) (aJ aF hxa) rfl) (aY rfl rfl rfl (fun _ => aG (.pointer _) rfl) (aY rfl rfl rfl (fun _ => aN rfl) ?_)))
 refine aY rfl rfl rfl (fun _ => aE 0 oA rfl) (bW rfl rfl rfl (aM 0 (.slice _ _ _) fJ M6 rfl rfl rfl) (gV rfl rfl rfl (bW rfl rfl rfl (bR (pb) dF rfl rfl rfl ((R.memY M6 hdA).below_len (aJ aF hxb)) ((R.memY M6 hdA).someK (aJ aF hxb))) (bW rfl rfl rfl (dJ _ bJ (R.memY M6 hdA) (aJ aF hxb) rfl) ?_))))
 refine dU [true, true, true, true, true, true, true] rfl (by kernel_rfl) (bZ bFi rfl rfl (aEj _ cn xa xb hc.n hoa hob) ?_)
 rintro v7 w7 ⟨rfl, hb7⟩
 have M7 := M6.callB hb7
 refine aB (aC ⟨dT, ?_⟩)
 refine qO rfl rfl rfl (cB (aC (aD (bO [(0, 0), (1, 0), (2, 0), (3, 0), (4, 1), (5, 0), (6, 1), (7, 1), (8, 1), (9, 0), (10, 1), (11, 2), (12, 0), (13, 0), (14, 0), (15, 0), (16, 0)] mixed rfl (by kernel_rfl) (fun w8 hb8 hh8 => ?_)))))
 have M8 := M7.drew hb8 hh8
 refine gV rfl rfl rfl (aY rfl rfl rfl (fun _ => aG (.pointer _) rfl) (aY rfl rfl rfl (fun _ => aN rfl) (aY rfl rfl rfl (fun _ => aE 0 oA rfl) (bW rfl rfl rfl (aM 0 (.slice _ _ _) fJ M8 rfl rfl rfl) (gV rfl rfl rfl ?_)))))
 refine bW rfl rfl rfl (bR (pa) dF rfl rfl rfl ((R.memY M8 hdA).below_len (aJ aF hxa)) ((R.memY M8 hdA).someK (aJ aF hxa))) (bW rfl rfl rfl (bN 4 eQ (R.memY M8 hdA) (Nat.lt_of_le_of_lt (Nat.zero_le _) ((R.memY M8 hdA).below_len (aJ aF hxa))) rfl) (bW rfl rfl rfl (eM (o := 4) (.int _ _) aW (R.memY M8 hdA) (aJ aF hxa) rfl rfl) ?_))
 refine aY rfl rfl rfl (fun _ => aE 2 nW rfl) (bW rfl rfl rfl (uL 3 _ bK M8 rfl rfl rfl rfl) (dU [true, true, true, true, true] rfl (by kernel_rfl) (bZ aXi rfl rfl (zM _ (mY cn xa xb) xa.mass cn.nx cn.ny ⟨hra.1, hra.2.1⟩ (by omega) hra.2.2 hc.n.x hc.n.y) ?_)))
 rintro v9 w9 ⟨rfl, hb9⟩
 have M9 := M8.callB hb9
 refine aB (aC ⟨dT, ?_⟩)
 refine aY rfl rfl rfl (fun _ => aG (.tuple (List.toArray _)) rfl) (aY rfl rfl rfl (fun _ => bB (.int _ _) rfl rfl) (aY rfl rfl rfl (fun _ => bB (.int _ _) rfl rfl) (qO rfl rfl rfl (qO rfl rfl rfl (cB ?_)))))
 refine aC (aD (bO [(0, 0), (1, 0), (2, 0), (3, 1), (4, 0), (5, 0), (6, 0), (7, 0), (8, 1), (9, 0), (10, 0), (11, 0), (12, 0), (13, 1), (14, 0), (15, 1), (16, 1), (17, 0), (18, 0), (19, 0), (20, 0), (21, 0), (22, 1), (23, 0), (24, 1), (25, 1), (26, 0), (27, 0), (28, 1), (29, 2), (30, 1), (31, 2)] mixed rfl (by kernel_rfl) (fun w10 hb10 hh10 => ?_)))
 have M10 := M9.drew hb10 hh10
 refine aY rfl rfl rfl (fun _ => aG (.pointer _) rfl) (aY rfl rfl rfl (fun _ => aN rfl) (aY rfl rfl rfl (fun _ => aE 1 nU rfl) (bW rfl rfl rfl (aM 0 (.slice _ _ _) lD M10 rfl rfl rfl) (gV rfl rfl rfl (aY rfl rfl rfl (fun _ => aG (.pointer _) rfl) ?_)))))
 refine aY rfl rfl rfl (fun _ => aN rfl) (aY rfl rfl rfl (fun _ => aE 2 nT rfl) (bW rfl rfl rfl (aM 0 (.slice _ _ _) lD M10 rfl rfl rfl) (gV rfl rfl rfl (aY rfl rfl rfl (fun _ => aG (.pointer _) rfl) (aY rfl rfl rfl (fun _ => aN rfl) ?_)))))
 refine aY rfl rfl rfl (fun _ => aE 1 nU rfl) (bW rfl rfl rfl (aM 0 (.slice _ _ _) lD M10 rfl rfl rfl) (gV rfl rfl rfl (bW rfl rfl rfl (bR (pa) nB rfl rfl rfl ((hrx.rd M10 (aS (i := 1) rfl)).below_len (aJ cE hFa)) ((hrx.rd M10 (aS (i := 1) rfl)).someK (aJ cE hFa))) ?_)))
 refine bW rfl rfl rfl (jI (.int _ _) mJ (hrx.rd M10 (aS (i := 1) rfl)) (aJ cE hFa) rfl) (gV rfl rfl rfl (aY rfl rfl rfl (fun _ => oE rfl rfl (by omega) (by omega)) (aY rfl rfl rfl (fun _ => aG (.pointer _) rfl) (aY rfl rfl rfl (fun _ => aN rfl) (aY rfl rfl rfl (fun _ => aE 2 nT rfl) ?_)))))
 refine bW rfl rfl rfl (aM 0 (.slice _ _ _) lD M10 rfl rfl rfl) (gV rfl rfl rfl (bW rfl rfl rfl (bR (pa) nB rfl rfl rfl ((hry.rd M10 (aS (i := 2) rfl)).below_len (aJ cE hGa)) ((hry.rd M10 (aS (i := 2) rfl)).someK (aJ cE hGa))) (bW rfl rfl rfl (jI (.int _ _) mJ (hry.rd M10 (aS (i := 2) rfl)) (aJ cE hGa) rfl) ?_)))
 refine gV rfl rfl rfl (aY rfl rfl rfl (fun _ => oE rfl rfl (by omega) (by omega)) (bW rfl rfl rfl (bR (pa) nB rfl rfl rfl ((hrx.rd M10 (aS (i := 1) rfl)).below_len (aJ cE hFa)) ((hrx.rd M10 (aS (i := 1) rfl)).someK (aJ cE hFa))) (dU [true, true, true, true, true, true, true, true, true] rfl (by kernel_rfl) ?_)))
 refine xJ 1 (.int _ _) mJ M10 rfl hrx (aJ cE hFa) rfl rfl rfl rfl (fun e11 w11 hR11 M11 => ?_)
 have hQ11 := hR11.mapSet (f := cE) (x := F xa - oP (mY cn xa xb) xa.mass cn.nx) rfl
 refine aB (aC ⟨dT, ?_⟩)
 refine bW rfl rfl rfl (bR (pa) nB rfl rfl rfl ((hry.rd M11 (aS (i := 2) rfl)).below_len (aJ cE hGa)) ((hry.rd M11 (aS (i := 2) rfl)).someK (aJ cE hGa))) (dU [true] rfl (by kernel_rfl) (xJ 2 (.int _ _) mJ M11 rfl hry (aJ cE hGa) rfl rfl rfl rfl (fun e12 w12 hR12 M12 => ?_)))
 have hQ12 := hR12.mapSet (f := cE) (x := G xa - oP (mY cn xa xb) xa.mass cn.ny) rfl
 refine aB (aC ⟨dT, ?_⟩)
 refine cB (aC (aD (bO [(0, 0), (1, 0), (2, 0), (3, 0), (4, 1), (5, 0), (6, 1), (7, 1), (8, 1), (9, 0), (10, 1), (11, 2), (12, 0), (13, 0), (14, 0), (15, 0), (16, 0)] mixed rfl (by kernel_rfl) (fun w13 hb13 hh13 => ?_))))
 have M13 := M12.drew hb13 hh13
 refine gV rfl rfl rfl (aY rfl rfl rfl (fun _ => aG (.pointer _) rfl) (aY rfl rfl rfl (fun _ => aN rfl) (aY rfl rfl rfl (fun _ => aE 0 oA rfl) (bW rfl rfl rfl (aM 0 (.slice _ _ _) fJ M13 rfl rfl rfl) (gV rfl rfl rfl ?_)))))
 refine bW rfl rfl rfl (bR (pb) dF rfl rfl rfl ((R.memY M13 hdA).below_len (aJ aF hxb)) ((R.memY M13 hdA).someK (aJ aF hxb))) (bW rfl rfl rfl (bN 4 eQ (R.memY M13 hdA) (Nat.lt_of_le_of_lt (Nat.zero_le _) ((R.memY M13 hdA).below_len (aJ aF hxb))) rfl) (bW rfl rfl rfl (eM (o := 4) (.int _ _) aW (R.memY M13 hdA) (aJ aF hxb) rfl rfl) ?_))
 refine aY rfl rfl rfl (fun _ => aE 2 nW rfl) (bW rfl rfl rfl (uL 3 _ bK M13 rfl rfl rfl rfl) (dU [true, true, true, true, true] rfl (by kernel_rfl) (bZ aXi rfl rfl (zM _ (mY cn xa xb) xb.mass cn.nx cn.ny ⟨hrb.1, hrb.2.1⟩ (by omega) hrb.2.2 hc.n.x hc.n.y) ?_)))
 rintro v14 w14 ⟨rfl, hb14⟩
 have M14 := M13.callB hb14
 refine aB (aC ⟨dT, ?_⟩)
 refine aY rfl rfl rfl (fun _ => aG (.tuple (List.toArray _)) rfl) (aY rfl rfl rfl (fun _ => bB (.int _ _) rfl rfl) (aY rfl rfl rfl (fun _ => bB (.int _ _) rfl rfl) (qO rfl rfl rfl (qO rfl rfl rfl (cB ?_)))))
 refine aC (bO [(0, 0), (1, 0), (2, 0), (3, 1), (4, 0), (5, 0), (6, 0), (7, 0), (8, 1), (9, 0), (10, 0), (11, 0), (12, 0), (13, 1), (14, 0), (15, 1), (16, 1), (17, 0), (18, 0), (19, 0), (20, 0), (21, 0), (22, 1), (23, 0), (24, 1), (25, 1), (26, 0), (27, 0), (28, 1), (29, 2), (30, 1), (31, 2)] mixed rfl (by kernel_rfl) (fun w15 hb15 hh15 => ?_))
 have M15 := M14.drew hb15 hh15
 refine aY rfl rfl rfl (fun _ => aG (.pointer _) rfl) (aY rfl rfl rfl (fun _ => aN rfl) (aY rfl rfl rfl (fun _ => aE 1 nU rfl) (bW rfl rfl rfl (aM 0 (.slice _ _ _) lD M15 rfl rfl rfl) (gV rfl rfl rfl (aY rfl rfl rfl (fun _ => aG (.pointer _) rfl) ?_)))))
 refine aY rfl rfl rfl (fun _ => aN rfl) (aY rfl rfl rfl (fun _ => aE 2 nT rfl) (bW rfl rfl rfl (aM 0 (.slice _ _ _) lD M15 rfl rfl rfl) (gV rfl rfl rfl (aY rfl rfl rfl (fun _ => aG (.pointer _) rfl) (aY rfl rfl rfl (fun _ => aN rfl) ?_)))))
 refine aY rfl rfl rfl (fun _ => aE 1 nU rfl) (bW rfl rfl rfl (aM 0 (.slice _ _ _) lD M15 rfl rfl rfl) (gV rfl rfl rfl (bW rfl rfl rfl (bR (pb) nB rfl rfl rfl ((hQ11.rd M15 (aS (i := 1) rfl)).below_len (aJ cE hFb)) ((hQ11.rd M15 (aS (i := 1) rfl)).someK (aJ cE hFb))) ?_)))
 refine bW rfl rfl rfl (jI (.int _ _) mJ (hQ11.rd M15 (aS (i := 1) rfl)) (aJ cE hFb) rfl) (gV rfl rfl rfl (aY rfl rfl rfl (fun _ => bP rfl rfl (by omega) (by omega)) (aY rfl rfl rfl (fun _ => aG (.pointer _) rfl) (aY rfl rfl rfl (fun _ => aN rfl) (aY rfl rfl rfl (fun _ => aE 2 nT rfl) ?_)))))
 refine bW rfl rfl rfl (aM 0 (.slice _ _ _) lD M15 rfl rfl rfl) (gV rfl rfl rfl (bW rfl rfl rfl (bR (pb) nB rfl rfl rfl ((hQ12.rd M15 (aS (i := 2) rfl)).below_len (aJ cE hGb)) ((hQ12.rd M15 (aS (i := 2) rfl)).someK (aJ cE hGb))) (bW rfl rfl rfl (jI (.int _ _) mJ (hQ12.rd M15 (aS (i := 2) rfl)) (aJ cE hGb) rfl) ?_)))
 refine gV rfl rfl rfl (aY rfl rfl rfl (fun _ => bP rfl rfl (by omega) (by omega)) (bW rfl rfl rfl (bR (pb) nB rfl rfl rfl ((hQ11.rd M15 (aS (i := 1) rfl)).below_len (aJ cE hFb)) ((hQ11.rd M15 (aS (i := 1) rfl)).someK (aJ cE hFb))) (dU [true, true, true, true, true, true, true, true, true] rfl (by kernel_rfl) ?_)))
 refine xJ 1 (.int _ _) mJ M15 rfl hQ11 (aJ cE hFb) rfl rfl rfl rfl (fun e16 w16 hR16 M16 => ?_)
 have hQ16 := hR16.mapSet (f := cE) (x := F xb + oP (mY cn xa xb) xb.mass cn.nx) rfl
 refine aB (aC ⟨dT, ?_⟩)
 refine bW rfl rfl rfl (bR (pb) nB rfl rfl rfl ((hQ12.rd M16 (aS (i := 2) rfl)).below_len (aJ cE hGb)) ((hQ12.rd M16 (aS (i := 2) rfl)).someK (aJ cE hGb))) (dU [true] rfl (by kernel_rfl) (xJ 2 (.int _ _) mJ M16 rfl hQ12 (aJ cE hGb) rfl rfl rfl rfl (fun e17 w17 hR17 M17 => ?_)))
 have hQ17 := hR17.mapSet (f := cE) (x := G xb + oP (mY cn xa xb) xb.mass cn.ny) rfl
 refine aB (aC ⟨dT, ?_⟩)
 refine cB (jD ?_)
 exact ⟨rfl, e16, e17, by rw [← aNu hs hxa hxb hka hkb hc hba hbb]; exact hQ16, by rw [← aNu hs hxa hxb hka hkb hc hba hbb]; exact hQ17, M17.keep [true, true, true, false]⟩
set_option maxHeartbeats 4000000 in
theorem aHh (w : World) (bs : Nat) (rx ry : Row) (A : Option Addr) (n c : Nat) (xs : List Body) (R : Rd w 10 A n (xs.map aF)) (hs : bV xs) (hb : ∀ b ∈ xs, Okb b) (B : Option Addr) (mc c' : Nat) (cs : List Con) (R' : Rd w 5 B mc (cs.map cL)) (hcs : ∀ c ∈ cs, OkC xs c) (hmc : mc ≤ 8589934592) (hrx : aU 2 1 rx.A rx.n rx.c ((xs.map (fun b => fU xs (cs.take 0) (·.nx) b)).map cE) rx.e) (hry : aU 2 1 ry.A ry.n ry.c ((xs.map (fun b => fU xs (cs.take 0) (·.ny) b)).map cE) ry.e) (hO : Own [(some bs, bc [.slice A n c, .slice rx.A rx.n rx.c, .slice ry.A ry.n ry.c] 303), rx.e, ry.e] w) (hdA : 0 < n → ∀ q off, A = some ⟨q, off, none⟩ → q ∉ bH [(some bs, bc [.slice A n c, .slice rx.A rx.n rx.c, .slice ry.A ry.n ry.c] 303), rx.e, ry.e]) (hdB : 0 < mc → ∀ q off, B = some ⟨q, off, none⟩ → q ∉ bH [(some bs, bc [.slice A n c, .slice rx.A rx.n rx.c, .slice ry.A ry.n ry.c] 303), rx.e, ry.e]) :
  Calls Tryz.prog 219 #[.slice B mc c', .func (.func 220) #[.pointer (some ⟨bs, 0, none⟩)] #[]] w (fun ex w' => ∃ v, ex = .returned v ∧ (fun v w' => v = .tuple #[] ∧ ∃ ex ey : dK, aU 2 1 rx.A rx.n rx.c ((xs.map (fun b => fU xs cs (·.nx) b)).map cE) ex ∧ aU 2 1 ry.A ry.n ry.c ((xs.map (fun b => fU xs cs (·.ny) b)).map cE) ey ∧ Mem w (bH [(some bs, bc [.slice A n c, .slice rx.A rx.n rx.c, .slice ry.A ry.n ry.c] 303), rx.e, ry.e]) [(some bs, bc [.slice A n c, .slice rx.A rx.n rx.c, .slice ry.A ry.n ry.c] 303), ex, ey] w') v w') := by
 have hlen : xs.length = n := by simpa using R.len
 have hbd := R.bound
 have hclen : cs.length = mc := by simpa using R'.len
 have hbd' := R'.bound
 refine aH #[] 16 Tryz.func219 rfl Tryz.results219 Tryz.ntmps219 rfl ?_
 have M0 := hO.mem
 refine aD (aA (dN rfl rfl (wq (cT Tryz.underlying166 rfl) rfl (aZ rfl rfl (aB (aC (aT (dI (σ := Nat × dK × dK) [1, 6, 7] (fun (k, ex, ey) => [(8, .int .i64 (k : Int))]) (fun (k, ex, ey) w' => (k ≤ mc ∧ aU 2 1 rx.A rx.n rx.c ((xs.map (fun b => fU xs (cs.take k) (·.nx) b)).map cE) ex ∧ aU 2 1 ry.A ry.n ry.c ((xs.map (fun b => fU xs (cs.take k) (·.ny) b)).map cE) ey) ∧ Mem w (bH [(some bs, bc [.slice A n c, .slice rx.A rx.n rx.c, .slice ry.A ry.n ry.c] 303), rx.e, ry.e]) [(some bs, bc [.slice A n c, .slice rx.A rx.n rx.c, .slice ry.A ry.n ry.c] 303), ex, ey] w') (fun (k, ex, ey) => mc - k) (0, rx.e, ry.e) (bM rfl eP) (⟨⟨by omega, hrx, hry⟩, M0⟩) ?_))))))))
 rintro ⟨k, ex, ey⟩ ρ1 w1 ⟨⟨hk, hqx, hqy⟩, hM1⟩
 refine aD (aA (dB rfl rfl rfl rfl (aB (aC (aD ?_)))))
 refine aX rfl (fun h9 => ?_) (fun h9 => ?_)
 ·obtain ⟨cn, hcn⟩ := cM (xs := cs) (k := k) hclen (by omega)
  have hkx : ∀ b ∈ xs, -1152921504606846976 ≤ fU xs (cs.take k) (·.nx) b ∧ fU xs (cs.take k) (·.nx) b ≤ 1152921504606846976 := fun b hbm => by have := tE (cs := cs.take k) (g := (·.nx)) hs hb (fun c h => hcs c (List.mem_of_mem_take h)) (fun c h => (hcs c (List.mem_of_mem_take h)).n.x) hbm; have := List.length_take_le k cs; omega
  have hky : ∀ b ∈ xs, -1152921504606846976 ≤ fU xs (cs.take k) (·.ny) b ∧ fU xs (cs.take k) (·.ny) b ≤ 1152921504606846976 := fun b hbm => by have := tE (cs := cs.take k) (g := (·.ny)) hs hb (fun c h => hcs c (List.mem_of_mem_take h)) (fun c h => (hcs c (List.mem_of_mem_take h)).n.y) hbm; have := List.length_take_le k cs; omega
  refine aK (aC (aD (aT (aD (aA (wq (bR (k) aDt rfl rfl rfl ((R'.memY hM1 hdB).below_len (aJ cL hcn)) ((R'.memY hM1 hdB).someK (aJ cL hcn))) rfl (wq (dJ _ gR (R'.memY hM1 hdB) (aJ cL hcn) rfl) rfl (aP tS hM1 rfl rfl (fun b2 w2 M2 => ?_)))))))))
  refine bA 3 _ gR M2 rfl rfl rfl rfl rfl (aQ rfl) rfl (fun w3 M3 => (aB (aC (aA (wq (aG (.func _ _ _) rfl) rfl (wq (bC 3 gR M3 rfl rfl rfl) rfl (bZ bEc rfl rfl (aYx _ bs ⟨rx.A, rx.n, rx.c, ex⟩ ⟨ry.A, ry.n, ry.c, ey⟩ (fun b => fU xs (cs.take k) (·.nx) b) (fun b => fU xs (cs.take k) (·.ny) b) A n c xs (R.memY M3 hdA) hs hb hqx hqy hkx hky cn (hcs cn (List.mem_of_getElem? hcn)) (M3.ownSeg 0 3) (M3.away 0 3 R hdA)) ?_)))))))
  rintro v4 w4 ⟨rfl, ex2, ey2, hqx2, hqy2, hM4⟩
  have M4 : Mem _ _ [_, _, _, _] _ := M3.seg 0 3 hM4
  refine aB (dD (aC (aA (wq (bP rfl rfl (by omega) (by omega)) rfl (aZ rfl rfl (aB ?_))))))
  refine cO (k + 1, ex2, ey2) (bM rfl eP) (cU rfl (cU rfl (cU rfl jT))) ?_ ?_
  ·exact ⟨⟨by omega, by rw [← aCq hcn]; exact hqx2, by rw [← aCq hcn]; exact hqy2⟩, M4.keep [true, true, true, false]⟩
  ·(show mc - (k + 1) < mc - k; omega)
 ·have hkn : k = mc := by omega
  rw [List.take_of_length_le (by omega)] at hqx hqy
  refine cR (dC (dA (eZ (jD ?_))))
  exact ⟨rfl, ex, ey, hqx, hqy, hM1⟩
theorem Mem.rot3 {w0 w : World} {X : List Nat} {a b c : dK} (M : Mem w0 X [a, b, c] w) : Mem w0 X [c, b, a] w := M.perm (List.reverse_perm [a, b, c]).symm
theorem Mem.rot3' {w0 w : World} {X : List Nat} {a b c : dK} (M : Mem w0 X [a, b, c] w) : Mem w0 X [c, a, b] w := M.perm (List.perm_append_comm (l₁ := [a, b]) (l₂ := [c]))
theorem bBf {xs : List Body} {cs : List Con} {n : Nat} (hs : bV xs) (hb : ∀ b ∈ xs, Okb b) (hcs : ∀ c ∈ cs, OkC xs c) (hn : cs.length = n) (hl : n ≤ 8589934592) {b : Body} (h : b ∈ xs) : (-1152921504606846976 ≤ fU xs cs (·.nx) b ∧ fU xs cs (·.nx) b ≤ 1152921504606846976) ∧ -1152921504606846976 ≤ fU xs cs (·.ny) b ∧ fU xs cs (·.ny) b ≤ 1152921504606846976 := by
 have h1 := tE (cs := cs) (g := (·.nx)) hs hb hcs (fun c h => (hcs c h).n.x) h
 have h2 := tE (cs := cs) (g := (·.ny)) hs hb hcs (fun c h => (hcs c h).n.y) h
 omega
set_option maxHeartbeats 4000000 in
theorem aTp (w : World) (A : Option Addr) (n c : Nat) (xs : List Body) (R : Rd w 10 A n (xs.map aF)) (hs : bV xs) (hb : ∀ b ∈ xs, Okb b) (hn : n ≤ 1048576) (B : Option Addr) (mc c' : Nat) (cs : List Con) (R' : Rd w 5 B mc (cs.map cL)) (hcs : ∀ c ∈ cs, OkC xs c) (hmc : mc ≤ 8589934592) :
  Calls Tryz.prog 186 #[.slice A n c, .slice B mc c'] w (fun ex w' => ∃ v, ex = .returned v ∧ (fun v w' => ∃ rx ry : Row, v = .tuple #[.slice rx.A rx.n rx.c, .slice ry.A ry.n ry.c] ∧ aU 2 1 rx.A rx.n rx.c ((xs.map (fun b => fU xs cs (·.nx) b)).map cE) rx.e ∧ aU 2 1 ry.A ry.n ry.c ((xs.map (fun b => fU xs cs (·.ny) b)).map cE) ry.e ∧ Mem w [] [rx.e, ry.e] w') v w') := by
 have hlen : xs.length = n := by simpa using R.len
 have hbd := R.bound
 have hclen : cs.length = mc := by simpa using R'.len
 have hbd' := R'.bound
 have hz0 : ∀ g : Con → Int, List.replicate n ([.int .i64 0] : List Value) = (xs.map (fun b => fU xs (cs.take 0) g b)).map cE := fun g => by rw [bAy, aOn hlen (0 : Int)]; exact congrArg (List.map cE) (List.map_congr_left (fun b _ => (aSk xs cs g b).symm))
 refine aH #[.tmp 4, .tmp 5] 28 Tryz.func186 rfl Tryz.results186 Tryz.ntmps186 rfl ?_
 have M0 := Mem.refl w
 refine aD (aA (eG rfl rfl (eG rfl rfl (aB (aC (aD (aTc [(0, 0), (1, 0), (2, 0), (4, 0), (5, 0)] 3 6 [(6, 2), (7, 0), (8, 2), (9, 0)] [(3, 2), (7, 0), (8, 2), (9, 0)] mixed rfl (by kernel_rfl) (fun w1 hb1 hh1 => ?_))))))))
 have M1 := M0.drew hb1 hh1
 refine vE rfl rfl rfl (fun _ => aG (.slice _ _ _) rfl) (vE rfl rfl rfl (fun _ => aG (.slice _ _ _) rfl) (vE rfl rfl rfl (fun _ => cT Tryz.underlying29 rfl) (vE rfl rfl rfl (fun _ => aG (.slice _ _ _) rfl) (vE rfl rfl rfl (fun _ => cT Tryz.underlying29 rfl) ?_))))
 refine aOp ?_ ?_
 ·refine dU [] rfl (by kernel_rfl) (iN (n) [.int .i64 0] nB aAg rfl M1 rfl rfl rfl rfl rfl rfl (by omega) (by omega) (fun b2 w2 M2 => ?_))
  have hL10 := jK (T := 2) (sz := 1) (b := b2) (nn := n) (List.replicate n [.int .i64 0]) (fun l hl => by rw [List.eq_of_mem_replicate hl]; rfl) (by simp) (by omega)
  rw [hz0 (·.nx)] at hL10
  rw [hz0 (·.nx)] at M2
  refine aB (aC ⟨dT, ?_⟩)
  refine dU [] rfl (by kernel_rfl) (iN (n) [.int .i64 0] nB aAg rfl M2 rfl rfl rfl rfl rfl rfl (by omega) (by omega) (fun b3 w3 M3 => ?_))
  have hL13 := jK (T := 2) (sz := 1) (b := b3) (nn := n) (List.replicate n [.int .i64 0]) (fun l hl => by rw [List.eq_of_mem_replicate hl]; rfl) (by simp) (by omega)
  rw [hz0 (·.ny)] at hL13
  rw [hz0 (·.ny)] at M3
  refine aB (aC ⟨dT, ?_⟩)
  refine aY rfl rfl rfl (fun _ => cH [(0, .slice _ _ _), (1, .slice _ _ _), (2, .slice _ _ _)] _ aDr rfl rfl) (dU [] rfl (by kernel_rfl) (bG (.agg (List.toArray _)) M3 rfl rfl rfl (fun b4 w4 M4 => ?_)))
  refine aB (aC ⟨dT, ?_⟩)
  refine aY rfl rfl rfl (fun _ => aI (.pointer _) rfl) (cB (aC (aD (aA (dN rfl rfl (wq (aG (.pointer _) rfl) rfl (wq (cN [.pointer _] [] rfl rfl) rfl ?_)))))))
  have M5 : Mem _ _ [_, _, _] _ := Mem.rot3' M4
  refine bZ aXj rfl rfl (aHh _ b4 ⟨some ⟨b2, 0, none⟩, n, n, (some b2, bc ((xs.map (fun b => fU xs (cs.take 0) (·.nx) b)).map cE).flatten 2)⟩ ⟨some ⟨b3, 0, none⟩, n, n, (some b3, bc ((xs.map (fun b => fU xs (cs.take 0) (·.ny) b)).map cE).flatten 2)⟩ A n c xs (R.mem M5) hs hb B mc c' cs (R'.mem M5) hcs hmc hL10 hL13 (M5.ownSeg 0 3) (M5.away 0 3 R (by simp)) (M5.away 0 3 R' (by simp))) ?_
  rintro v6 w6 ⟨rfl, ex, ey, hqx, hqy, hM6⟩
  have M6 : Mem _ _ [_, _, _] _ := M5.seg 0 3 hM6
  refine aB (aC (aD (bO [(0, 0), (1, 0), (2, 0), (3, 1), (4, 0), (5, 0), (6, 0), (7, 1), (8, 0), (9, 0)] mixed rfl (by kernel_rfl) (fun w7 hb7 hh7 => ?_))))
  have M7 := M6.drew hb7 hh7
  refine aY rfl rfl rfl (fun _ => aG (.pointer _) rfl) (aY rfl rfl rfl (fun _ => aN rfl) (aY rfl rfl rfl (fun _ => aE 1 nU rfl) (bW rfl rfl rfl (aM 0 (.slice _ _ _) lD M7 rfl rfl rfl) (aY rfl rfl rfl (fun _ => aG (.pointer _) rfl) (aY rfl rfl rfl (fun _ => aN rfl) ?_)))))
  refine aY rfl rfl rfl (fun _ => aE 2 nT rfl) (bW rfl rfl rfl (aM 0 (.slice _ _ _) lD M7 rfl rfl rfl) (aY rfl rfl rfl (fun _ => aI (.slice _ _ _) rfl) (aY rfl rfl rfl (fun _ => aI (.slice _ _ _) rfl) (cB (aC (aL ?_))))))
  refine fX (.slice _ _ _) (.slice _ _ _) rfl rfl ?_
  exact ⟨⟨(some ⟨b2, 0, none⟩), n, n, ex⟩, ⟨(some ⟨b3, 0, none⟩), n, n, ey⟩, rfl, hqx, hqy, M7.keep [false, true, true]⟩
 ·refine dU [] rfl (by kernel_rfl) (iN (n) [.int .i64 0] nB aAg rfl M1 rfl rfl rfl rfl rfl rfl (by omega) (by omega) (fun b8 w8 M8 => ?_))
  have hL13 := jK (T := 2) (sz := 1) (b := b8) (nn := n) (List.replicate n [.int .i64 0]) (fun l hl => by rw [List.eq_of_mem_replicate hl]; rfl) (by simp) (by omega)
  rw [hz0 (·.ny)] at hL13
  rw [hz0 (·.ny)] at M8
  refine aB (aC ⟨dT, ?_⟩)
  refine dU [] rfl (by kernel_rfl) (iN (n) [.int .i64 0] nB aAg rfl M8 rfl rfl rfl rfl rfl rfl (by omega) (by omega) (fun b9 w9 M9 => ?_))
  have hL10 := jK (T := 2) (sz := 1) (b := b9) (nn := n) (List.replicate n [.int .i64 0]) (fun l hl => by rw [List.eq_of_mem_replicate hl]; rfl) (by simp) (by omega)
  rw [hz0 (·.nx)] at hL10
  rw [hz0 (·.nx)] at M9
  refine aB (aC ⟨dT, ?_⟩)
  refine aY rfl rfl rfl (fun _ => cH [(0, .slice _ _ _), (1, .slice _ _ _), (2, .slice _ _ _)] _ aDr rfl rfl) (dU [] rfl (by kernel_rfl) (bG (.agg (List.toArray _)) M9 rfl rfl rfl (fun b10 w10 M10 => ?_)))
  refine aB (aC ⟨dT, ?_⟩)
  refine aY rfl rfl rfl (fun _ => aI (.pointer _) rfl) (cB (aC (aD (aA (dN rfl rfl (wq (aG (.pointer _) rfl) rfl (wq (cN [.pointer _] [] rfl rfl) rfl ?_)))))))
  have M11 : Mem _ _ [_, _, _] _ := Mem.rot3 M10
  refine bZ aXj rfl rfl (aHh _ b10 ⟨some ⟨b9, 0, none⟩, n, n, (some b9, bc ((xs.map (fun b => fU xs (cs.take 0) (·.nx) b)).map cE).flatten 2)⟩ ⟨some ⟨b8, 0, none⟩, n, n, (some b8, bc ((xs.map (fun b => fU xs (cs.take 0) (·.ny) b)).map cE).flatten 2)⟩ A n c xs (R.mem M11) hs hb B mc c' cs (R'.mem M11) hcs hmc hL10 hL13 (M11.ownSeg 0 3) (M11.away 0 3 R (by simp)) (M11.away 0 3 R' (by simp))) ?_
  rintro v12 w12 ⟨rfl, ex, ey, hqx, hqy, hM12⟩
  have M12 : Mem _ _ [_, _, _] _ := M11.seg 0 3 hM12
  refine aB (aC (aD (bO [(0, 0), (1, 0), (2, 0), (3, 1), (4, 0), (5, 0), (6, 0), (7, 1), (8, 0), (9, 0)] mixed rfl (by kernel_rfl) (fun w13 hb13 hh13 => ?_))))
  have M13 := M12.drew hb13 hh13
  refine aY rfl rfl rfl (fun _ => aG (.pointer _) rfl) (aY rfl rfl rfl (fun _ => aN rfl) (aY rfl rfl rfl (fun _ => aE 1 nU rfl) (bW rfl rfl rfl (aM 0 (.slice _ _ _) lD M13 rfl rfl rfl) (aY rfl rfl rfl (fun _ => aG (.pointer _) rfl) (aY rfl rfl rfl (fun _ => aN rfl) ?_)))))
  refine aY rfl rfl rfl (fun _ => aE 2 nT rfl) (bW rfl rfl rfl (aM 0 (.slice _ _ _) lD M13 rfl rfl rfl) (aY rfl rfl rfl (fun _ => aI (.slice _ _ _) rfl) (aY rfl rfl rfl (fun _ => aI (.slice _ _ _) rfl) (cB (aC (aL ?_))))))
  refine fX (.slice _ _ _) (.slice _ _ _) rfl rfl ?_
  exact ⟨⟨(some ⟨b9, 0, none⟩), n, n, ex⟩, ⟨(some ⟨b8, 0, none⟩), n, n, ey⟩, rfl, hqx, hqy, M13.keep [false, true, true]⟩
set_option maxHeartbeats 8000000 in
theorem aRm (w : World) (A : Option Addr) (n c : Nat) (xs : List Body) (R : Rd w 10 A n (xs.map aF)) (hs : bV xs) (hb : ∀ b ∈ xs, Okb b) (hn : n ≤ 1048576) (B : Option Addr) (mc c' : Nat) (cs : List Con) (R' : Rd w 5 B mc (cs.map cL)) (hcs : ∀ c ∈ cs, OkC xs c) (hmc : mc ≤ 8589934592) :
  Calls Tryz.prog 160 #[.slice A n c, .slice B mc c'] w (fun ex w' => ∃ v, ex = .returned v ∧ (fun v w' => ∃ r : Row, v = .tuple #[.slice r.A r.n r.c, .bool (aVa xs cs)] ∧ aU 39 10 r.A r.n r.c ((uQ xs cs).map aF) r.e ∧ Mem w [] [r.e] w') v w') := by
 have hlen : xs.length = n := by simpa using R.len
 have hbd := R.bound
 have hclen : cs.length = mc := by simpa using R'.len
 have hbd' := R'.bound
 refine aH #[.tmp 4, .tmp 5] 75 Tryz.func160 rfl Tryz.results160 Tryz.ntmps160 rfl ?_
 have M0 := Mem.refl w
 refine aD (aA (eG rfl rfl (wq (aI (.bool false) rfl) rfl (aB (aC (aD (aA (dN rfl rfl (dN rfl rfl ?_)))))))))
 refine bZ bDp rfl rfl (aTp _ A n c xs (R.mem M0) hs hb hn B mc c' cs (R'.mem M0) hcs hmc) ?_
 rintro v1 w1 ⟨rx, ry, rfl, hrx, hry, hM1⟩
 have M1 : Mem _ _ [_, _] _ := M0.call0 hM1
 have hrxn : xs.length = rx.n := by simpa using hrx.1
 have hryn : xs.length = ry.n := by simpa using hry.1
 refine wq (aG (.tuple (List.toArray _)) rfl) rfl (wq (bB (.slice _ _ _) rfl rfl) rfl (wq (bB (.slice _ _ _) rfl rfl) rfl (eG rfl rfl (eG rfl rfl (aB (aC (aD (aA ?_))))))))
 refine wq (aI (.bool false) rfl) rfl (aB (aC (aD (aA (eG rfl rfl ?_)))))
 have M2 := M1.dummy default
 refine aB (aC (aD (aD (aA (dN rfl rfl (wq (cT Tryz.underlying29 rfl) rfl (aZ rfl rfl (aB (aC (aT (dI (σ := Nat × Row) [4, 5, 6, 7, 22, 23] (fun (k, q) => [(8, .bool ((xs.take k).any (aZi xs cs))), (9, .slice q.A q.n q.c), (24, .int .i64 (k : Int))]) (fun (k, q) w' => (k ≤ n ∧ aU 39 10 q.A q.n q.c (((xs.take k).map (aBe xs cs)).map aF) q.e) ∧ Mem w [] [rx.e, ry.e, q.e] w') (fun (k, q) => n - k) (0, gZ) (bM (bv rfl rfl) (bM rfl (bM rfl eP))) (⟨⟨by omega, aU.nil _ _ _⟩, M2⟩) ?_)))))))))))
 rintro ⟨k, q⟩ ρ3 w3 ⟨⟨hk, hq⟩, hM3⟩
 have htl := List.length_take_le k xs
 have hqn : (xs.take k).length = q.n := by simpa using hq.1
 refine aD (aA (dB rfl rfl rfl rfl (aB (aC (aD ?_)))))
 refine aX rfl (fun h25 => ?_) (fun h25 => ?_)
 ·obtain ⟨xb, hxb⟩ := cM (xs := xs) (k := k) hlen (by omega)
  have hxm := List.mem_of_getElem? hxb
  have hsb := bBf hs hb hcs hclen hmc hxm
  have hvb := (hb xb hxm).v
  have hlx := eI (xb.vx + fU xs cs (·.nx) xb) (l := 16777216) (by decide)
  have hly := eI (xb.vy + fU xs cs (·.ny) xb) (l := 16777216) (by decide)
  refine aK (aC (aD (aT (aD (aA (aZ rfl rfl (wq (bR (k) dF rfl rfl rfl ((R.mem hM3).below_len (aJ aF hxb)) ((R.mem hM3).someK (aJ aF hxb))) rfl (wq (dJ _ bJ (R.mem hM3) (aJ aF hxb) rfl) rfl (aP gH hM3 rfl rfl (fun b4 w4 M4 => (bI rfl rfl ?_)))))))))))
  refine bA 3 _ bJ M4 rfl rfl rfl rfl rfl (aQ rfl) rfl (fun w5 M5 => (aB (aC (aD (bO [(0, 0), (1, 0), (2, 1), (3, 0), (4, 0), (5, 0), (6, 1), (7, 1), (8, 0), (9, 2), (10, 0), (11, 0), (12, 0), (13, 0), (14, 0)] mixed rfl (by kernel_rfl) (fun w6 hb6 hh6 => ?_))))))
  have M6 := M5.drew hb6 hh6
  refine aY rfl rfl rfl (fun _ => aE 8 eK rfl) (aY rfl rfl rfl (fun _ => aE 0 dS rfl) (bW rfl rfl rfl (aM 3 (.int _ _) aW M6 rfl rfl rfl) (aY rfl rfl rfl (fun _ => bY gB Tryz.underlying2 rfl (kT _ (by omega) (by omega))) (sQ rfl rfl rfl (gV rfl rfl rfl ?_)))))
  refine bW rfl rfl rfl (bR (k) nB rfl rfl rfl ((hrx.rd M6 (aS (i := 0) rfl)).below_len (aJ cE (aJ _ hxb))) ((hrx.rd M6 (aS (i := 0) rfl)).someK (aJ cE (aJ _ hxb)))) (bW rfl rfl rfl (jI (.int _ _) mJ (hrx.rd M6 (aS (i := 0) rfl)) (aJ cE (aJ _ hxb)) rfl) ?_)
  refine aY rfl rfl rfl (fun _ => bP rfl rfl (by omega) (by omega)) (dU [true, true, true] rfl (by kernel_rfl) (bZ aKk rfl rfl (aAb _ (xb.vx + fU xs cs (·.nx) xb) 16777216 ⟨by decide, by decide⟩) ?_))
  rintro v7 w7 ⟨rfl, hb7⟩
  have M7 := M6.callB hb7
  refine aB (aC ⟨dT, ?_⟩)
  refine aY rfl rfl rfl (fun _ => aG (.tuple (List.toArray _)) rfl) (aY rfl rfl rfl (fun _ => bB (.int _ _) rfl rfl) (aY rfl rfl rfl (fun _ => bB (.bool (decide _)) rfl rfl) (qO rfl rfl rfl (aY rfl rfl rfl (fun _ => aI (.bool (decide _)) rfl) (cB ?_)))))
  refine aC (aD (bO [(0, 0), (1, 0), (2, 1), (3, 0), (4, 0), (5, 0), (6, 1), (7, 1), (8, 0), (9, 2), (10, 0), (11, 0), (12, 0), (13, 0), (14, 0)] mixed rfl (by kernel_rfl) (fun w8 hb8 hh8 => ?_)))
  have M8 := M7.drew hb8 hh8
  refine aY rfl rfl rfl (fun _ => aE 8 eK rfl) (aY rfl rfl rfl (fun _ => aE 1 dG rfl) (bW rfl rfl rfl (aM 3 (.int _ _) aW M8 rfl rfl rfl) (aY rfl rfl rfl (fun _ => bY gB Tryz.underlying2 rfl (kT _ (by omega) (by omega))) (sQ rfl rfl rfl (gV rfl rfl rfl ?_)))))
  refine bW rfl rfl rfl (bR (k) nB rfl rfl rfl ((hry.rd M8 (aS (i := 1) rfl)).below_len (aJ cE (aJ _ hxb))) ((hry.rd M8 (aS (i := 1) rfl)).someK (aJ cE (aJ _ hxb)))) (bW rfl rfl rfl (jI (.int _ _) mJ (hry.rd M8 (aS (i := 1) rfl)) (aJ cE (aJ _ hxb)) rfl) ?_)
  refine aY rfl rfl rfl (fun _ => bP rfl rfl (by omega) (by omega)) (dU [true, true, true] rfl (by kernel_rfl) (bZ aKk rfl rfl (aAb _ (xb.vy + fU xs cs (·.ny) xb) 16777216 ⟨by decide, by decide⟩) ?_))
  rintro v9 w9 ⟨rfl, hb9⟩
  have M9 := M8.callB hb9
  refine aB (aC ⟨dT, ?_⟩)
  refine aY rfl rfl rfl (fun _ => aG (.tuple (List.toArray _)) rfl) (aY rfl rfl rfl (fun _ => bB (.int _ _) rfl rfl) (aY rfl rfl rfl (fun _ => bB (.bool (decide _)) rfl rfl) (qO rfl rfl rfl (aY rfl rfl rfl (fun _ => aI (.bool (decide _)) rfl) (cB ?_)))))
  refine aC (aD (aA (aZ rfl rfl (wq (bY us2 Tryz.underlying21 rfl (mP _ (by omega) (by omega))) rfl (aZ rfl rfl (wq (bY us2 Tryz.underlying21 rfl (mP _ (by omega) (by omega))) rfl (wq (cH [(0, .int _ _), (1, .int _ _)] _ fD rfl rfl) rfl ?_)))))))
  refine wq (aE 8 eK rfl) rfl (aEa 3 _ bK M9 rfl rfl rfl rfl rfl (aQ rfl) (Nat.le_of_ble_eq_true rfl) (fun w10 M10 => (aB (aC (aD (aA (wq (aG (.bool _) rfl) rfl (wq (aG (.bool _) rfl) rfl ?_))))))))
  refine mG 62 _ rfl (fun g62 => ?_) (fun g62 => ?_)
  ·refine aR rfl rfl (wq (bS true (.bool true) rfl rfl) rfl (wq (aG (.bool true) rfl) rfl (aR rfl rfl (wq (bS true (.bool true) rfl rfl) rfl (wq (aI (.bool true) rfl) rfl ?_)))))
   refine aB (aC (aA (dN rfl rfl (wq (bC 3 bJ M10 rfl rfl rfl) rfl (cS [.agg (List.toArray _)] [aF (aBe xs cs xb)] rfl dF M10 rfl rfl rfl rfl (cY rfl) (by decide) (fun b11 w11 M11 => (dL 2 [aF (aBe xs cs xb)] dF M11 rfl rfl rfl rfl rfl hq rfl (by simp [aF, Go.Bil.one]) (cZ.ofMem 4 M11 rfl) (by omega) (fun A12 c12 e12 w12 M12 hR12 => ?_))))))))
   refine eG rfl rfl (aB (dD (aC (aA (wq (bP rfl rfl (by omega) (by omega)) rfl (aZ rfl rfl ?_))))))
   refine aB ?_
   refine cO (k + 1, ⟨A12, q.n + 1, c12, e12⟩) (bM (bv rfl (by rw [cV hxb, List.any_append, List.any_cons, List.any_nil, Bool.or_false]; rw [g62, Bool.true_or])) (bM rfl (bM rfl eP))) (cU rfl (cU rfl (cU rfl (cU rfl (cU rfl (cU rfl jT)))))) ?_ ?_
   ·exact ⟨⟨by omega, by rw [cV hxb, List.map_append, List.map_append]; exact hR12⟩, M12.keep [true, true, true, false, false]⟩
   ·(show n - (k + 1) < n - k; omega)
  ·refine wq (aG (.bool (decide _)) rfl) rfl (wq (bS false (.bool (decide _)) rfl rfl) rfl (wq (aG (.bool (decide _)) rfl) rfl ?_))
   refine dE 65 rfl (fun g65 => ?_) (fun g65 => ?_)
   ·refine aR rfl rfl (wq (bS true (.bool true) rfl rfl) rfl (wq (aI (.bool true) rfl) rfl (aB (aC (aA (dN rfl rfl (wq (bC 3 bJ M10 rfl rfl rfl) rfl ?_)))))))
    refine cS [.agg (List.toArray _)] [aF (aBe xs cs xb)] rfl dF M10 rfl rfl rfl rfl (cY rfl) (by decide) (fun b13 w13 M13 => (dL 2 [aF (aBe xs cs xb)] dF M13 rfl rfl rfl rfl rfl hq rfl (by simp [aF, Go.Bil.one]) (cZ.ofMem 4 M13 rfl) (by omega) (fun A14 c14 e14 w14 M14 hR14 => ?_)))
    refine eG rfl rfl (aB (dD (aC (aA (wq (bP rfl rfl (by omega) (by omega)) rfl (aZ rfl rfl ?_))))))
    refine aB ?_
    refine cO (k + 1, ⟨A14, q.n + 1, c14, e14⟩) (bM (bv rfl (by rw [cV hxb, List.any_append, List.any_cons, List.any_nil, Bool.or_false]; rw [g62]; simp [aZi, g65])) (bM rfl (bM rfl eP))) (cU rfl (cU rfl (cU rfl (cU rfl (cU rfl (cU rfl jT)))))) ?_ ?_
    ·exact ⟨⟨by omega, by rw [cV hxb, List.map_append, List.map_append]; exact hR14⟩, M14.keep [true, true, true, false, false]⟩
    ·(show n - (k + 1) < n - k; omega)
   ·refine wq (aG (.bool (decide _)) rfl) rfl (wq (bS false (.bool (decide _)) rfl rfl) rfl (wq (aI (.bool (decide _)) rfl) rfl (aB (aC (aA (dN rfl rfl (wq (bC 3 bJ M10 rfl rfl rfl) rfl ?_)))))))
    refine cS [.agg (List.toArray _)] [aF (aBe xs cs xb)] rfl dF M10 rfl rfl rfl rfl (cY rfl) (by decide) (fun b15 w15 M15 => (dL 2 [aF (aBe xs cs xb)] dF M15 rfl rfl rfl rfl rfl hq rfl (by simp [aF, Go.Bil.one]) (cZ.ofMem 4 M15 rfl) (by omega) (fun A16 c16 e16 w16 M16 hR16 => ?_)))
    refine eG rfl rfl (aB (dD (aC (aA (wq (bP rfl rfl (by omega) (by omega)) rfl (aZ rfl rfl ?_))))))
    refine aB ?_
    refine cO (k + 1, ⟨A16, q.n + 1, c16, e16⟩) (bM (bv rfl (by rw [cV hxb, List.any_append, List.any_cons, List.any_nil, Bool.or_false]; rw [g62]; simp [aZi, g65])) (bM rfl (bM rfl eP))) (cU rfl (cU rfl (cU rfl (cU rfl (cU rfl (cU rfl jT)))))) ?_ ?_
    ·exact ⟨⟨by omega, by rw [cV hxb, List.map_append, List.map_append]; exact hR16⟩, M16.keep [true, true, true, false, false]⟩
    ·(show n - (k + 1) < n - k; omega)
 ·have hkn : k = n := by omega
  rw [List.take_of_length_le (by omega)] at hq
  refine cR (dC (dA (eZ (aC (aD (aA (dN rfl rfl ?_)))))))
  refine wq (aG (.bool _) rfl) rfl (eG rfl rfl (wq (aI (.bool _) rfl) rfl (aB (aC (aL (fX (.slice _ _ _) (.bool _) rfl rfl ?_))))))
  exact ⟨q, xE rfl (congrArg Value.bool (by rw [List.take_of_length_le (by omega)]; rfl)), hq, hM3.keep [false, false, true]⟩
set_option maxHeartbeats 4000000 in
theorem aRt (w : World) (A : Option Addr) (n c : Nat) (xs : List Body) (R : Rd w 10 A n (xs.map aF)) (hs : bV xs) (hb : ∀ b ∈ xs, Okb b) (hn : n ≤ 1048576) (B : Option Addr) (mc c' : Nat) (cs : List Con) (R' : Rd w 5 B mc (cs.map cL)) (hcs : ∀ c ∈ cs, OkC xs c) (hmc : mc ≤ 8589934592) :
  Calls Tryz.prog 146 #[.slice A n c, .slice B mc c'] w (fun ex w' => ∃ v, ex = .returned v ∧ (fun v w' => ∃ r : Row, v = .tuple #[.slice r.A r.n r.c, .bool (gM xs cs 4).2] ∧ aU 39 10 r.A r.n r.c (((gM xs cs 4).1).map aF) r.e ∧ Mem w [] [r.e] w') v w') := by
 have hlen : xs.length = n := by simpa using R.len
 have hbd := R.bound
 have hclen : cs.length = mc := by simpa using R'.len
 have hbd' := R'.bound
 refine aH #[.tmp 4, .tmp 5] 25 Tryz.func146 rfl Tryz.results146 Tryz.ntmps146 rfl ?_
 have M0 := Mem.refl w
 refine aD (aA (eG rfl rfl (wq (aI (.bool false) rfl) rfl (aB (aC (aD (aA (wq (aI (.bool false) rfl) rfl ?_))))))))
 have M1 := M0.dummy default
 refine aB (aC (aD (aD (aA (aZ rfl rfl (aB (aC (aT (dI (σ := Nat × Row) [1, 4, 5] (fun (k, q) => [(0, .slice q.A q.n q.c), (6, .bool (gM xs cs k).2), (9, .int .i64 (k : Int))]) (fun (k, q) w' => (k ≤ 4 ∧ Rd w' 10 q.A q.n ((gM xs cs k).1.map aF) ∧ (0 < k → aU 39 10 q.A q.n q.c (((gM xs cs k).1).map aF) q.e)) ∧ Mem w [] [q.e] w') (fun (k, q) => 4 - k) (0, ⟨A, n, c, (none, default)⟩) (bM rfl (bM (bv rfl rfl) (bM rfl eP))) (⟨⟨by omega, R.mem M1, (fun h => absurd h (by omega))⟩, M1⟩) ?_)))))))))
 rintro ⟨k, q⟩ ρ2 w2 ⟨⟨hk, hRq, hq⟩, hM2⟩
 have hql : (gM xs cs k).1.length = q.n := by simpa using hRq.len
 have hsl := (kF xs cs k).len
 refine aD (aA (dB rfl rfl rfl rfl (aB (aC (aD ?_)))))
 refine aX rfl (fun h10 => ?_) (fun h10 => ?_)
 ·refine aK (aC (aD (aT (aD (aA (dN rfl rfl (dN rfl rfl (bZ bFx rfl rfl (aRm _ q.A q.n q.c (gM xs cs k).1 hRq ((kF xs cs k).sorted hs) (tB hb k) (by omega) B mc c' cs (R'.mem hM2) (fun c h => (kF xs cs k).okc (hcs c h)) hmc) ?_))))))))
  rintro v3 w3 ⟨r, rfl, hr, hM3⟩
  have M3 : Mem _ _ [_, _] _ := hM2.call0 hM3
  refine wq (aG (.tuple (List.toArray _)) rfl) rfl (wq (bB (.slice _ _ _) rfl rfl) rfl (wq (bB (.bool _) rfl rfl) rfl (eG rfl rfl (wq (aI (.bool _) rfl) rfl (aB (aC (aA ?_)))))))
  refine dN rfl rfl (wq (aG (.bool _) rfl) rfl (wq (aG (.bool _) rfl) rfl ?_))
  refine mG 19 _ rfl (fun g19 => ?_) (fun g19 => ?_)
  ·refine aR rfl rfl (wq (bS true (.bool true) rfl rfl) rfl (eG rfl rfl (wq (aI (.bool true) rfl) rfl (aB (dD ?_)))))
   refine aC (aA (wq (bP rfl rfl (by omega) (by omega)) rfl (aZ rfl rfl (aB ?_))))
   refine cO (k + 1, r) (bM rfl (bM (bv rfl (by show true = (_ || _); rw [g19, Bool.true_or])) (bM rfl eP))) (cU rfl (cU rfl (cU rfl jT))) ?_ ?_
   ·exact ⟨⟨by omega, hr.rd M3 (aS (i := 1) rfl), (fun _ => hr)⟩, M3.keep [false, true]⟩
   ·(show 4 - (k + 1) < 4 - k; omega)
  ·refine wq (aG (.bool _) rfl) rfl (wq (bS false (.bool _) rfl rfl) rfl (eG rfl rfl (wq (aI (.bool _) rfl) rfl (aB (dD ?_)))))
   refine aC (aA (wq (bP rfl rfl (by omega) (by omega)) rfl (aZ rfl rfl (aB ?_))))
   refine cO (k + 1, r) (bM rfl (bM (bv rfl (by show _ = (_ || _); rw [g19, Bool.false_or])) (bM rfl eP))) (cU rfl (cU rfl (cU rfl jT))) ?_ ?_
   ·exact ⟨⟨by omega, hr.rd M3 (aS (i := 1) rfl), (fun _ => hr)⟩, M3.keep [false, true]⟩
   ·(show 4 - (k + 1) < 4 - k; omega)
 ·have hk4 : k = 4 := by omega
  rw [hk4] at hq
  refine cR (dC (dA (eZ (aC (aD (aA (dN rfl rfl ?_)))))))
  refine wq (aG (.bool _) rfl) rfl (eG rfl rfl (wq (aI (.bool _) rfl) rfl (aB (aC (aL (fX (.slice _ _ _) (.bool _) rfl rfl ?_))))))
  exact ⟨q, xE rfl (congrArg Value.bool (by rw [hk4])), hq (by omega), hM2⟩
set_option maxHeartbeats 4000000 in
theorem yJ (w : World) (c : Con) (a b : Body) (hc : Okn c) (ha : Okb a) (hb : Okb b) :
  Calls Tryz.prog 190 #[.agg (cL c).toArray, (.agg (aF a).toArray), (.agg (aF b).toArray)] w (fun ex w' => ∃ v, ex = .returned v ∧ (fun v w' => v = .int .i64 (pP c a b) ∧ Below w.heap.size w w') v w') := by
 have hdp := hc.d
 have hm1 := ha.m
 have hm2 := hb.m
 refine aH #[.tmp 6] 27 Tryz.func190 rfl Tryz.results190 Tryz.ntmps190 rfl ?_
 have M0 := Mem.refl w
 refine aD (aA (bG (.agg (List.toArray _)) M0 rfl rfl rfl (fun b1 w1 M1 => (bG (.agg (List.toArray _)) M1 rfl rfl rfl (fun b2 w2 M2 => (bG (.agg (List.toArray _)) M2 rfl rfl rfl (fun b3 w3 M3 => (bI rfl rfl (aB (aC (aD (aA ?_))))))))))))
 refine wq (aE 4 aWp rfl) rfl (wq (aM 0 (.int _ _) aW M3 rfl rfl rfl) rfl (wq (bY gB Tryz.underlying2 rfl (kT _ (by omega) (by omega))) rfl (wq (oE rfl rfl (by omega) (by omega)) rfl (bI rfl rfl (aB (aC (aD (aD (aA ?_)))))))))
 refine aZ rfl rfl (dB rfl rfl rfl rfl (wq (aG (.bool (decide _)) rfl) rfl ?_))
 refine dE 14 rfl (fun g14 => ?_) (fun g14 => ?_)
 ·refine aR rfl rfl (aR rfl rfl (aR rfl rfl (aR rfl rfl (aR rfl rfl (aR rfl rfl ?_)))))
  refine aR rfl rfl (aR rfl rfl (wq (bS true (.bool true) rfl rfl) rfl (aB (aC (cQ rfl (aD (aA ?_)))))))
  refine bI rfl rfl (aB (aC (aL (cD (cA (.int _ _) rfl ?_)))))
  exact ⟨iE (by unfold pP; rw [if_pos (by omega)]), M3.below⟩
 ·refine wq (aE 4 eQ rfl) rfl (wq (aM 1 (.int _ _) aW M3 rfl rfl rfl) rfl (dB rfl rfl rfl rfl (wq (aG (.bool (decide _)) rfl) rfl ?_)))
  refine dE 18 rfl (fun g18 => ?_) (fun g18 => ?_)
  ·refine wq (aE 4 eQ rfl) rfl (wq (aM 2 (.int _ _) aW M3 rfl rfl rfl) rfl (dB rfl rfl rfl rfl (wq (bS true (.bool (decide _)) rfl rfl) rfl (wq (bS false (.bool (decide _)) rfl rfl) rfl (aB (aC ?_))))))
   refine aX rfl (fun h23 => ?_) (fun h23 => ?_)
   ·refine aD (aA (bI rfl rfl (aB (aC (aL (cD (cA (.int _ _) rfl ?_)))))))
    exact ⟨iE (by unfold pP; rw [if_pos (by omega)]), M3.below⟩
   ·refine aK (aC (aD (aA (aZ rfl rfl (wq (gJ rfl rfl (by omega) (by omega)) rfl (wq (gT rfl rfl (by decide)) rfl (bI rfl rfl (aB (aC (aL ?_))))))))))
    refine cA (.int _ _) rfl ?_
    exact ⟨iE (by unfold pP; rw [if_neg (by omega)]; exact nF _), M3.below⟩
  ·refine aR rfl rfl (aR rfl rfl (aR rfl rfl (wq (bS false (.bool false) rfl rfl) rfl (wq (bS false (.bool false) rfl rfl) rfl (aB (aC ?_))))))
   refine cC rfl (aK (aC (aD (aA (aZ rfl rfl (wq (gJ rfl rfl (by omega) (by omega)) rfl (wq (gT rfl rfl (by decide)) rfl (bI rfl rfl ?_))))))))
   refine aB (aC (aL (cA (.int _ _) rfl ?_)))
   exact ⟨iE (by unfold pP; rw [if_neg (by omega)]; exact nF _), M3.below⟩
set_option maxHeartbeats 4000000 in
theorem aCf (w : World) (c : Con) (a b : Body) (hc : Okn c) (ha : Okb a) (hb : Okb b) (hi : Bool) :
  Calls Tryz.prog 163 #[.agg (cL c).toArray, (.agg (aF a).toArray), (.agg (aF b).toArray), .bool hi] w (fun ex w' => ∃ v, ex = .returned v ∧ (fun v w' => v = .int .i64 (oC c a b (if hi = true then b.mass else a.mass)) ∧ Below w.heap.size w w') v w') := by
 have hdp := hc.d
 have hm1 := ha.m
 have hm2 := hb.m
 have hm0 : 0 ≤ (if hi = true then b.mass else a.mass) ∧ (if hi = true then b.mass else a.mass) ≤ 1048576 := by split <;> omega
 have hsr := bAu (a := a) (b := b) hc hm0
 have har := aEl (a := a) (b := b) hc
 refine aH #[.tmp 8] 36 Tryz.func163 rfl Tryz.results163 Tryz.ntmps163 rfl ?_
 have M0 := Mem.refl w
 refine aD (aA (bG (.agg (List.toArray _)) M0 rfl rfl rfl (fun b1 w1 M1 => (bG (.agg (List.toArray _)) M1 rfl rfl rfl (fun b2 w2 M2 => (bG (.agg (List.toArray _)) M2 rfl rfl rfl (fun b3 w3 M3 => (bI rfl rfl (aB (aC (aD (aA ?_))))))))))))
 refine wq (aE 4 eQ rfl) rfl (wq (aM 1 (.int _ _) aW M3 rfl rfl rfl) rfl (bI rfl rfl (aB (aC (aD (aD (aA (wq (aG (.bool _) rfl) rfl (aB (aC ?_))))))))))
 refine iI _ rfl (fun h14 => ?_) (fun h14 => ?_)
 ·refine aA (wq (aE 4 eQ rfl) rfl (wq (aM 2 (.int _ _) aW M3 rfl rfl rfl) rfl (bI rfl rfl (aB (aC (aD (bO [(0, 1), (1, 1), (2, 1), (4, 0), (5, 0), (6, 0), (7, 1), (8, 0), (9, 0), (10, 1), (11, 0), (12, 0), (13, 0), (3, 2), (14, 2), (15, 0), (16, 0), (17, 0), (18, 0), (19, 0)] mixed rfl (by kernel_rfl) (fun w4 hb4 hh4 => ?_))))))))
  have M4 := M3.drew hb4 hh4
  refine bW rfl rfl rfl (bC 0 gR M4 rfl rfl rfl) (bW rfl rfl rfl (bC 1 bJ M4 rfl rfl rfl) (bW rfl rfl rfl (bC 2 bJ M4 rfl rfl rfl) (gV rfl rfl rfl (aY rfl rfl rfl (fun _ => bY gB Tryz.underlying2 rfl (kT _ (by omega) (by omega))) (fN 23 (.int .i64 (if hi = true then b.mass else a.mass)) (iE (by rw [h14]; rfl)) ?_)))))
  refine aY rfl rfl rfl (fun _ => aE 4 eQ rfl) (bW rfl rfl rfl (aM 1 (.int _ _) aW M4 rfl rfl rfl) (aY rfl rfl rfl (fun _ => bY gB Tryz.underlying2 rfl (kT _ (by omega) (by omega))) (aY rfl rfl rfl (fun _ => aE 4 eQ rfl) (bW rfl rfl rfl (aM 2 (.int _ _) aW M4 rfl rfl rfl) ?_))))
  refine aY rfl rfl rfl (fun _ => bY gB Tryz.underlying2 rfl (kT _ (by omega) (by omega))) (aY rfl rfl rfl (fun _ => bP rfl rfl (by omega) (by omega)) (aY rfl rfl rfl (fun _ => nJ rfl rfl ) (dU [false, false, true, true, true] rfl (by kernel_rfl) (bZ aTf rfl rfl (yJ _ c a b hc ha hb) ?_))))
  rintro v5 w5 ⟨rfl, hb5⟩
  have M5 := M4.callB hb5
  refine aB (aC ⟨(eL (bQ rfl (aM 2 (.int _ _) aW M5 rfl rfl rfl)) (eL (bQ rfl (aM 1 (.int _ _) aW M5 rfl rfl rfl)) dT)), ?_⟩)
  refine dU [true, true] rfl (by kernel_rfl) (bZ aEs rfl rfl (aEg _ (pP c a b) (if hi = true then b.mass else a.mass) (max 1 (a.mass + b.mass)) (by omega) hm0.1 (by omega) (by omega) (by omega) (by omega) (by omega)) ?_)
  rintro v6 w6 ⟨rfl, hb6⟩
  have M6 := M5.callB hb6
  refine aB (aC ⟨dT, ?_⟩)
  refine aY rfl rfl rfl (fun _ => aG (.tuple (List.toArray _)) rfl) (aY rfl rfl rfl (fun _ => bB (.int _ _) rfl rfl) (aY rfl rfl rfl (fun _ => bB (.int _ _) rfl rfl) (qO rfl rfl rfl (qO rfl rfl rfl (cB ?_)))))
  refine aC (aD (aA (aZ rfl rfl (bI rfl rfl (aB (aC (aL (cA (.int _ _) rfl ?_))))))))
  exact ⟨rfl, M6.below⟩
 ·refine aK (aC (aD (bO [(0, 1), (1, 1), (2, 1), (4, 0), (5, 0), (6, 0), (7, 1), (8, 0), (9, 0), (10, 1), (11, 0), (12, 0), (13, 0), (3, 2), (14, 2), (15, 0), (16, 0), (17, 0), (18, 0), (19, 0)] mixed rfl (by kernel_rfl) (fun w7 hb7 hh7 => ?_))))
  have M7 := M3.drew hb7 hh7
  refine bW rfl rfl rfl (bC 0 gR M7 rfl rfl rfl) (bW rfl rfl rfl (bC 1 bJ M7 rfl rfl rfl) (bW rfl rfl rfl (bC 2 bJ M7 rfl rfl rfl) (gV rfl rfl rfl (aY rfl rfl rfl (fun _ => bY gB Tryz.underlying2 rfl (kT _ (by omega) (by omega))) (fN 23 (.int .i64 (if hi = true then b.mass else a.mass)) (iE (by rw [h14]; rfl)) ?_)))))
  refine aY rfl rfl rfl (fun _ => aE 4 eQ rfl) (bW rfl rfl rfl (aM 1 (.int _ _) aW M7 rfl rfl rfl) (aY rfl rfl rfl (fun _ => bY gB Tryz.underlying2 rfl (kT _ (by omega) (by omega))) (aY rfl rfl rfl (fun _ => aE 4 eQ rfl) (bW rfl rfl rfl (aM 2 (.int _ _) aW M7 rfl rfl rfl) ?_))))
  refine aY rfl rfl rfl (fun _ => bY gB Tryz.underlying2 rfl (kT _ (by omega) (by omega))) (aY rfl rfl rfl (fun _ => bP rfl rfl (by omega) (by omega)) (aY rfl rfl rfl (fun _ => nJ rfl rfl ) (dU [false, false, true, true, true] rfl (by kernel_rfl) (bZ aTf rfl rfl (yJ _ c a b hc ha hb) ?_))))
  rintro v8 w8 ⟨rfl, hb8⟩
  have M8 := M7.callB hb8
  refine aB (aC ⟨(eL (bQ rfl (aM 2 (.int _ _) aW M8 rfl rfl rfl)) (eL (bQ rfl (aM 1 (.int _ _) aW M8 rfl rfl rfl)) dT)), ?_⟩)
  refine dU [true, true] rfl (by kernel_rfl) (bZ aEs rfl rfl (aEg _ (pP c a b) (if hi = true then b.mass else a.mass) (max 1 (a.mass + b.mass)) (by omega) hm0.1 (by omega) (by omega) (by omega) (by omega) (by omega)) ?_)
  rintro v9 w9 ⟨rfl, hb9⟩
  have M9 := M8.callB hb9
  refine aB (aC ⟨dT, ?_⟩)
  refine aY rfl rfl rfl (fun _ => aG (.tuple (List.toArray _)) rfl) (aY rfl rfl rfl (fun _ => bB (.int _ _) rfl rfl) (aY rfl rfl rfl (fun _ => bB (.int _ _) rfl rfl) (qO rfl rfl rfl (qO rfl rfl rfl (cB ?_)))))
  refine aC (aD (aA (aZ rfl rfl (bI rfl rfl (aB (aC (aL (cA (.int _ _) rfl ?_))))))))
  exact ⟨rfl, M9.below⟩
set_option maxHeartbeats 4000000 in
theorem aAh (w : World) (bo bk : Nat) (cn : Con) (q : Row) (l : List (Int × Int)) (hq : aU 177 2 q.A q.n q.c ((l).map cJ) q.e) (p : Nat) (s z : Int) (f : Int × Int) (hp : l[p]? = some f) (hs : 0 ≤ s ∧ s ≤ 1073741824) (hz : z = 1 ∨ z = -1) (hc : Okn cn) (hf : (-1152921504606846976 ≤ f.1 ∧ f.1 ≤ 1152921504606846976) ∧ -1152921504606846976 ≤ f.2 ∧ f.2 ≤ 1152921504606846976) (hO : Own [(some bo, bc [.slice q.A q.n q.c] 127), q.e, (some bk, bc (cL cn) 211)] w) :
  Calls Tryz.prog 162 #[.int .i64 (p : Int), .int .i64 s, .int .i64 z, .pointer (some ⟨bo, 0, none⟩), .pointer (some ⟨bk, 0, none⟩)] w (fun ex w' => ∃ v, ex = .returned v ∧ (fun v w' => v = .tuple #[] ∧ ∃ e : dK, aU 177 2 q.A q.n q.c ((l.set p (aHf s z cn f)).map cJ) e ∧ Mem w (bH [(some bo, bc [.slice q.A q.n q.c] 127), q.e, (some bk, bc (cL cn) 211)]) [(some bo, bc [.slice q.A q.n q.c] 127), e, (some bk, bc (cL cn) 211)] w') v w') := by
 have hcx := hc.x
 have hcy := hc.y
 have hl : l.length = q.n := by simpa using hq.1
 have hpl := (List.getElem?_eq_some_iff.1 hp).1
 have r1 := rB hs hc.x
 have r2 := rB hs hc.y
 have hp2 : (l.set p (f.1 + z * (s * cn.nx / 65536), f.2))[p]? = some (f.1 + z * (s * cn.nx / 65536), f.2) := by rw [List.getElem?_set_self hpl]
 have z1 : -1073741824 ≤ z * (s * cn.nx / 65536) ∧ z * (s * cn.nx / 65536) ≤ 1073741824 := by rcases hz with rfl | rfl <;> omega
 have z2 : -1073741824 ≤ z * (s * cn.ny / 65536) ∧ z * (s * cn.ny / 65536) ≤ 1073741824 := by rcases hz with rfl | rfl <;> omega
 refine aH #[] 42 Tryz.func162 rfl Tryz.results162 Tryz.ntmps162 rfl ?_
 have M0 := hO.mem
 refine aD (bO [(0, 1), (1, 0), (2, 1), (3, 1), (4, 1), (5, 0), (6, 0), (7, 0), (8, 0), (9, 1), (10, 0), (11, 0), (12, 0), (13, 0), (14, 0), (15, 1), (16, 1), (17, 2)] mixed rfl (by kernel_rfl) (fun w1 hb1 hh1 => ?_))
 have M1 := M0.drew hb1 hh1
 refine bW rfl rfl rfl (aM 0 (.slice _ _ _) vF M1 rfl rfl rfl) (gV rfl rfl rfl (bW rfl rfl rfl (bR (p) wS rfl rfl rfl ((hq.rd M1 (aS (i := 1) rfl)).below_len (aJ cJ hp)) ((hq.rd M1 (aS (i := 1) rfl)).someK (aJ cJ hp))) (bW rfl rfl rfl (bN 0 aAz (hq.rd M1 (aS (i := 1) rfl)) (Nat.lt_of_le_of_lt (Nat.zero_le _) ((hq.rd M1 (aS (i := 1) rfl)).below_len (aJ cJ hp))) rfl) ?_)))
 refine bW rfl rfl rfl (eM (o := 0) (.int _ _) mJ (hq.rd M1 (aS (i := 1) rfl)) (aJ cJ hp) rfl rfl) (gV rfl rfl rfl (gV rfl rfl rfl (aY rfl rfl rfl (fun _ => aE 2 nW rfl) (aY rfl rfl rfl (fun _ => aE 0 dS rfl) (bW rfl rfl rfl (aM 2 (.int _ _) aW M1 rfl rfl rfl) ?_)))))
 refine aY rfl rfl rfl (fun _ => bY gB Tryz.underlying2 rfl (kT _ (by omega) (by omega))) (aY rfl rfl rfl (fun _ => gJ rfl rfl (by omega) (by omega)) (aY rfl rfl rfl (fun _ => gT rfl rfl (by decide)) (fN 20 (.int .i64 (s * cn.nx / 65536)) (iE (nF _)) (aY rfl rfl rfl (fun _ => gJ rfl rfl (by omega) (by omega)) ?_))))
 refine aY rfl rfl rfl (fun _ => bP rfl rfl (by omega) (by omega)) (bW rfl rfl rfl (bR (p) wS rfl rfl rfl ((hq.rd M1 (aS (i := 1) rfl)).below_len (aJ cJ hp)) ((hq.rd M1 (aS (i := 1) rfl)).someK (aJ cJ hp))) (bW rfl rfl rfl (bN 0 aAz (hq.rd M1 (aS (i := 1) rfl)) (Nat.lt_of_le_of_lt (Nat.zero_le _) ((hq.rd M1 (aS (i := 1) rfl)).below_len (aJ cJ hp))) rfl) ?_))
 refine dU [true, true, true, true, true, true, true] rfl (by kernel_rfl) (aFu (o := 0) 1 (.int _ _) mJ M1 rfl hq (aJ cJ hp) rfl rfl rfl rfl rfl (fun e2 w2 hR2 M2 => ?_))
 have hQ2 := hR2.mapSet (f := cJ) (x := (f.1 + z * (s * cn.nx / 65536), f.2)) rfl
 refine aB (aC ⟨dT, ?_⟩)
 refine cB (aC (bO [(0, 1), (1, 0), (2, 1), (3, 1), (4, 1), (5, 0), (6, 0), (7, 0), (8, 0), (9, 1), (10, 0), (11, 0), (12, 0), (13, 0), (14, 0), (15, 1), (16, 1), (17, 2)] mixed rfl (by kernel_rfl) (fun w3 hb3 hh3 => ?_)))
 have M3 := M2.drew hb3 hh3
 refine bW rfl rfl rfl (aM 0 (.slice _ _ _) vF M3 rfl rfl rfl) (gV rfl rfl rfl (bW rfl rfl rfl (bR (p) wS rfl rfl rfl ((hQ2.rd M3 (aS (i := 1) rfl)).below_len (aJ cJ hp2)) ((hQ2.rd M3 (aS (i := 1) rfl)).someK (aJ cJ hp2))) (bW rfl rfl rfl (bN 1 yA (hQ2.rd M3 (aS (i := 1) rfl)) (Nat.lt_of_le_of_lt (Nat.zero_le _) ((hQ2.rd M3 (aS (i := 1) rfl)).below_len (aJ cJ hp2))) rfl) ?_)))
 refine bW rfl rfl rfl (eM (o := 1) (.int _ _) mJ (hQ2.rd M3 (aS (i := 1) rfl)) (aJ cJ hp2) rfl rfl) (gV rfl rfl rfl (gV rfl rfl rfl (aY rfl rfl rfl (fun _ => aE 2 nW rfl) (aY rfl rfl rfl (fun _ => aE 1 dG rfl) (bW rfl rfl rfl (aM 2 (.int _ _) aW M3 rfl rfl rfl) ?_)))))
 refine aY rfl rfl rfl (fun _ => bY gB Tryz.underlying2 rfl (kT _ (by omega) (by omega))) (aY rfl rfl rfl (fun _ => gJ rfl rfl (by omega) (by omega)) (aY rfl rfl rfl (fun _ => gT rfl rfl (by decide)) (fN 37 (.int .i64 (s * cn.ny / 65536)) (iE (nF _)) (aY rfl rfl rfl (fun _ => gJ rfl rfl (by omega) (by omega)) ?_))))
 refine aY rfl rfl rfl (fun _ => bP rfl rfl (by omega) (by omega)) (bW rfl rfl rfl (bR (p) wS rfl rfl rfl ((hQ2.rd M3 (aS (i := 1) rfl)).below_len (aJ cJ hp2)) ((hQ2.rd M3 (aS (i := 1) rfl)).someK (aJ cJ hp2))) (bW rfl rfl rfl (bN 1 yA (hQ2.rd M3 (aS (i := 1) rfl)) (Nat.lt_of_le_of_lt (Nat.zero_le _) ((hQ2.rd M3 (aS (i := 1) rfl)).below_len (aJ cJ hp2))) rfl) ?_))
 refine dU [true, true, true, true, true, true, true] rfl (by kernel_rfl) (aFu (o := 1) 1 (.int _ _) mJ M3 rfl hQ2 (aJ cJ hp2) rfl rfl rfl rfl rfl (fun e4 w4 hR4 M4 => ?_))
 have hQ4 := hR4.mapSet (f := cJ) (x := aHf s z cn f) rfl
 rw [List.set_set] at hQ4
 refine aB (aC ⟨dT, ?_⟩)
 refine cB (jD ?_)
 exact ⟨rfl, e4, hQ4, M4⟩
theorem Mem.swap2 {w0 w : World} {X : List Nat} {a b : dK} (M : Mem w0 X [a, b] w) : Mem w0 X [b, a] w := M.perm (List.Perm.swap b a [])
theorem aEf {xs : List Body} {cs : List Con} {n : Nat} (hs : bV xs) (hb : ∀ b ∈ xs, Okb b) (hcs : ∀ c ∈ cs, OkC xs c) (hn : cs.length = n) (hl : n ≤ 1073741824) (k : Nat) {b : Body} (h : b ∈ xs) : (-1152921504606846976 ≤ (jE xs (cs.take k) b).1 ∧ (jE xs (cs.take k) b).1 ≤ 1152921504606846976) ∧ -1152921504606846976 ≤ (jE xs (cs.take k) b).2 ∧ (jE xs (cs.take k) b).2 ≤ 1152921504606846976 := by
 have ht : (cs.take k).length ≤ cs.length := by rw [List.length_take]; omega
 have h1 := aHa (cs := cs.take k) (g := (·.nx)) hs hb (fun c h => hcs c (List.mem_of_mem_take h)) (fun c h => (hcs c (List.mem_of_mem_take h)).n.x) h
 have h2 := aHa (cs := cs.take k) (g := (·.ny)) hs hb (fun c h => hcs c (List.mem_of_mem_take h)) (fun c h => (hcs c (List.mem_of_mem_take h)).n.y) h
 unfold jE
 simp only
 omega
set_option maxHeartbeats 8000000 in
theorem aKy (w : World) (A : Option Addr) (n c : Nat) (xs : List Body) (R : Rd w 10 A n (xs.map aF)) (hs : bV xs) (hb : ∀ b ∈ xs, Okb b) (hn : n ≤ 1048576) (B : Option Addr) (mc c' : Nat) (cs : List Con) (R' : Rd w 5 B mc (cs.map cL)) (hcs : ∀ c ∈ cs, OkC xs c) (hmc : mc ≤ 1073741824) :
  Calls Tryz.prog 147 #[.slice A n c, .slice B mc c'] w (fun ex w' => ∃ v, ex = .returned v ∧ (fun v w' => ∃ r : Row, v = .slice r.A r.n r.c ∧ aU 177 2 r.A r.n r.c ((xs.map (jE xs cs)).map cJ) r.e ∧ Mem w [] [r.e] w') v w') := by
 have hlen : xs.length = n := by simpa using R.len
 have hbd := R.bound
 have hclen : cs.length = mc := by simpa using R'.len
 have hbd' := R'.bound
 have hz0 : List.replicate n ([.int .i64 0, .int .i64 0] : List Value) = (xs.map (jE xs (cs.take 0))).map cJ := by rw [bAi, aOn hlen ((0, 0) : Int × Int)]; exact congrArg (List.map cJ) (List.map_congr_left (fun b _ => Prod.ext (aDa xs cs (·.nx) b).symm (aDa xs cs (·.ny) b).symm))
 refine aH #[.tmp 4] 67 Tryz.func147 rfl Tryz.results147 Tryz.ntmps147 rfl ?_
 have M0 := Mem.refl w
 refine aD (aA (eG rfl rfl (aB (aC (aD (aA (dN rfl rfl (wq (cT Tryz.underlying29 rfl) rfl (iN (n) [.int .i64 0, .int .i64 0] wS aOi rfl M0 rfl rfl rfl rfl rfl rfl (by omega) (by omega) (fun b1 w1 M1 => ?_))))))))))
 have hL15 := jK (T := 177) (sz := 2) (b := b1) (nn := n) (List.replicate n [.int .i64 0, .int .i64 0]) (fun l hl => by rw [List.eq_of_mem_replicate hl]; rfl) (by simp) (by omega)
 rw [hz0] at hL15
 rw [hz0] at M1
 refine aP aYz M1 rfl rfl (fun b2 w2 M2 => (dX 1 (.slice _ _ _) vF M2 rfl rfl rfl rfl rfl rfl (fun w3 M3 => (aB (aC (aD (aD (aA ?_))))))))
 have M4 : Mem _ _ [_, _] _ := Mem.swap2 M3
 refine dN rfl rfl (wq (cT Tryz.underlying166 rfl) rfl (aZ rfl rfl (aB (aC (aT (dI (σ := Nat × dK) [0, 4, 5, 16, 17] (fun (k, e) => [(18, .int .i64 (k : Int))]) (fun (k, e) w' => (k ≤ mc ∧ aU 177 2 (some ⟨b1, 0, none⟩) n n ((xs.map (jE xs (cs.take k))).map cJ) e) ∧ Mem w [] [(some b2, bc [.slice (some ⟨b1, 0, none⟩) n n] 127), e] w') (fun (k, e) => mc - k) (0, (some b1, bc ((xs.map (jE xs (cs.take 0))).map cJ).flatten 177)) (bM rfl eP) (⟨⟨by omega, hL15⟩, M4⟩) ?_))))))
 rintro ⟨k, e⟩ ρ5 w5 ⟨⟨hk, hq⟩, hM5⟩
 refine aD (aA (dB rfl rfl rfl rfl (aB (aC (aD ?_)))))
 refine aX rfl (fun h19 => ?_) (fun h19 => ?_)
 ·obtain ⟨cn, hcn⟩ := cM (xs := cs) (k := k) hclen (by omega)
  have hc := hcs cn (List.mem_of_getElem? hcn)
  obtain ⟨pa, xa, hxa, hka, hla, hba, hma⟩ := rC hs hc.l
  obtain ⟨pb, xb, hxb, hkb, hlb, hbb, hmb⟩ := rC hs hc.h
  have hoa := hb xa hma
  have hob := hb xb hmb
  have hne := hc.ne
  have ma := hoa.m
  have mb := hob.m
  have hpab : pa ≠ pb := fun g => by subst g; rw [hxa] at hxb; injection hxb with hxb; subst hxb; omega
  refine aK (aC (aD (aT (aD (aA (wq (bR (k) aDt rfl rfl rfl ((R'.mem hM5).below_len (aJ cL hcn)) ((R'.mem hM5).someK (aJ cL hcn))) rfl (wq (dJ _ gR (R'.mem hM5) (aJ cL hcn) rfl) rfl (aP tS hM5 rfl rfl (fun b6 w6 M6 => (bA 2 _ gR M6 rfl rfl rfl rfl rfl (aQ rfl) rfl (fun w7 M7 => ?_)))))))))))
  refine aB (aC (aD (aA (dN rfl rfl (wq (aE 0 tT rfl) rfl (wq (aE 0 oK rfl) rfl (wq (aM 2 (.int _ _) bU M7 rfl rfl rfl) rfl (bZ aEp rfl rfl (qR _ cn.low _ _ _ xs (R.mem M7) hs) ?_))))))))
  rintro v8 w8 ⟨rfl, hb8⟩
  have M8 := M7.callB hb8
  refine wq (aG (.tuple (List.toArray _)) rfl) rfl (wq (bB (.int _ _) rfl rfl) rfl (aV 28 (.int .i64 (pa : Int)) (iE (by rw [hla])) (wq (bB (.bool (decide _)) rfl rfl) rfl (bI rfl rfl (wq (aI (.bool (decide _)) rfl) rfl ?_)))))
  refine aB (aC (aD (aA (dN rfl rfl (wq (aE 0 tT rfl) rfl (wq (aE 1 oG rfl) rfl (wq (aM 2 (.int _ _) bU M8 rfl rfl rfl) rfl (bZ aEp rfl rfl (qR _ cn.high _ _ _ xs (R.mem M8) hs) ?_))))))))
  rintro v9 w9 ⟨rfl, hb9⟩
  have M9 := M8.callB hb9
  refine wq (aG (.tuple (List.toArray _)) rfl) rfl (wq (bB (.int _ _) rfl rfl) rfl (aV 36 (.int .i64 (pb : Int)) (iE (by rw [hlb])) (wq (bB (.bool (decide _)) rfl rfl) rfl (bI rfl rfl (wq (aI (.bool (decide _)) rfl) rfl ?_)))))
  refine aB (aC (aD (aA (wq (cN [] [.pointer _, .pointer _] rfl rfl) rfl (wq (aI (.func _ _ _) rfl) rfl (aB (aC (aD (bO [(0, 0), (1, 0), (2, 1), (3, 0), (4, 0), (5, 1), (6, 1), (7, 0), (8, 0), (9, 1), (10, 1), (11, 2), (12, 2)] mixed rfl (by kernel_rfl) (fun w10 hb10 hh10 => ?_))))))))))
  have M10 := M9.drew hb10 hh10
  refine aY rfl rfl rfl (fun _ => aG (.func _ _ _) rfl) (gV rfl rfl rfl (bW rfl rfl rfl (bC 2 gR M10 rfl rfl rfl) (sQ rfl rfl rfl (gV rfl rfl rfl (bW rfl rfl rfl (bR (pa) dF rfl rfl rfl ((R.mem M10).below_len (aJ aF hxa)) ((R.mem M10).someK (aJ aF hxa))) ?_)))))
  refine bW rfl rfl rfl (dJ _ bJ (R.mem M10) (aJ aF hxa) rfl) (sQ rfl rfl rfl (gV rfl rfl rfl (bW rfl rfl rfl (bR (pb) dF rfl rfl rfl ((R.mem M10).below_len (aJ aF hxb)) ((R.mem M10).someK (aJ aF hxb))) (bW rfl rfl rfl (dJ _ bJ (R.mem M10) (aJ aF hxb) rfl) ?_))))
  refine dU [true, true, true, true, true] rfl (by kernel_rfl) (bZ aTv rfl rfl (aCf _ cn xa xb hc.n hoa hob false) ?_)
  rintro v11 w11 ⟨rfl, hb11⟩
  have M11 := M10.callB hb11
  refine aB (aC ⟨dT, ?_⟩)
  refine fN 50 (.int .i64 (oC cn xa xb xa.mass)) rfl (dU [] rfl (by kernel_rfl) (bZ aVb rfl rfl (aAh _ b2 b6 cn ⟨some ⟨b1, 0, none⟩, n, n, e⟩ (xs.map (jE xs (cs.take k))) hq pa (oC cn xa xb xa.mass) (-1) (jE xs (cs.take k) xa) (aJ _ hxa) (aFc hc.n (by omega)) (.inr rfl) hc.n (aEf hs hb hcs hclen hmc k hma) (M11.ownSeg 0 3)) ?_))
  rintro v12 w12 ⟨rfl, e1, hq1, hM12⟩
  have M12 : Mem _ _ [_, _, _] _ := M11.seg 0 3 hM12
  refine aB (aC ⟨dT, ?_⟩)
  refine cB (aC (bO [(0, 0), (1, 0), (2, 1), (3, 0), (4, 0), (5, 1), (6, 1), (7, 0), (8, 0), (9, 1), (10, 1), (11, 2), (12, 2)] mixed rfl (by kernel_rfl) (fun w13 hb13 hh13 => ?_)))
  have M13 := M12.drew hb13 hh13
  refine aY rfl rfl rfl (fun _ => aG (.func _ _ _) rfl) (gV rfl rfl rfl (bW rfl rfl rfl (bC 2 gR M13 rfl rfl rfl) (sQ rfl rfl rfl (gV rfl rfl rfl (bW rfl rfl rfl (bR (pa) dF rfl rfl rfl ((R.mem M13).below_len (aJ aF hxa)) ((R.mem M13).someK (aJ aF hxa))) ?_)))))
  refine bW rfl rfl rfl (dJ _ bJ (R.mem M13) (aJ aF hxa) rfl) (sQ rfl rfl rfl (gV rfl rfl rfl (bW rfl rfl rfl (bR (pb) dF rfl rfl rfl ((R.mem M13).below_len (aJ aF hxb)) ((R.mem M13).someK (aJ aF hxb))) (bW rfl rfl rfl (dJ _ bJ (R.mem M13) (aJ aF hxb) rfl) ?_))))
  refine dU [true, true, true, true, true] rfl (by kernel_rfl) (bZ aTv rfl rfl (aCf _ cn xa xb hc.n hoa hob true) ?_)
  rintro v14 w14 ⟨rfl, hb14⟩
  have M14 := M13.callB hb14
  refine aB (aC ⟨dT, ?_⟩)
  refine fN 63 (.int .i64 (oC cn xa xb xb.mass)) rfl (dU [] rfl (by kernel_rfl) (bZ aVb rfl rfl (aAh _ b2 b6 cn ⟨some ⟨b1, 0, none⟩, n, n, e1⟩ _ hq1 pb (oC cn xa xb xb.mass) (1) (jE xs (cs.take k) xb) (sK (aJ _ hxb) hpab) (aFc hc.n (by omega)) (.inl rfl) hc.n (aEf hs hb hcs hclen hmc k hmb) (M14.ownSeg 0 3)) ?_))
  rintro v15 w15 ⟨rfl, e2, hq2, hM15⟩
  have M15 : Mem _ _ [_, _, _] _ := M14.seg 0 3 hM15
  refine aB (aC ⟨dT, ?_⟩)
  refine cB (dD (aC (aA (wq (bP rfl rfl (by omega) (by omega)) rfl (aZ rfl rfl (aB ?_))))))
  refine cO (k + 1, e2) (bM rfl eP) (cU rfl (cU rfl (cU rfl (cU rfl (cU rfl jT))))) ?_ ?_
  ·exact ⟨⟨by omega, by rw [← aQg hcn, ← bAv hs hxa hxb hka hkb hc hba hbb]; exact hq2⟩, M15.keep [true, true, false]⟩
  ·(show mc - (k + 1) < mc - k; omega)
 ·have hkn : k = mc := by omega
  rw [List.take_of_length_le (by omega)] at hq
  refine cR (dC (dA (eZ (aC (aD (aA (wq (aM 0 (.slice _ _ _) vF hM5 rfl rfl rfl) rfl ?_)))))))
  refine eG rfl rfl (aB (aC (aL (cA (.slice _ _ _) rfl ?_))))
  exact ⟨⟨(some ⟨b1, 0, none⟩), n, n, e⟩, rfl, hq, hM5.keep [false, true]⟩
end Go.Proofs.YtaoaknafiegfoaaGreatDoor
