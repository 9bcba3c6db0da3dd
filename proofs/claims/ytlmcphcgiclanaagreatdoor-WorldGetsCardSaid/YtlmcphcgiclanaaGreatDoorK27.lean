/- Part of the proof of the laws of this seat: S20c, S20d, S20e, S20f, S20g, S20h. No conditions. -/
import Derived.Test.YtlmcphcgiclanaaGreatDoorK2
import Derived.Test.YtlmcphcgiclanaaGreatDoorK5
import Derived.Test.YtlmcphcgiclanaaGreatDoorK20
import Derived.Test.YtlmcphcgiclanaaGreatDoorK18
import Derived.Test.YtlmcphcgiclanaaGreatDoorK24
import Derived.Test.YtlmcphcgiclanaaGreatDoorK26
set_option linter.unusedVariables false
set_option linter.unusedSimpArgs false
set_option linter.unnecessarySimpa false
namespace Go.Proofs.YtlmcphcgiclanaaGreatDoor
open Go.Bil
open Go.RowKit (Below)
open Go.Proofs
set_option maxHeartbeats 8000000 in
theorem aWp (w : World) (bs : Nat) (rx ry : Row) (F G : Body → Int) (A : Option Addr) (n c : Nat) (xs : List Body) (R : Rd w 10 A n (xs.map aF)) (hs : bS xs) (hb : ∀ b ∈ xs, Okb b) (hrx : aW 2 1 rx.A rx.n rx.c ((xs.map F).map bW) rx.e) (hry : aW 2 1 ry.A ry.n ry.c ((xs.map G).map bW) ry.e) (hF : ∀ b ∈ xs, -1152921504606846976 ≤ F b ∧ F b ≤ 1152921504606846976) (hG : ∀ b ∈ xs, -1152921504606846976 ≤ G b ∧ G b ≤ 1152921504606846976) (cn : Con) (hc : OkC xs cn) (hO : Own [(some bs, bc [.slice A n c, .slice rx.A rx.n rx.c, .slice ry.A ry.n ry.c] 246), rx.e, ry.e] w) (hdA : 0 < n → ∀ q off, A = some ⟨q, off, none⟩ → q ∉ bQ [(some bs, bc [.slice A n c, .slice rx.A rx.n rx.c, .slice ry.A ry.n ry.c] 246), rx.e, ry.e]) :
  Calls Tryz.prog 177 #[.pointer (some ⟨bs, 0, none⟩), .agg (cF cn).toArray] w (fun ex w' => ∃ v, ex = .returned v ∧ (fun v w' => v = .tuple #[] ∧ ∃ ex ey : dL, aW 2 1 rx.A rx.n rx.c ((xs.map (aDc xs (·.nx) cn F)).map bW) ex ∧ aW 2 1 ry.A ry.n ry.c ((xs.map (aDc xs (·.ny) cn G)).map bW) ey ∧ Mem w (bQ [(some bs, bc [.slice A n c, .slice rx.A rx.n rx.c, .slice ry.A ry.n ry.c] 246), rx.e, ry.e]) [(some bs, bc [.slice A n c, .slice rx.A rx.n rx.c, .slice ry.A ry.n ry.c] 246), ex, ey] w') v w') := by
 have hlen : xs.length = n := by simpa using R.len
 have hbd := R.bound
 have hlx : xs.length = rx.n := by simpa using hrx.1
 have hly : xs.length = ry.n := by simpa using hry.1
 obtain ⟨pa, xa, hxa, hka, hla, hba, hma⟩ := pJ hs hc.l
 obtain ⟨pb, xb, hxb, hkb, hlb, hbb, hmb⟩ := pJ hs hc.h
 have hoa := hb xa hma
 have hob := hb xb hmb
 have hne := hc.ne
 have hpl := (List.getElem?_eq_some_iff.1 hxa).1
 have hpl2 := (List.getElem?_eq_some_iff.1 hxb).1
 have hpab : pa ≠ pb := fun g => by subst g; rw [hxa] at hxb; injection hxb with hxb; subst hxb; omega
 have ma := hoa.m
 have mb := hob.m
 have hra := vR hc.n hoa hob (m := xa.mass) (by omega)
 have hrb := vR hc.n hoa hob (m := xb.mass) (by omega)
 have gax := (lK hra.2.2 hc.n.x).2.2
 have gay := (lK hra.2.2 hc.n.y).2.2
 have gbx := (lK hrb.2.2 hc.n.x).2.2
 have gby := (lK hrb.2.2 hc.n.y).2.2
 have fa := hF xa hma
 have fb := hF xb hmb
 have ga := hG xa hma
 have gb := hG xb hmb
 have hFa : (xs.map F)[pa]? = some (F xa) := by rw [List.getElem?_map, hxa]; rfl
 have hGa : (xs.map G)[pa]? = some (G xa) := by rw [List.getElem?_map, hxa]; rfl
 have hFb : ((xs.map F).set pa (F xa - oW (lG cn xa xb) xa.mass cn.nx))[pb]? = some (F xb) := qH (by rw [List.getElem?_map, hxb]; rfl) hpab
 have hGb : ((xs.map G).set pa (G xa - oW (lG cn xa xb) xa.mass cn.ny))[pb]? = some (G xb) := qH (by rw [List.getElem?_map, hxb]; rfl) hpab
 refine aH #[] 139 Tryz.func177 rfl Tryz.results177 Tryz.ntmps177 rfl ?_
 have M0 := hO.mem
 refine aD (aA (bJ (.agg (List.toArray _)) M0 rfl rfl rfl (fun b1 w1 M1 => (aB (aC (aD (bV [(0, 0), (1, 0), (2, 0), (3, 1), (4, 0), (5, 0), (6, 1), (7, 2), (8, 0), (9, 0), (10, 0), (11, 0), (12, 0)] mixed rfl (by kernel_rfl) (fun w2 hb2 hh2 => ?_))))))))
 have M2 := M1.drew hb2 hh2
 refine aZ rfl rfl rfl (fun _ => aG (.pointer _) rfl) (aZ rfl rfl rfl (fun _ => aK rfl) (aZ rfl rfl rfl (fun _ => aE 0 mG rfl) (cB rfl rfl rfl (aM 0 (.slice _ _ _) eV M2 rfl rfl rfl) (aZ rfl rfl rfl (fun _ => aE 0 rK rfl) (aZ rfl rfl rfl (fun _ => aE 0 mT rfl) ?_)))))
 refine cB rfl rfl rfl (aM 3 (.int _ _) bU M2 rfl rfl rfl) (dR [true, true] rfl (by kernel_rfl) (bY aCn rfl rfl (pE _ cn.low _ _ _ xs (R.memY M2 hdA) hs) ?_))
 rintro v3 w3 ⟨rfl, hb3⟩
 have M3 := M2.callB hb3
 refine aB (aC ⟨dS, ?_⟩)
 refine aZ rfl rfl rfl (fun _ => aG (.tuple (List.toArray _)) rfl) (aZ rfl rfl rfl (fun _ => bE (.int _ _) rfl rfl) (iH 20 (.int .i64 (pa : Int)) (iE (by rw [hla])) (aZ rfl rfl rfl (fun _ => bE (.bool (decide _)) rfl rfl) (pP rfl rfl rfl (aZ rfl rfl rfl (fun _ => aI (.bool (decide _)) rfl) ?_)))))
 refine cG (aC (aD (bV [(0, 0), (1, 0), (2, 0), (3, 1), (4, 0), (5, 0), (6, 1), (7, 2), (8, 0), (9, 0), (10, 0), (11, 0), (12, 0)] mixed rfl (by kernel_rfl) (fun w4 hb4 hh4 => ?_))))
 have M4 := M3.drew hb4 hh4
 refine aZ rfl rfl rfl (fun _ => aG (.pointer _) rfl) (aZ rfl rfl rfl (fun _ => aK rfl) (aZ rfl rfl rfl (fun _ => aE 0 mG rfl) (cB rfl rfl rfl (aM 0 (.slice _ _ _) eV M4 rfl rfl rfl) (aZ rfl rfl rfl (fun _ => aE 0 rK rfl) (aZ rfl rfl rfl (fun _ => aE 1 mE rfl) ?_)))))
 refine cB rfl rfl rfl (aM 3 (.int _ _) bU M4 rfl rfl rfl) (dR [true, true] rfl (by kernel_rfl) (bY aCn rfl rfl (pE _ cn.high _ _ _ xs (R.memY M4 hdA) hs) ?_))
 rintro v5 w5 ⟨rfl, hb5⟩
 have M5 := M4.callB hb5
 refine aB (aC ⟨dS, ?_⟩)
 refine aZ rfl rfl rfl (fun _ => aG (.tuple (List.toArray _)) rfl) (aZ rfl rfl rfl (fun _ => bE (.int _ _) rfl rfl) (iH 31 (.int .i64 (pb : Int)) (iE (by rw [hlb])) (aZ rfl rfl rfl (fun _ => bE (.bool (decide _)) rfl rfl) (pP rfl rfl rfl (aZ rfl rfl rfl (fun _ => aI (.bool (decide _)) rfl) ?_)))))
 refine cG (aC (aD (bV [(0, 1), (1, 0), (2, 0), (3, 0), (4, 1), (5, 0), (6, 1), (7, 1), (8, 0), (9, 0), (10, 0), (11, 1), (12, 0), (13, 1), (14, 1), (15, 2), (16, 0)] mixed rfl (by kernel_rfl) (fun w6 hb6 hh6 => ?_))))
 have M6 := M5.drew hb6 hh6
 refine cB rfl rfl rfl (aY 3 gA M6 rfl rfl rfl) (aZ rfl rfl rfl (fun _ => aG (.pointer _) rfl) (aZ rfl rfl rfl (fun _ => aK rfl) (aZ rfl rfl rfl (fun _ => aE 0 mG rfl) (cB rfl rfl rfl (aM 0 (.slice _ _ _) eV M6 rfl rfl rfl) (iB rfl rfl rfl ?_)))))
 refine cB rfl rfl rfl (bX (pa) eX rfl rfl rfl ((R.memY M6 hdA).below_len (aJ aF hxa)) ((R.memY M6 hdA).someK (aJ aF hxa))) (cB rfl rfl rfl (eB _ bL (R.memY M6 hdA) (aJ aF hxa) rfl) (aZ rfl rfl rfl (fun _ => aG (.pointer _) rfl) (aZ rfl rfl rfl (fun _ => aK rfl) ?_)))
 refine aZ rfl rfl rfl (fun _ => aE 0 mG rfl) (cB rfl rfl rfl (aM 0 (.slice _ _ _) eV M6 rfl rfl rfl) (iB rfl rfl rfl (cB rfl rfl rfl (bX (pb) eX rfl rfl rfl ((R.memY M6 hdA).below_len (aJ aF hxb)) ((R.memY M6 hdA).someK (aJ aF hxb))) (cB rfl rfl rfl (eB _ bL (R.memY M6 hdA) (aJ aF hxb) rfl) ?_))))
 refine dR [true, true, true, true, true, true, true] rfl (by kernel_rfl) (bY bBc rfl rfl (aDi _ cn xa xb hc.n hoa hob) ?_)
 rintro v7 w7 ⟨rfl, hb7⟩
 have M7 := M6.callB hb7
 refine aB (aC ⟨dS, ?_⟩)
 refine pP rfl rfl rfl (cG (aC (aD (bV [(0, 0), (1, 0), (2, 0), (3, 0), (4, 1), (5, 0), (6, 1), (7, 1), (8, 1), (9, 0), (10, 1), (11, 2), (12, 0), (13, 0), (14, 0), (15, 0), (16, 0)] mixed rfl (by kernel_rfl) (fun w8 hb8 hh8 => ?_)))))
 have M8 := M7.drew hb8 hh8
 refine iB rfl rfl rfl (aZ rfl rfl rfl (fun _ => aG (.pointer _) rfl) (aZ rfl rfl rfl (fun _ => aK rfl) (aZ rfl rfl rfl (fun _ => aE 0 mG rfl) (cB rfl rfl rfl (aM 0 (.slice _ _ _) eV M8 rfl rfl rfl) (iB rfl rfl rfl ?_)))))
 refine cB rfl rfl rfl (bX (pa) eX rfl rfl rfl ((R.memY M8 hdA).below_len (aJ aF hxa)) ((R.memY M8 hdA).someK (aJ aF hxa))) (cB rfl rfl rfl (bO 4 fE (R.memY M8 hdA) (Nat.lt_of_le_of_lt (Nat.zero_le _) ((R.memY M8 hdA).below_len (aJ aF hxa))) rfl) (cB rfl rfl rfl (eH (o := 4) (.int _ _) aU (R.memY M8 hdA) (aJ aF hxa) rfl rfl) ?_))
 refine aZ rfl rfl rfl (fun _ => aE 2 mP rfl) (cB rfl rfl rfl (oB 3 _ bH M8 rfl rfl rfl rfl) (dR [true, true, true, true, true] rfl (by kernel_rfl) (bY aRx rfl rfl (vY _ (lG cn xa xb) xa.mass cn.nx cn.ny ⟨hra.1, hra.2.1⟩ (by omega) hra.2.2 hc.n.x hc.n.y) ?_)))
 rintro v9 w9 ⟨rfl, hb9⟩
 have M9 := M8.callB hb9
 refine aB (aC ⟨dS, ?_⟩)
 refine aZ rfl rfl rfl (fun _ => aG (.tuple (List.toArray _)) rfl) (aZ rfl rfl rfl (fun _ => bE (.int _ _) rfl rfl) (aZ rfl rfl rfl (fun _ => bE (.int _ _) rfl rfl) (pP rfl rfl rfl (pP rfl rfl rfl (cG ?_)))))
 refine aC (aD (bV [(0, 0), (1, 0), (2, 0), (3, 1), (4, 0), (5, 0), (6, 0), (7, 0), (8, 1), (9, 0), (10, 0), (11, 0), (12, 0), (13, 1), (14, 0), (15, 1), (16, 1), (17, 0), (18, 0), (19, 0), (20, 0), (21, 0), (22, 1), (23, 0), (24, 1), (25, 1), (26, 0), (27, 0), (28, 1), (29, 2), (30, 1), (31, 2)] mixed rfl (by kernel_rfl) (fun w10 hb10 hh10 => ?_)))
 have M10 := M9.drew hb10 hh10
 refine aZ rfl rfl rfl (fun _ => aG (.pointer _) rfl) (aZ rfl rfl rfl (fun _ => aK rfl) (aZ rfl rfl rfl (fun _ => aE 1 mK rfl) (cB rfl rfl rfl (aM 0 (.slice _ _ _) jY M10 rfl rfl rfl) (iB rfl rfl rfl (aZ rfl rfl rfl (fun _ => aG (.pointer _) rfl) ?_)))))
 refine aZ rfl rfl rfl (fun _ => aK rfl) (aZ rfl rfl rfl (fun _ => aE 2 mV rfl) (cB rfl rfl rfl (aM 0 (.slice _ _ _) jY M10 rfl rfl rfl) (iB rfl rfl rfl (aZ rfl rfl rfl (fun _ => aG (.pointer _) rfl) (aZ rfl rfl rfl (fun _ => aK rfl) ?_)))))
 refine aZ rfl rfl rfl (fun _ => aE 1 mK rfl) (cB rfl rfl rfl (aM 0 (.slice _ _ _) jY M10 rfl rfl rfl) (iB rfl rfl rfl (cB rfl rfl rfl (bX (pa) lN rfl rfl rfl ((hrx.rd M10 (bC (i := 1) rfl)).below_len (aJ bW hFa)) ((hrx.rd M10 (bC (i := 1) rfl)).someK (aJ bW hFa))) ?_)))
 refine cB rfl rfl rfl (iN (.int _ _) kR (hrx.rd M10 (bC (i := 1) rfl)) (aJ bW hFa) rfl) (iB rfl rfl rfl (aZ rfl rfl rfl (fun _ => mF rfl rfl (by omega) (by omega)) (aZ rfl rfl rfl (fun _ => aG (.pointer _) rfl) (aZ rfl rfl rfl (fun _ => aK rfl) (aZ rfl rfl rfl (fun _ => aE 2 mV rfl) ?_)))))
 refine cB rfl rfl rfl (aM 0 (.slice _ _ _) jY M10 rfl rfl rfl) (iB rfl rfl rfl (cB rfl rfl rfl (bX (pa) lN rfl rfl rfl ((hry.rd M10 (bC (i := 2) rfl)).below_len (aJ bW hGa)) ((hry.rd M10 (bC (i := 2) rfl)).someK (aJ bW hGa))) (cB rfl rfl rfl (iN (.int _ _) kR (hry.rd M10 (bC (i := 2) rfl)) (aJ bW hGa) rfl) ?_)))
 refine iB rfl rfl rfl (aZ rfl rfl rfl (fun _ => mF rfl rfl (by omega) (by omega)) (cB rfl rfl rfl (bX (pa) lN rfl rfl rfl ((hrx.rd M10 (bC (i := 1) rfl)).below_len (aJ bW hFa)) ((hrx.rd M10 (bC (i := 1) rfl)).someK (aJ bW hFa))) (dR [true, true, true, true, true, true, true, true, true] rfl (by kernel_rfl) ?_)))
 refine vL 1 (.int _ _) kR M10 rfl hrx (aJ bW hFa) rfl rfl rfl rfl (fun e11 w11 hR11 M11 => ?_)
 have hQ11 := hR11.mapSet (f := bW) (x := F xa - oW (lG cn xa xb) xa.mass cn.nx) rfl
 refine aB (aC ⟨dS, ?_⟩)
 refine cB rfl rfl rfl (bX (pa) lN rfl rfl rfl ((hry.rd M11 (bC (i := 2) rfl)).below_len (aJ bW hGa)) ((hry.rd M11 (bC (i := 2) rfl)).someK (aJ bW hGa))) (dR [true] rfl (by kernel_rfl) (vL 2 (.int _ _) kR M11 rfl hry (aJ bW hGa) rfl rfl rfl rfl (fun e12 w12 hR12 M12 => ?_)))
 have hQ12 := hR12.mapSet (f := bW) (x := G xa - oW (lG cn xa xb) xa.mass cn.ny) rfl
 refine aB (aC ⟨dS, ?_⟩)
 refine cG (aC (aD (bV [(0, 0), (1, 0), (2, 0), (3, 0), (4, 1), (5, 0), (6, 1), (7, 1), (8, 1), (9, 0), (10, 1), (11, 2), (12, 0), (13, 0), (14, 0), (15, 0), (16, 0)] mixed rfl (by kernel_rfl) (fun w13 hb13 hh13 => ?_))))
 have M13 := M12.drew hb13 hh13
 refine iB rfl rfl rfl (aZ rfl rfl rfl (fun _ => aG (.pointer _) rfl) (aZ rfl rfl rfl (fun _ => aK rfl) (aZ rfl rfl rfl (fun _ => aE 0 mG rfl) (cB rfl rfl rfl (aM 0 (.slice _ _ _) eV M13 rfl rfl rfl) (iB rfl rfl rfl ?_)))))
 refine cB rfl rfl rfl (bX (pb) eX rfl rfl rfl ((R.memY M13 hdA).below_len (aJ aF hxb)) ((R.memY M13 hdA).someK (aJ aF hxb))) (cB rfl rfl rfl (bO 4 fE (R.memY M13 hdA) (Nat.lt_of_le_of_lt (Nat.zero_le _) ((R.memY M13 hdA).below_len (aJ aF hxb))) rfl) (cB rfl rfl rfl (eH (o := 4) (.int _ _) aU (R.memY M13 hdA) (aJ aF hxb) rfl rfl) ?_))
 refine aZ rfl rfl rfl (fun _ => aE 2 mP rfl) (cB rfl rfl rfl (oB 3 _ bH M13 rfl rfl rfl rfl) (dR [true, true, true, true, true] rfl (by kernel_rfl) (bY aRx rfl rfl (vY _ (lG cn xa xb) xb.mass cn.nx cn.ny ⟨hrb.1, hrb.2.1⟩ (by omega) hrb.2.2 hc.n.x hc.n.y) ?_)))
 rintro v14 w14 ⟨rfl, hb14⟩
 have M14 := M13.callB hb14
 refine aB (aC ⟨dS, ?_⟩)
 refine aZ rfl rfl rfl (fun _ => aG (.tuple (List.toArray _)) rfl) (aZ rfl rfl rfl (fun _ => bE (.int _ _) rfl rfl) (aZ rfl rfl rfl (fun _ => bE (.int _ _) rfl rfl) (pP rfl rfl rfl (pP rfl rfl rfl (cG ?_)))))
 refine aC (bV [(0, 0), (1, 0), (2, 0), (3, 1), (4, 0), (5, 0), (6, 0), (7, 0), (8, 1), (9, 0), (10, 0), (11, 0), (12, 0), (13, 1), (14, 0), (15, 1), (16, 1), (17, 0), (18, 0), (19, 0), (20, 0), (21, 0), (22, 1), (23, 0), (24, 1), (25, 1), (26, 0), (27, 0), (28, 1), (29, 2), (30, 1), (31, 2)] mixed rfl (by kernel_rfl) (fun w15 hb15 hh15 => ?_))
 have M15 := M14.drew hb15 hh15
 refine aZ rfl rfl rfl (fun _ => aG (.pointer _) rfl) (aZ rfl rfl rfl (fun _ => aK rfl) (aZ rfl rfl rfl (fun _ => aE 1 mK rfl) (cB rfl rfl rfl (aM 0 (.slice _ _ _) jY M15 rfl rfl rfl) (iB rfl rfl rfl (aZ rfl rfl rfl (fun _ => aG (.pointer _) rfl) ?_)))))
 refine aZ rfl rfl rfl (fun _ => aK rfl) (aZ rfl rfl rfl (fun _ => aE 2 mV rfl) (cB rfl rfl rfl (aM 0 (.slice _ _ _) jY M15 rfl rfl rfl) (iB rfl rfl rfl (aZ rfl rfl rfl (fun _ => aG (.pointer _) rfl) (aZ rfl rfl rfl (fun _ => aK rfl) ?_)))))
 refine aZ rfl rfl rfl (fun _ => aE 1 mK rfl) (cB rfl rfl rfl (aM 0 (.slice _ _ _) jY M15 rfl rfl rfl) (iB rfl rfl rfl (cB rfl rfl rfl (bX (pb) lN rfl rfl rfl ((hQ11.rd M15 (bC (i := 1) rfl)).below_len (aJ bW hFb)) ((hQ11.rd M15 (bC (i := 1) rfl)).someK (aJ bW hFb))) ?_)))
 refine cB rfl rfl rfl (iN (.int _ _) kR (hQ11.rd M15 (bC (i := 1) rfl)) (aJ bW hFb) rfl) (iB rfl rfl rfl (aZ rfl rfl rfl (fun _ => bM rfl rfl (by omega) (by omega)) (aZ rfl rfl rfl (fun _ => aG (.pointer _) rfl) (aZ rfl rfl rfl (fun _ => aK rfl) (aZ rfl rfl rfl (fun _ => aE 2 mV rfl) ?_)))))
 refine cB rfl rfl rfl (aM 0 (.slice _ _ _) jY M15 rfl rfl rfl) (iB rfl rfl rfl (cB rfl rfl rfl (bX (pb) lN rfl rfl rfl ((hQ12.rd M15 (bC (i := 2) rfl)).below_len (aJ bW hGb)) ((hQ12.rd M15 (bC (i := 2) rfl)).someK (aJ bW hGb))) (cB rfl rfl rfl (iN (.int _ _) kR (hQ12.rd M15 (bC (i := 2) rfl)) (aJ bW hGb) rfl) ?_)))
 refine iB rfl rfl rfl (aZ rfl rfl rfl (fun _ => bM rfl rfl (by omega) (by omega)) (cB rfl rfl rfl (bX (pb) lN rfl rfl rfl ((hQ11.rd M15 (bC (i := 1) rfl)).below_len (aJ bW hFb)) ((hQ11.rd M15 (bC (i := 1) rfl)).someK (aJ bW hFb))) (dR [true, true, true, true, true, true, true, true, true] rfl (by kernel_rfl) ?_)))
 refine vL 1 (.int _ _) kR M15 rfl hQ11 (aJ bW hFb) rfl rfl rfl rfl (fun e16 w16 hR16 M16 => ?_)
 have hQ16 := hR16.mapSet (f := bW) (x := F xb + oW (lG cn xa xb) xb.mass cn.nx) rfl
 refine aB (aC ⟨dS, ?_⟩)
 refine cB rfl rfl rfl (bX (pb) lN rfl rfl rfl ((hQ12.rd M16 (bC (i := 2) rfl)).below_len (aJ bW hGb)) ((hQ12.rd M16 (bC (i := 2) rfl)).someK (aJ bW hGb))) (dR [true] rfl (by kernel_rfl) (vL 2 (.int _ _) kR M16 rfl hQ12 (aJ bW hGb) rfl rfl rfl rfl (fun e17 w17 hR17 M17 => ?_)))
 have hQ17 := hR17.mapSet (f := bW) (x := G xb + oW (lG cn xa xb) xb.mass cn.ny) rfl
 refine aB (aC ⟨dS, ?_⟩)
 refine cG (iI ?_)
 exact ⟨rfl, e16, e17, by rw [← aKm hs hxa hxb hka hkb hc hba hbb]; exact hQ16, by rw [← aKm hs hxa hxb hka hkb hc hba hbb]; exact hQ17, M17.keep [true, true, true, false]⟩
set_option maxHeartbeats 4000000 in
theorem aEw (w : World) (bs : Nat) (rx ry : Row) (A : Option Addr) (n c : Nat) (xs : List Body) (R : Rd w 10 A n (xs.map aF)) (hs : bS xs) (hb : ∀ b ∈ xs, Okb b) (B : Option Addr) (mc c' : Nat) (cs : List Con) (R' : Rd w 5 B mc (cs.map cF)) (hcs : ∀ c ∈ cs, OkC xs c) (hmc : mc ≤ 8589934592) (hrx : aW 2 1 rx.A rx.n rx.c ((xs.map (fun b => fJ xs (cs.take 0) (·.nx) b)).map bW) rx.e) (hry : aW 2 1 ry.A ry.n ry.c ((xs.map (fun b => fJ xs (cs.take 0) (·.ny) b)).map bW) ry.e) (hO : Own [(some bs, bc [.slice A n c, .slice rx.A rx.n rx.c, .slice ry.A ry.n ry.c] 246), rx.e, ry.e] w) (hdA : 0 < n → ∀ q off, A = some ⟨q, off, none⟩ → q ∉ bQ [(some bs, bc [.slice A n c, .slice rx.A rx.n rx.c, .slice ry.A ry.n ry.c] 246), rx.e, ry.e]) (hdB : 0 < mc → ∀ q off, B = some ⟨q, off, none⟩ → q ∉ bQ [(some bs, bc [.slice A n c, .slice rx.A rx.n rx.c, .slice ry.A ry.n ry.c] 246), rx.e, ry.e]) :
  Calls Tryz.prog 176 #[.slice B mc c', .func (.func 177) #[.pointer (some ⟨bs, 0, none⟩)] #[]] w (fun ex w' => ∃ v, ex = .returned v ∧ (fun v w' => v = .tuple #[] ∧ ∃ ex ey : dL, aW 2 1 rx.A rx.n rx.c ((xs.map (fun b => fJ xs cs (·.nx) b)).map bW) ex ∧ aW 2 1 ry.A ry.n ry.c ((xs.map (fun b => fJ xs cs (·.ny) b)).map bW) ey ∧ Mem w (bQ [(some bs, bc [.slice A n c, .slice rx.A rx.n rx.c, .slice ry.A ry.n ry.c] 246), rx.e, ry.e]) [(some bs, bc [.slice A n c, .slice rx.A rx.n rx.c, .slice ry.A ry.n ry.c] 246), ex, ey] w') v w') := by
 have hlen : xs.length = n := by simpa using R.len
 have hbd := R.bound
 have hclen : cs.length = mc := by simpa using R'.len
 have hbd' := R'.bound
 refine aH #[] 16 Tryz.func176 rfl Tryz.results176 Tryz.ntmps176 rfl ?_
 have M0 := hO.mem
 refine aD (aA (eK rfl rfl (wq (cR Tryz.underlying82 rfl) rfl (aV rfl rfl (aB (aC (aT (dN (σ := Nat × dL × dL) [1, 6, 7] (fun (k, ex, ey) => [(8, .int .i64 (k : Int))]) (fun (k, ex, ey) w' => (k ≤ mc ∧ aW 2 1 rx.A rx.n rx.c ((xs.map (fun b => fJ xs (cs.take k) (·.nx) b)).map bW) ex ∧ aW 2 1 ry.A ry.n ry.c ((xs.map (fun b => fJ xs (cs.take k) (·.ny) b)).map bW) ey) ∧ Mem w (bQ [(some bs, bc [.slice A n c, .slice rx.A rx.n rx.c, .slice ry.A ry.n ry.c] 246), rx.e, ry.e]) [(some bs, bc [.slice A n c, .slice rx.A rx.n rx.c, .slice ry.A ry.n ry.c] 246), ex, ey] w') (fun (k, ex, ey) => mc - k) (0, rx.e, ry.e) (bK rfl fC) (⟨⟨by omega, hrx, hry⟩, M0⟩) ?_))))))))
 rintro ⟨k, ex, ey⟩ ρ1 w1 ⟨⟨hk, hqx, hqy⟩, hM1⟩
 refine aD (aA (cS rfl rfl rfl rfl (aB (aC (aD ?_)))))
 refine aX rfl (fun h9 => ?_) (fun h9 => ?_)
 ·obtain ⟨cn, hcn⟩ := cL (xs := cs) (k := k) hclen (by omega)
  have hkx : ∀ b ∈ xs, -1152921504606846976 ≤ fJ xs (cs.take k) (·.nx) b ∧ fJ xs (cs.take k) (·.nx) b ≤ 1152921504606846976 := fun b hbm => by have := rP (cs := cs.take k) (g := (·.nx)) hs hb (fun c h => hcs c (List.mem_of_mem_take h)) (fun c h => (hcs c (List.mem_of_mem_take h)).n.x) hbm; have := List.length_take_le k cs; omega
  have hky : ∀ b ∈ xs, -1152921504606846976 ≤ fJ xs (cs.take k) (·.ny) b ∧ fJ xs (cs.take k) (·.ny) b ≤ 1152921504606846976 := fun b hbm => by have := rP (cs := cs.take k) (g := (·.ny)) hs hb (fun c h => hcs c (List.mem_of_mem_take h)) (fun c h => (hcs c (List.mem_of_mem_take h)).n.y) hbm; have := List.length_take_le k cs; omega
  refine aL (aC (aD (aT (aD (aA (wq (bX (k) aOh rfl rfl rfl ((R'.memY hM1 hdB).below_len (aJ cF hcn)) ((R'.memY hM1 hdB).someK (aJ cF hcn))) rfl (wq (eB _ gA (R'.memY hM1 hdB) (aJ cF hcn) rfl) rfl (aQ rH hM1 rfl rfl (fun b2 w2 M2 => ?_)))))))))
  refine bB 3 _ gA M2 rfl rfl rfl rfl rfl (aP rfl) rfl (fun w3 M3 => (aB (aC (aA (wq (aG (.func _ _ _) rfl) rfl (wq (aY 3 gA M3 rfl rfl rfl) rfl (bY bAe rfl rfl (aWp _ bs ⟨rx.A, rx.n, rx.c, ex⟩ ⟨ry.A, ry.n, ry.c, ey⟩ (fun b => fJ xs (cs.take k) (·.nx) b) (fun b => fJ xs (cs.take k) (·.ny) b) A n c xs (R.memY M3 hdA) hs hb hqx hqy hkx hky cn (hcs cn (List.mem_of_getElem? hcn)) (M3.ownSeg 0 3) (M3.away 0 3 R hdA)) ?_)))))))
  rintro v4 w4 ⟨rfl, ex2, ey2, hqx2, hqy2, hM4⟩
  have M4 : Mem _ _ [_, _, _, _] _ := M3.seg 0 3 hM4
  refine aB (cV (aC (aA (wq (bM rfl rfl (by omega) (by omega)) rfl (aV rfl rfl (aB ?_))))))
  refine cQ (k + 1, ex2, ey2) (bK rfl fC) (cU rfl (cU rfl (cU rfl kE))) ?_ ?_
  ·exact ⟨⟨by omega, by rw [← aBb hcn]; exact hqx2, by rw [← aBb hcn]; exact hqy2⟩, M4.keep [true, true, true, false]⟩
  ·(show mc - (k + 1) < mc - k; omega)
 ·have hkn : k = mc := by omega
  rw [List.take_of_length_le (by omega)] at hqx hqy
  refine cN (dB (cZ (eZ (iI ?_))))
  exact ⟨rfl, ex, ey, hqx, hqy, hM1⟩
theorem Mem.rot3 {w0 w : World} {X : List Nat} {a b c : dL} (M : Mem w0 X [a, b, c] w) : Mem w0 X [c, b, a] w := M.perm (List.reverse_perm [a, b, c]).symm
theorem Mem.rot3' {w0 w : World} {X : List Nat} {a b c : dL} (M : Mem w0 X [a, b, c] w) : Mem w0 X [c, a, b] w := M.perm (List.perm_append_comm (l₁ := [a, b]) (l₂ := [c]))
theorem aUg {xs : List Body} {cs : List Con} {n : Nat} (hs : bS xs) (hb : ∀ b ∈ xs, Okb b) (hcs : ∀ c ∈ cs, OkC xs c) (hn : cs.length = n) (hl : n ≤ 8589934592) {b : Body} (h : b ∈ xs) : (-1152921504606846976 ≤ fJ xs cs (·.nx) b ∧ fJ xs cs (·.nx) b ≤ 1152921504606846976) ∧ -1152921504606846976 ≤ fJ xs cs (·.ny) b ∧ fJ xs cs (·.ny) b ≤ 1152921504606846976 := by
 have h1 := rP (cs := cs) (g := (·.nx)) hs hb hcs (fun c h => (hcs c h).n.x) h
 have h2 := rP (cs := cs) (g := (·.ny)) hs hb hcs (fun c h => (hcs c h).n.y) h
 omega
set_option maxHeartbeats 4000000 in
theorem aQf (w : World) (A : Option Addr) (n c : Nat) (xs : List Body) (R : Rd w 10 A n (xs.map aF)) (hs : bS xs) (hb : ∀ b ∈ xs, Okb b) (hn : n ≤ 1048576) (B : Option Addr) (mc c' : Nat) (cs : List Con) (R' : Rd w 5 B mc (cs.map cF)) (hcs : ∀ c ∈ cs, OkC xs c) (hmc : mc ≤ 8589934592) :
  Calls Tryz.prog 138 #[.slice A n c, .slice B mc c'] w (fun ex w' => ∃ v, ex = .returned v ∧ (fun v w' => ∃ rx ry : Row, v = .tuple #[.slice rx.A rx.n rx.c, .slice ry.A ry.n ry.c] ∧ aW 2 1 rx.A rx.n rx.c ((xs.map (fun b => fJ xs cs (·.nx) b)).map bW) rx.e ∧ aW 2 1 ry.A ry.n ry.c ((xs.map (fun b => fJ xs cs (·.ny) b)).map bW) ry.e ∧ Mem w [] [rx.e, ry.e] w') v w') := by
 have hlen : xs.length = n := by simpa using R.len
 have hbd := R.bound
 have hclen : cs.length = mc := by simpa using R'.len
 have hbd' := R'.bound
 have hz0 : ∀ g : Con → Int, List.replicate n ([.int .i64 0] : List Value) = (xs.map (fun b => fJ xs (cs.take 0) g b)).map bW := fun g => by rw [aUs, aKs hlen (0 : Int)]; exact congrArg (List.map bW) (List.map_congr_left (fun b _ => (aNn xs cs g b).symm))
 refine aH #[.tmp 4, .tmp 5] 28 Tryz.func138 rfl Tryz.results138 Tryz.ntmps138 rfl ?_
 have M0 := Mem.refl w
 refine aD (aA (fZ rfl rfl (fZ rfl rfl (aB (aC (aD (aTt [(0, 0), (1, 0), (2, 0), (4, 0), (5, 0)] 3 6 [(6, 2), (7, 0), (8, 2), (9, 0)] [(3, 2), (7, 0), (8, 2), (9, 0)] mixed rfl (by kernel_rfl) (fun w1 hb1 hh1 => ?_))))))))
 have M1 := M0.drew hb1 hh1
 refine sO rfl rfl rfl (fun _ => aG (.slice _ _ _) rfl) (sO rfl rfl rfl (fun _ => aG (.slice _ _ _) rfl) (sO rfl rfl rfl (fun _ => cR Tryz.underlying22 rfl) (sO rfl rfl rfl (fun _ => aG (.slice _ _ _) rfl) (sO rfl rfl rfl (fun _ => cR Tryz.underlying22 rfl) ?_))))
 refine aLc ?_ ?_
 ·refine dR [] rfl (by kernel_rfl) (iZ (n) [.int .i64 0] lN yL rfl M1 rfl rfl rfl rfl rfl rfl (by omega) (by omega) (fun b2 w2 M2 => ?_))
  have hL10 := jM (T := 2) (sz := 1) (b := b2) (nn := n) (List.replicate n [.int .i64 0]) (fun l hl => by rw [List.eq_of_mem_replicate hl]; rfl) (by simp) (by omega)
  rw [hz0 (·.nx)] at hL10
  rw [hz0 (·.nx)] at M2
  refine aB (aC ⟨dS, ?_⟩)
  refine dR [] rfl (by kernel_rfl) (iZ (n) [.int .i64 0] lN yL rfl M2 rfl rfl rfl rfl rfl rfl (by omega) (by omega) (fun b3 w3 M3 => ?_))
  have hL13 := jM (T := 2) (sz := 1) (b := b3) (nn := n) (List.replicate n [.int .i64 0]) (fun l hl => by rw [List.eq_of_mem_replicate hl]; rfl) (by simp) (by omega)
  rw [hz0 (·.ny)] at hL13
  rw [hz0 (·.ny)] at M3
  refine aB (aC ⟨dS, ?_⟩)
  refine aZ rfl rfl rfl (fun _ => cI [(0, .slice _ _ _), (1, .slice _ _ _), (2, .slice _ _ _)] _ aAl rfl rfl) (dR [] rfl (by kernel_rfl) (bJ (.agg (List.toArray _)) M3 rfl rfl rfl (fun b4 w4 M4 => ?_)))
  refine aB (aC ⟨dS, ?_⟩)
  refine aZ rfl rfl rfl (fun _ => aI (.pointer _) rfl) (cG (aC (aD (aA (eK rfl rfl (wq (aG (.pointer _) rfl) rfl (wq (cM [.pointer _] [] rfl rfl) rfl ?_)))))))
  have M5 : Mem _ _ [_, _, _] _ := Mem.rot3' M4
  refine bY aQl rfl rfl (aEw _ b4 ⟨some ⟨b2, 0, none⟩, n, n, (some b2, bc ((xs.map (fun b => fJ xs (cs.take 0) (·.nx) b)).map bW).flatten 2)⟩ ⟨some ⟨b3, 0, none⟩, n, n, (some b3, bc ((xs.map (fun b => fJ xs (cs.take 0) (·.ny) b)).map bW).flatten 2)⟩ A n c xs (R.mem M5) hs hb B mc c' cs (R'.mem M5) hcs hmc hL10 hL13 (M5.ownSeg 0 3) (M5.away 0 3 R (by simp)) (M5.away 0 3 R' (by simp))) ?_
  rintro v6 w6 ⟨rfl, ex, ey, hqx, hqy, hM6⟩
  have M6 : Mem _ _ [_, _, _] _ := M5.seg 0 3 hM6
  refine aB (aC (aD (bV [(0, 0), (1, 0), (2, 0), (3, 1), (4, 0), (5, 0), (6, 0), (7, 1), (8, 0), (9, 0)] mixed rfl (by kernel_rfl) (fun w7 hb7 hh7 => ?_))))
  have M7 := M6.drew hb7 hh7
  refine aZ rfl rfl rfl (fun _ => aG (.pointer _) rfl) (aZ rfl rfl rfl (fun _ => aK rfl) (aZ rfl rfl rfl (fun _ => aE 1 mK rfl) (cB rfl rfl rfl (aM 0 (.slice _ _ _) jY M7 rfl rfl rfl) (aZ rfl rfl rfl (fun _ => aG (.pointer _) rfl) (aZ rfl rfl rfl (fun _ => aK rfl) ?_)))))
  refine aZ rfl rfl rfl (fun _ => aE 2 mV rfl) (cB rfl rfl rfl (aM 0 (.slice _ _ _) jY M7 rfl rfl rfl) (aZ rfl rfl rfl (fun _ => aI (.slice _ _ _) rfl) (aZ rfl rfl rfl (fun _ => aI (.slice _ _ _) rfl) (cG (aC (aN ?_))))))
  refine gV (.slice _ _ _) (.slice _ _ _) rfl rfl ?_
  exact ⟨⟨(some ⟨b2, 0, none⟩), n, n, ex⟩, ⟨(some ⟨b3, 0, none⟩), n, n, ey⟩, rfl, hqx, hqy, M7.keep [false, true, true]⟩
 ·refine dR [] rfl (by kernel_rfl) (iZ (n) [.int .i64 0] lN yL rfl M1 rfl rfl rfl rfl rfl rfl (by omega) (by omega) (fun b8 w8 M8 => ?_))
  have hL13 := jM (T := 2) (sz := 1) (b := b8) (nn := n) (List.replicate n [.int .i64 0]) (fun l hl => by rw [List.eq_of_mem_replicate hl]; rfl) (by simp) (by omega)
  rw [hz0 (·.ny)] at hL13
  rw [hz0 (·.ny)] at M8
  refine aB (aC ⟨dS, ?_⟩)
  refine dR [] rfl (by kernel_rfl) (iZ (n) [.int .i64 0] lN yL rfl M8 rfl rfl rfl rfl rfl rfl (by omega) (by omega) (fun b9 w9 M9 => ?_))
  have hL10 := jM (T := 2) (sz := 1) (b := b9) (nn := n) (List.replicate n [.int .i64 0]) (fun l hl => by rw [List.eq_of_mem_replicate hl]; rfl) (by simp) (by omega)
  rw [hz0 (·.nx)] at hL10
  rw [hz0 (·.nx)] at M9
  refine aB (aC ⟨dS, ?_⟩)
  refine aZ rfl rfl rfl (fun _ => cI [(0, .slice _ _ _), (1, .slice _ _ _), (2, .slice _ _ _)] _ aAl rfl rfl) (dR [] rfl (by kernel_rfl) (bJ (.agg (List.toArray _)) M9 rfl rfl rfl (fun b10 w10 M10 => ?_)))
  refine aB (aC ⟨dS, ?_⟩)
  refine aZ rfl rfl rfl (fun _ => aI (.pointer _) rfl) (cG (aC (aD (aA (eK rfl rfl (wq (aG (.pointer _) rfl) rfl (wq (cM [.pointer _] [] rfl rfl) rfl ?_)))))))
  have M11 : Mem _ _ [_, _, _] _ := Mem.rot3 M10
  refine bY aQl rfl rfl (aEw _ b10 ⟨some ⟨b9, 0, none⟩, n, n, (some b9, bc ((xs.map (fun b => fJ xs (cs.take 0) (·.nx) b)).map bW).flatten 2)⟩ ⟨some ⟨b8, 0, none⟩, n, n, (some b8, bc ((xs.map (fun b => fJ xs (cs.take 0) (·.ny) b)).map bW).flatten 2)⟩ A n c xs (R.mem M11) hs hb B mc c' cs (R'.mem M11) hcs hmc hL10 hL13 (M11.ownSeg 0 3) (M11.away 0 3 R (by simp)) (M11.away 0 3 R' (by simp))) ?_
  rintro v12 w12 ⟨rfl, ex, ey, hqx, hqy, hM12⟩
  have M12 : Mem _ _ [_, _, _] _ := M11.seg 0 3 hM12
  refine aB (aC (aD (bV [(0, 0), (1, 0), (2, 0), (3, 1), (4, 0), (5, 0), (6, 0), (7, 1), (8, 0), (9, 0)] mixed rfl (by kernel_rfl) (fun w13 hb13 hh13 => ?_))))
  have M13 := M12.drew hb13 hh13
  refine aZ rfl rfl rfl (fun _ => aG (.pointer _) rfl) (aZ rfl rfl rfl (fun _ => aK rfl) (aZ rfl rfl rfl (fun _ => aE 1 mK rfl) (cB rfl rfl rfl (aM 0 (.slice _ _ _) jY M13 rfl rfl rfl) (aZ rfl rfl rfl (fun _ => aG (.pointer _) rfl) (aZ rfl rfl rfl (fun _ => aK rfl) ?_)))))
  refine aZ rfl rfl rfl (fun _ => aE 2 mV rfl) (cB rfl rfl rfl (aM 0 (.slice _ _ _) jY M13 rfl rfl rfl) (aZ rfl rfl rfl (fun _ => aI (.slice _ _ _) rfl) (aZ rfl rfl rfl (fun _ => aI (.slice _ _ _) rfl) (cG (aC (aN ?_))))))
  refine gV (.slice _ _ _) (.slice _ _ _) rfl rfl ?_
  exact ⟨⟨(some ⟨b9, 0, none⟩), n, n, ex⟩, ⟨(some ⟨b8, 0, none⟩), n, n, ey⟩, rfl, hqx, hqy, M13.keep [false, true, true]⟩
set_option maxHeartbeats 8000000 in
theorem aOm (w : World) (A : Option Addr) (n c : Nat) (xs : List Body) (R : Rd w 10 A n (xs.map aF)) (hs : bS xs) (hb : ∀ b ∈ xs, Okb b) (hn : n ≤ 1048576) (B : Option Addr) (mc c' : Nat) (cs : List Con) (R' : Rd w 5 B mc (cs.map cF)) (hcs : ∀ c ∈ cs, OkC xs c) (hmc : mc ≤ 8589934592) :
  Calls Tryz.prog 108 #[.slice A n c, .slice B mc c'] w (fun ex w' => ∃ v, ex = .returned v ∧ (fun v w' => ∃ r : Row, v = .tuple #[.slice r.A r.n r.c, .bool (aPi xs cs)] ∧ aW 40 10 r.A r.n r.c ((aCe xs cs).map aF) r.e ∧ Mem w [] [r.e] w') v w') := by
 have hlen : xs.length = n := by simpa using R.len
 have hbd := R.bound
 have hclen : cs.length = mc := by simpa using R'.len
 have hbd' := R'.bound
 refine aH #[.tmp 4, .tmp 5] 75 Tryz.func108 rfl Tryz.results108 Tryz.ntmps108 rfl ?_
 have M0 := Mem.refl w
 refine aD (aA (fZ rfl rfl (wq (aI (.bool false) rfl) rfl (aB (aC (aD (aA (eK rfl rfl (eK rfl rfl ?_)))))))))
 refine bY aZa rfl rfl (aQf _ A n c xs (R.mem M0) hs hb hn B mc c' cs (R'.mem M0) hcs hmc) ?_
 rintro v1 w1 ⟨rx, ry, rfl, hrx, hry, hM1⟩
 have M1 : Mem _ _ [_, _] _ := M0.call0 hM1
 have hrxn : xs.length = rx.n := by simpa using hrx.1
 have hryn : xs.length = ry.n := by simpa using hry.1
 refine wq (aG (.tuple (List.toArray _)) rfl) rfl (wq (bE (.slice _ _ _) rfl rfl) rfl (wq (bE (.slice _ _ _) rfl rfl) rfl (fZ rfl rfl (fZ rfl rfl (aB (aC (aD (aA ?_))))))))
 refine wq (aI (.bool false) rfl) rfl (aB (aC (aD (aA (fZ rfl rfl ?_)))))
 have M2 := M1.dummy default
 refine aB (aC (aD (aD (aA (eK rfl rfl (wq (cR Tryz.underlying22 rfl) rfl (aV rfl rfl (aB (aC (aT (dN (σ := Nat × Row) [4, 5, 6, 7, 22, 23] (fun (k, q) => [(8, .bool ((xs.take k).any (aVh xs cs))), (9, .slice q.A q.n q.c), (24, .int .i64 (k : Int))]) (fun (k, q) w' => (k ≤ n ∧ aW 40 10 q.A q.n q.c (((xs.take k).map (aFz xs cs)).map aF) q.e) ∧ Mem w [] [rx.e, ry.e, q.e] w') (fun (k, q) => n - k) (0, iG) (bK (bv rfl rfl) (bK rfl (bK rfl fC))) (⟨⟨by omega, aW.nil _ _ _⟩, M2⟩) ?_)))))))))))
 rintro ⟨k, q⟩ ρ3 w3 ⟨⟨hk, hq⟩, hM3⟩
 have htl := List.length_take_le k xs
 have hqn : (xs.take k).length = q.n := by simpa using hq.1
 refine aD (aA (cS rfl rfl rfl rfl (aB (aC (aD ?_)))))
 refine aX rfl (fun h25 => ?_) (fun h25 => ?_)
 ·obtain ⟨xb, hxb⟩ := cL (xs := xs) (k := k) hlen (by omega)
  have hxm := List.mem_of_getElem? hxb
  have hsb := aUg hs hb hcs hclen hmc hxm
  have hvb := (hb xb hxm).v
  have hlx := dX (xb.vx + fJ xs cs (·.nx) xb) (l := 16777216) (by decide)
  have hly := dX (xb.vy + fJ xs cs (·.ny) xb) (l := 16777216) (by decide)
  refine aL (aC (aD (aT (aD (aA (aV rfl rfl (wq (bX (k) eX rfl rfl rfl ((R.mem hM3).below_len (aJ aF hxb)) ((R.mem hM3).someK (aJ aF hxb))) rfl (wq (eB _ bL (R.mem hM3) (aJ aF hxb) rfl) rfl (aQ fQ hM3 rfl rfl (fun b4 w4 M4 => (bI rfl rfl ?_)))))))))))
  refine bB 3 _ bL M4 rfl rfl rfl rfl rfl (aP rfl) rfl (fun w5 M5 => (aB (aC (aD (bV [(0, 0), (1, 0), (2, 1), (3, 0), (4, 0), (5, 0), (6, 1), (7, 1), (8, 0), (9, 2), (10, 0), (11, 0), (12, 0), (13, 0), (14, 0)] mixed rfl (by kernel_rfl) (fun w6 hb6 hh6 => ?_))))))
  have M6 := M5.drew hb6 hh6
  refine aZ rfl rfl rfl (fun _ => aE 8 fD rfl) (aZ rfl rfl rfl (fun _ => aE 0 dP rfl) (cB rfl rfl rfl (aM 3 (.int _ _) aU M6 rfl rfl rfl) (aZ rfl rfl rfl (fun _ => bR fK Tryz.underlying2 rfl (kB _ (by omega) (by omega))) (DmS rfl rfl rfl (iB rfl rfl rfl ?_)))))
  refine cB rfl rfl rfl (bX (k) lN rfl rfl rfl ((hrx.rd M6 (bC (i := 0) rfl)).below_len (aJ bW (aJ _ hxb))) ((hrx.rd M6 (bC (i := 0) rfl)).someK (aJ bW (aJ _ hxb)))) (cB rfl rfl rfl (iN (.int _ _) kR (hrx.rd M6 (bC (i := 0) rfl)) (aJ bW (aJ _ hxb)) rfl) ?_)
  refine aZ rfl rfl rfl (fun _ => bM rfl rfl (by omega) (by omega)) (dR [true, true, true] rfl (by kernel_rfl) (bY aJm rfl rfl (xD _ (xb.vx + fJ xs cs (·.nx) xb) 16777216 ⟨by decide, by decide⟩) ?_))
  rintro v7 w7 ⟨rfl, hb7⟩
  have M7 := M6.callB hb7
  refine aB (aC ⟨dS, ?_⟩)
  refine aZ rfl rfl rfl (fun _ => aG (.tuple (List.toArray _)) rfl) (aZ rfl rfl rfl (fun _ => bE (.int _ _) rfl rfl) (aZ rfl rfl rfl (fun _ => bE (.bool (decide _)) rfl rfl) (pP rfl rfl rfl (aZ rfl rfl rfl (fun _ => aI (.bool (decide _)) rfl) (cG ?_)))))
  refine aC (aD (bV [(0, 0), (1, 0), (2, 1), (3, 0), (4, 0), (5, 0), (6, 1), (7, 1), (8, 0), (9, 2), (10, 0), (11, 0), (12, 0), (13, 0), (14, 0)] mixed rfl (by kernel_rfl) (fun w8 hb8 hh8 => ?_)))
  have M8 := M7.drew hb8 hh8
  refine aZ rfl rfl rfl (fun _ => aE 8 fD rfl) (aZ rfl rfl rfl (fun _ => aE 1 dJ rfl) (cB rfl rfl rfl (aM 3 (.int _ _) aU M8 rfl rfl rfl) (aZ rfl rfl rfl (fun _ => bR fK Tryz.underlying2 rfl (kB _ (by omega) (by omega))) (DmS rfl rfl rfl (iB rfl rfl rfl ?_)))))
  refine cB rfl rfl rfl (bX (k) lN rfl rfl rfl ((hry.rd M8 (bC (i := 1) rfl)).below_len (aJ bW (aJ _ hxb))) ((hry.rd M8 (bC (i := 1) rfl)).someK (aJ bW (aJ _ hxb)))) (cB rfl rfl rfl (iN (.int _ _) kR (hry.rd M8 (bC (i := 1) rfl)) (aJ bW (aJ _ hxb)) rfl) ?_)
  refine aZ rfl rfl rfl (fun _ => bM rfl rfl (by omega) (by omega)) (dR [true, true, true] rfl (by kernel_rfl) (bY aJm rfl rfl (xD _ (xb.vy + fJ xs cs (·.ny) xb) 16777216 ⟨by decide, by decide⟩) ?_))
  rintro v9 w9 ⟨rfl, hb9⟩
  have M9 := M8.callB hb9
  refine aB (aC ⟨dS, ?_⟩)
  refine aZ rfl rfl rfl (fun _ => aG (.tuple (List.toArray _)) rfl) (aZ rfl rfl rfl (fun _ => bE (.int _ _) rfl rfl) (aZ rfl rfl rfl (fun _ => bE (.bool (decide _)) rfl rfl) (pP rfl rfl rfl (aZ rfl rfl rfl (fun _ => aI (.bool (decide _)) rfl) (cG ?_)))))
  refine aC (aD (aA (aV rfl rfl (wq (bR us2 Tryz.underlying21 rfl (lH _ (by omega) (by omega))) rfl (aV rfl rfl (wq (bR us2 Tryz.underlying21 rfl (lH _ (by omega) (by omega))) rfl (wq (cI [(0, .int _ _), (1, .int _ _)] _ eL rfl rfl) rfl ?_)))))))
  refine wq (aE 8 fD rfl) rfl (yN 3 _ bH M9 rfl rfl rfl rfl rfl (aP rfl) (Nat.le_of_ble_eq_true rfl) (fun w10 M10 => (aB (aC (aD (aA (wq (aG (.bool _) rfl) rfl (wq (aG (.bool _) rfl) rfl ?_))))))))
  refine mH 62 _ rfl (fun g62 => ?_) (fun g62 => ?_)
  ·refine aR rfl rfl (wq (bN true (.bool true) rfl rfl) rfl (wq (aG (.bool true) rfl) rfl (aR rfl rfl (wq (bN true (.bool true) rfl rfl) rfl (wq (aI (.bool true) rfl) rfl ?_)))))
   refine aB (aC (aA (eK rfl rfl (wq (aY 3 bL M10 rfl rfl rfl) rfl (cY [.agg (List.toArray _)] [aF (aFz xs cs xb)] rfl eX M10 rfl rfl rfl rfl (dG rfl) (by decide) (fun b11 w11 M11 => (eG 2 [aF (aFz xs cs xb)] eX M11 rfl rfl rfl rfl rfl hq rfl (by simp [aF, Go.Bil.one]) (dA.ofMem 4 M11 rfl) (by omega) (fun A12 c12 e12 w12 M12 hR12 => ?_))))))))
   refine fZ rfl rfl (aB (cV (aC (aA (wq (bM rfl rfl (by omega) (by omega)) rfl (aV rfl rfl ?_))))))
   refine aB ?_
   refine cQ (k + 1, ⟨A12, q.n + 1, c12, e12⟩) (bK (bv rfl (by rw [cT hxb, List.any_append, List.any_cons, List.any_nil, Bool.or_false]; rw [g62, Bool.true_or])) (bK rfl (bK rfl fC))) (cU rfl (cU rfl (cU rfl (cU rfl (cU rfl (cU rfl kE)))))) ?_ ?_
   ·exact ⟨⟨by omega, by rw [cT hxb, List.map_append, List.map_append]; exact hR12⟩, M12.keep [true, true, true, false, false]⟩
   ·(show n - (k + 1) < n - k; omega)
  ·refine wq (aG (.bool (decide _)) rfl) rfl (wq (bN false (.bool (decide _)) rfl rfl) rfl (wq (aG (.bool (decide _)) rfl) rfl ?_))
   refine dE 65 rfl (fun g65 => ?_) (fun g65 => ?_)
   ·refine aR rfl rfl (wq (bN true (.bool true) rfl rfl) rfl (wq (aI (.bool true) rfl) rfl (aB (aC (aA (eK rfl rfl (wq (aY 3 bL M10 rfl rfl rfl) rfl ?_)))))))
    refine cY [.agg (List.toArray _)] [aF (aFz xs cs xb)] rfl eX M10 rfl rfl rfl rfl (dG rfl) (by decide) (fun b13 w13 M13 => (eG 2 [aF (aFz xs cs xb)] eX M13 rfl rfl rfl rfl rfl hq rfl (by simp [aF, Go.Bil.one]) (dA.ofMem 4 M13 rfl) (by omega) (fun A14 c14 e14 w14 M14 hR14 => ?_)))
    refine fZ rfl rfl (aB (cV (aC (aA (wq (bM rfl rfl (by omega) (by omega)) rfl (aV rfl rfl ?_))))))
    refine aB ?_
    refine cQ (k + 1, ⟨A14, q.n + 1, c14, e14⟩) (bK (bv rfl (by rw [cT hxb, List.any_append, List.any_cons, List.any_nil, Bool.or_false]; rw [g62]; simp [aVh, g65])) (bK rfl (bK rfl fC))) (cU rfl (cU rfl (cU rfl (cU rfl (cU rfl (cU rfl kE)))))) ?_ ?_
    ·exact ⟨⟨by omega, by rw [cT hxb, List.map_append, List.map_append]; exact hR14⟩, M14.keep [true, true, true, false, false]⟩
    ·(show n - (k + 1) < n - k; omega)
   ·refine wq (aG (.bool (decide _)) rfl) rfl (wq (bN false (.bool (decide _)) rfl rfl) rfl (wq (aI (.bool (decide _)) rfl) rfl (aB (aC (aA (eK rfl rfl (wq (aY 3 bL M10 rfl rfl rfl) rfl ?_)))))))
    refine cY [.agg (List.toArray _)] [aF (aFz xs cs xb)] rfl eX M10 rfl rfl rfl rfl (dG rfl) (by decide) (fun b15 w15 M15 => (eG 2 [aF (aFz xs cs xb)] eX M15 rfl rfl rfl rfl rfl hq rfl (by simp [aF, Go.Bil.one]) (dA.ofMem 4 M15 rfl) (by omega) (fun A16 c16 e16 w16 M16 hR16 => ?_)))
    refine fZ rfl rfl (aB (cV (aC (aA (wq (bM rfl rfl (by omega) (by omega)) rfl (aV rfl rfl ?_))))))
    refine aB ?_
    refine cQ (k + 1, ⟨A16, q.n + 1, c16, e16⟩) (bK (bv rfl (by rw [cT hxb, List.any_append, List.any_cons, List.any_nil, Bool.or_false]; rw [g62]; simp [aVh, g65])) (bK rfl (bK rfl fC))) (cU rfl (cU rfl (cU rfl (cU rfl (cU rfl (cU rfl kE)))))) ?_ ?_
    ·exact ⟨⟨by omega, by rw [cT hxb, List.map_append, List.map_append]; exact hR16⟩, M16.keep [true, true, true, false, false]⟩
    ·(show n - (k + 1) < n - k; omega)
 ·have hkn : k = n := by omega
  rw [List.take_of_length_le (by omega)] at hq
  refine cN (dB (cZ (eZ (aC (aD (aA (eK rfl rfl ?_)))))))
  refine wq (aG (.bool _) rfl) rfl (fZ rfl rfl (wq (aI (.bool _) rfl) rfl (aB (aC (aN (gV (.slice _ _ _) (.bool _) rfl rfl ?_))))))
  exact ⟨q, yW rfl (congrArg Value.bool (by rw [List.take_of_length_le (by omega)]; rfl)), hq, hM3.keep [false, false, true]⟩
set_option maxHeartbeats 4000000 in
theorem aLz (w : World) (A : Option Addr) (n c : Nat) (xs : List Body) (R : Rd w 10 A n (xs.map aF)) (hs : bS xs) (hb : ∀ b ∈ xs, Okb b) (hn : n ≤ 1048576) (B : Option Addr) (mc c' : Nat) (cs : List Con) (R' : Rd w 5 B mc (cs.map cF)) (hcs : ∀ c ∈ cs, OkC xs c) (hmc : mc ≤ 8589934592) :
  Calls Tryz.prog 73 #[.slice A n c, .slice B mc c'] w (fun ex w' => ∃ v, ex = .returned v ∧ (fun v w' => ∃ r : Row, v = .tuple #[.slice r.A r.n r.c, .bool (gM xs cs 4).2] ∧ aW 40 10 r.A r.n r.c (((gM xs cs 4).1).map aF) r.e ∧ Mem w [] [r.e] w') v w') := by
 have hlen : xs.length = n := by simpa using R.len
 have hbd := R.bound
 have hclen : cs.length = mc := by simpa using R'.len
 have hbd' := R'.bound
 refine aH #[.tmp 4, .tmp 5] 25 Tryz.func73 rfl Tryz.results73 Tryz.ntmps73 rfl ?_
 have M0 := Mem.refl w
 refine aD (aA (fZ rfl rfl (wq (aI (.bool false) rfl) rfl (aB (aC (aD (aA (wq (aI (.bool false) rfl) rfl ?_))))))))
 have M1 := M0.dummy default
 refine aB (aC (aD (aD (aA (aV rfl rfl (aB (aC (aT (dN (σ := Nat × Row) [1, 4, 5] (fun (k, q) => [(0, .slice q.A q.n q.c), (6, .bool (gM xs cs k).2), (9, .int .i64 (k : Int))]) (fun (k, q) w' => (k ≤ 4 ∧ Rd w' 10 q.A q.n ((gM xs cs k).1.map aF) ∧ (0 < k → aW 40 10 q.A q.n q.c (((gM xs cs k).1).map aF) q.e)) ∧ Mem w [] [q.e] w') (fun (k, q) => 4 - k) (0, ⟨A, n, c, (none, default)⟩) (bK rfl (bK (bv rfl rfl) (bK rfl fC))) (⟨⟨by omega, R.mem M1, (fun h => absurd h (by omega))⟩, M1⟩) ?_)))))))))
 rintro ⟨k, q⟩ ρ2 w2 ⟨⟨hk, hRq, hq⟩, hM2⟩
 have hql : (gM xs cs k).1.length = q.n := by simpa using hRq.len
 have hsl := (jH xs cs k).len
 refine aD (aA (cS rfl rfl rfl rfl (aB (aC (aD ?_)))))
 refine aX rfl (fun h10 => ?_) (fun h10 => ?_)
 ·refine aL (aC (aD (aT (aD (aA (eK rfl rfl (eK rfl rfl (bY bBw rfl rfl (aOm _ q.A q.n q.c (gM xs cs k).1 hRq ((jH xs cs k).sorted hs) (qZ hb k) (by omega) B mc c' cs (R'.mem hM2) (fun c h => (jH xs cs k).okc (hcs c h)) hmc) ?_))))))))
  rintro v3 w3 ⟨r, rfl, hr, hM3⟩
  have M3 : Mem _ _ [_, _] _ := hM2.call0 hM3
  refine wq (aG (.tuple (List.toArray _)) rfl) rfl (wq (bE (.slice _ _ _) rfl rfl) rfl (wq (bE (.bool _) rfl rfl) rfl (fZ rfl rfl (wq (aI (.bool _) rfl) rfl (aB (aC (aA ?_)))))))
  refine eK rfl rfl (wq (aG (.bool _) rfl) rfl (wq (aG (.bool _) rfl) rfl ?_))
  refine mH 19 _ rfl (fun g19 => ?_) (fun g19 => ?_)
  ·refine aR rfl rfl (wq (bN true (.bool true) rfl rfl) rfl (fZ rfl rfl (wq (aI (.bool true) rfl) rfl (aB (cV ?_)))))
   refine aC (aA (wq (bM rfl rfl (by omega) (by omega)) rfl (aV rfl rfl (aB ?_))))
   refine cQ (k + 1, r) (bK rfl (bK (bv rfl (by show true = (_ || _); rw [g19, Bool.true_or])) (bK rfl fC))) (cU rfl (cU rfl (cU rfl kE))) ?_ ?_
   ·exact ⟨⟨by omega, hr.rd M3 (bC (i := 1) rfl), (fun _ => hr)⟩, M3.keep [false, true]⟩
   ·(show 4 - (k + 1) < 4 - k; omega)
  ·refine wq (aG (.bool _) rfl) rfl (wq (bN false (.bool _) rfl rfl) rfl (fZ rfl rfl (wq (aI (.bool _) rfl) rfl (aB (cV ?_)))))
   refine aC (aA (wq (bM rfl rfl (by omega) (by omega)) rfl (aV rfl rfl (aB ?_))))
   refine cQ (k + 1, r) (bK rfl (bK (bv rfl (by show _ = (_ || _); rw [g19, Bool.false_or])) (bK rfl fC))) (cU rfl (cU rfl (cU rfl kE))) ?_ ?_
   ·exact ⟨⟨by omega, hr.rd M3 (bC (i := 1) rfl), (fun _ => hr)⟩, M3.keep [false, true]⟩
   ·(show 4 - (k + 1) < 4 - k; omega)
 ·have hk4 : k = 4 := by omega
  rw [hk4] at hq
  refine cN (dB (cZ (eZ (aC (aD (aA (eK rfl rfl ?_)))))))
  refine wq (aG (.bool _) rfl) rfl (fZ rfl rfl (wq (aI (.bool _) rfl) rfl (aB (aC (aN (gV (.slice _ _ _) (.bool _) rfl rfl ?_))))))
  exact ⟨q, yW rfl (congrArg Value.bool (by rw [hk4])), hq (by omega), hM2⟩
set_option maxHeartbeats 4000000 in
theorem yT (w : World) (c : Con) (a b : Body) (hc : Okn c) (ha : Okb a) (hb : Okb b) :
  Calls Tryz.prog 142 #[.agg (cF c).toArray, (.agg (aF a).toArray), (.agg (aF b).toArray)] w (fun ex w' => ∃ v, ex = .returned v ∧ (fun v w' => v = .int .i64 (oT c a b) ∧ Below w.heap.size w w') v w') := by
 have hdp := hc.d
 have hm1 := ha.m
 have hm2 := hb.m
 refine aH #[.tmp 6] 27 Tryz.func142 rfl Tryz.results142 Tryz.ntmps142 rfl ?_
 have M0 := Mem.refl w
 refine aD (aA (bJ (.agg (List.toArray _)) M0 rfl rfl rfl (fun b1 w1 M1 => (bJ (.agg (List.toArray _)) M1 rfl rfl rfl (fun b2 w2 M2 => (bJ (.agg (List.toArray _)) M2 rfl rfl rfl (fun b3 w3 M3 => (bI rfl rfl (aB (aC (aD (aA ?_))))))))))))
 refine wq (aE 4 aQz rfl) rfl (wq (aM 0 (.int _ _) aU M3 rfl rfl rfl) rfl (wq (bR fK Tryz.underlying2 rfl (kB _ (by omega) (by omega))) rfl (wq (mF rfl rfl (by omega) (by omega)) rfl (bI rfl rfl (aB (aC (aD (aD (aA ?_)))))))))
 refine aV rfl rfl (cS rfl rfl rfl rfl (wq (aG (.bool (decide _)) rfl) rfl ?_))
 refine dE 14 rfl (fun g14 => ?_) (fun g14 => ?_)
 ·refine aR rfl rfl (aR rfl rfl (aR rfl rfl (aR rfl rfl (aR rfl rfl (aR rfl rfl ?_)))))
  refine aR rfl rfl (aR rfl rfl (wq (bN true (.bool true) rfl rfl) rfl (aB (aC (cO rfl (aD (aA ?_)))))))
  refine bI rfl rfl (aB (aC (aN (cH (cA (.int _ _) rfl ?_)))))
  exact ⟨iE (by unfold oT; rw [if_pos (by omega)]), M3.below⟩
 ·refine wq (aE 4 fE rfl) rfl (wq (aM 1 (.int _ _) aU M3 rfl rfl rfl) rfl (cS rfl rfl rfl rfl (wq (aG (.bool (decide _)) rfl) rfl ?_)))
  refine dE 18 rfl (fun g18 => ?_) (fun g18 => ?_)
  ·refine wq (aE 4 fE rfl) rfl (wq (aM 2 (.int _ _) aU M3 rfl rfl rfl) rfl (cS rfl rfl rfl rfl (wq (bN true (.bool (decide _)) rfl rfl) rfl (wq (bN false (.bool (decide _)) rfl rfl) rfl (aB (aC ?_))))))
   refine aX rfl (fun h23 => ?_) (fun h23 => ?_)
   ·refine aD (aA (bI rfl rfl (aB (aC (aN (cH (cA (.int _ _) rfl ?_)))))))
    exact ⟨iE (by unfold oT; rw [if_pos (by omega)]), M3.below⟩
   ·refine aL (aC (aD (aA (aV rfl rfl (wq (fS rfl rfl (by omega) (by omega)) rfl (wq (gB rfl rfl (by decide)) rfl (bI rfl rfl (aB (aC (aN ?_))))))))))
    refine cA (.int _ _) rfl ?_
    exact ⟨iE (by unfold oT; rw [if_neg (by omega)]; exact lT _), M3.below⟩
  ·refine aR rfl rfl (aR rfl rfl (aR rfl rfl (wq (bN false (.bool false) rfl rfl) rfl (wq (bN false (.bool false) rfl rfl) rfl (aB (aC ?_))))))
   refine cC rfl (aL (aC (aD (aA (aV rfl rfl (wq (fS rfl rfl (by omega) (by omega)) rfl (wq (gB rfl rfl (by decide)) rfl (bI rfl rfl ?_))))))))
   refine aB (aC (aN (cA (.int _ _) rfl ?_)))
   exact ⟨iE (by unfold oT; rw [if_neg (by omega)]; exact lT _), M3.below⟩
set_option maxHeartbeats 4000000 in
theorem aBg (w : World) (c : Con) (a b : Body) (hc : Okn c) (ha : Okb a) (hb : Okb b) (hi : Bool) :
  Calls Tryz.prog 111 #[.agg (cF c).toArray, (.agg (aF a).toArray), (.agg (aF b).toArray), .bool hi] w (fun ex w' => ∃ v, ex = .returned v ∧ (fun v w' => v = .int .i64 (nS c a b (if hi = true then b.mass else a.mass)) ∧ Below w.heap.size w w') v w') := by
 have hdp := hc.d
 have hm1 := ha.m
 have hm2 := hb.m
 have hm0 : 0 ≤ (if hi = true then b.mass else a.mass) ∧ (if hi = true then b.mass else a.mass) ≤ 1048576 := by split <;> omega
 have hsr := aUq (a := a) (b := b) hc hm0
 have har := aBx (a := a) (b := b) hc
 refine aH #[.tmp 8] 36 Tryz.func111 rfl Tryz.results111 Tryz.ntmps111 rfl ?_
 have M0 := Mem.refl w
 refine aD (aA (bJ (.agg (List.toArray _)) M0 rfl rfl rfl (fun b1 w1 M1 => (bJ (.agg (List.toArray _)) M1 rfl rfl rfl (fun b2 w2 M2 => (bJ (.agg (List.toArray _)) M2 rfl rfl rfl (fun b3 w3 M3 => (bI rfl rfl (aB (aC (aD (aA ?_))))))))))))
 refine wq (aE 4 fE rfl) rfl (wq (aM 1 (.int _ _) aU M3 rfl rfl rfl) rfl (bI rfl rfl (aB (aC (aD (aD (aA (wq (aG (.bool _) rfl) rfl (aB (aC ?_))))))))))
 refine gJ _ rfl (fun h14 => ?_) (fun h14 => ?_)
 ·refine aA (wq (aE 4 fE rfl) rfl (wq (aM 2 (.int _ _) aU M3 rfl rfl rfl) rfl (bI rfl rfl (aB (aC (aD (bV [(0, 1), (1, 1), (2, 1), (4, 0), (5, 0), (6, 0), (7, 1), (8, 0), (9, 0), (10, 1), (11, 0), (12, 0), (13, 0), (3, 2), (14, 2), (15, 0), (16, 0), (17, 0), (18, 0), (19, 0)] mixed rfl (by kernel_rfl) (fun w4 hb4 hh4 => ?_))))))))
  have M4 := M3.drew hb4 hh4
  refine cB rfl rfl rfl (aY 0 gA M4 rfl rfl rfl) (cB rfl rfl rfl (aY 1 bL M4 rfl rfl rfl) (cB rfl rfl rfl (aY 2 bL M4 rfl rfl rfl) (iB rfl rfl rfl (aZ rfl rfl rfl (fun _ => bR fK Tryz.underlying2 rfl (kB _ (by omega) (by omega))) (iH 23 (.int .i64 (if hi = true then b.mass else a.mass)) (iE (by rw [h14]; rfl)) ?_)))))
  refine aZ rfl rfl rfl (fun _ => aE 4 fE rfl) (cB rfl rfl rfl (aM 1 (.int _ _) aU M4 rfl rfl rfl) (aZ rfl rfl rfl (fun _ => bR fK Tryz.underlying2 rfl (kB _ (by omega) (by omega))) (aZ rfl rfl rfl (fun _ => aE 4 fE rfl) (cB rfl rfl rfl (aM 2 (.int _ _) aU M4 rfl rfl rfl) ?_))))
  refine aZ rfl rfl rfl (fun _ => bR fK Tryz.underlying2 rfl (kB _ (by omega) (by omega))) (aZ rfl rfl rfl (fun _ => bM rfl rfl (by omega) (by omega)) (aZ rfl rfl rfl (fun _ => mY rfl rfl ) (dR [false, false, true, true, true] rfl (by kernel_rfl) (bY aOx rfl rfl (yT _ c a b hc ha hb) ?_))))
  rintro v5 w5 ⟨rfl, hb5⟩
  have M5 := M4.callB hb5
  refine aB (aC ⟨(eQ (bP rfl (aM 2 (.int _ _) aU M5 rfl rfl rfl)) (eQ (bP rfl (aM 1 (.int _ _) aU M5 rfl rfl rfl)) dS)), ?_⟩)
  refine dR [true, true] rfl (by kernel_rfl) (bY aCp rfl rfl (aBt _ (oT c a b) (if hi = true then b.mass else a.mass) (max 1 (a.mass + b.mass)) (by omega) hm0.1 (by omega) (by omega) (by omega) (by omega) (by omega)) ?_)
  rintro v6 w6 ⟨rfl, hb6⟩
  have M6 := M5.callB hb6
  refine aB (aC ⟨dS, ?_⟩)
  refine aZ rfl rfl rfl (fun _ => aG (.tuple (List.toArray _)) rfl) (aZ rfl rfl rfl (fun _ => bE (.int _ _) rfl rfl) (aZ rfl rfl rfl (fun _ => bE (.int _ _) rfl rfl) (pP rfl rfl rfl (pP rfl rfl rfl (cG ?_)))))
  refine aC (aD (aA (aV rfl rfl (bI rfl rfl (aB (aC (aN (cA (.int _ _) rfl ?_))))))))
  exact ⟨rfl, M6.below⟩
 ·refine aL (aC (aD (bV [(0, 1), (1, 1), (2, 1), (4, 0), (5, 0), (6, 0), (7, 1), (8, 0), (9, 0), (10, 1), (11, 0), (12, 0), (13, 0), (3, 2), (14, 2), (15, 0), (16, 0), (17, 0), (18, 0), (19, 0)] mixed rfl (by kernel_rfl) (fun w7 hb7 hh7 => ?_))))
  have M7 := M3.drew hb7 hh7
  refine cB rfl rfl rfl (aY 0 gA M7 rfl rfl rfl) (cB rfl rfl rfl (aY 1 bL M7 rfl rfl rfl) (cB rfl rfl rfl (aY 2 bL M7 rfl rfl rfl) (iB rfl rfl rfl (aZ rfl rfl rfl (fun _ => bR fK Tryz.underlying2 rfl (kB _ (by omega) (by omega))) (iH 23 (.int .i64 (if hi = true then b.mass else a.mass)) (iE (by rw [h14]; rfl)) ?_)))))
  refine aZ rfl rfl rfl (fun _ => aE 4 fE rfl) (cB rfl rfl rfl (aM 1 (.int _ _) aU M7 rfl rfl rfl) (aZ rfl rfl rfl (fun _ => bR fK Tryz.underlying2 rfl (kB _ (by omega) (by omega))) (aZ rfl rfl rfl (fun _ => aE 4 fE rfl) (cB rfl rfl rfl (aM 2 (.int _ _) aU M7 rfl rfl rfl) ?_))))
  refine aZ rfl rfl rfl (fun _ => bR fK Tryz.underlying2 rfl (kB _ (by omega) (by omega))) (aZ rfl rfl rfl (fun _ => bM rfl rfl (by omega) (by omega)) (aZ rfl rfl rfl (fun _ => mY rfl rfl ) (dR [false, false, true, true, true] rfl (by kernel_rfl) (bY aOx rfl rfl (yT _ c a b hc ha hb) ?_))))
  rintro v8 w8 ⟨rfl, hb8⟩
  have M8 := M7.callB hb8
  refine aB (aC ⟨(eQ (bP rfl (aM 2 (.int _ _) aU M8 rfl rfl rfl)) (eQ (bP rfl (aM 1 (.int _ _) aU M8 rfl rfl rfl)) dS)), ?_⟩)
  refine dR [true, true] rfl (by kernel_rfl) (bY aCp rfl rfl (aBt _ (oT c a b) (if hi = true then b.mass else a.mass) (max 1 (a.mass + b.mass)) (by omega) hm0.1 (by omega) (by omega) (by omega) (by omega) (by omega)) ?_)
  rintro v9 w9 ⟨rfl, hb9⟩
  have M9 := M8.callB hb9
  refine aB (aC ⟨dS, ?_⟩)
  refine aZ rfl rfl rfl (fun _ => aG (.tuple (List.toArray _)) rfl) (aZ rfl rfl rfl (fun _ => bE (.int _ _) rfl rfl) (aZ rfl rfl rfl (fun _ => bE (.int _ _) rfl rfl) (pP rfl rfl rfl (pP rfl rfl rfl (cG ?_)))))
  refine aC (aD (aA (aV rfl rfl (bI rfl rfl (aB (aC (aN (cA (.int _ _) rfl ?_))))))))
  exact ⟨rfl, M9.below⟩
set_option maxHeartbeats 4000000 in
theorem xR (w : World) (bo bk : Nat) (cn : Con) (q : Row) (l : List (Int × Int)) (hq : aW 135 2 q.A q.n q.c ((l).map cE) q.e) (p : Nat) (s z : Int) (f : Int × Int) (hp : l[p]? = some f) (hs : 0 ≤ s ∧ s ≤ 1073741824) (hz : z = 1 ∨ z = -1) (hc : Okn cn) (hf : (-1152921504606846976 ≤ f.1 ∧ f.1 ≤ 1152921504606846976) ∧ -1152921504606846976 ≤ f.2 ∧ f.2 ≤ 1152921504606846976) (hO : Own [(some bo, bc [.slice q.A q.n q.c] 97), q.e, (some bk, bc (cF cn) 121)] w) :
  Calls Tryz.prog 110 #[.int .i64 (p : Int), .int .i64 s, .int .i64 z, .pointer (some ⟨bo, 0, none⟩), .pointer (some ⟨bk, 0, none⟩)] w (fun ex w' => ∃ v, ex = .returned v ∧ (fun v w' => v = .tuple #[] ∧ ∃ e : dL, aW 135 2 q.A q.n q.c ((l.set p (aDy s z cn f)).map cE) e ∧ Mem w (bQ [(some bo, bc [.slice q.A q.n q.c] 97), q.e, (some bk, bc (cF cn) 121)]) [(some bo, bc [.slice q.A q.n q.c] 97), e, (some bk, bc (cF cn) 121)] w') v w') := by
 have hcx := hc.x
 have hcy := hc.y
 have hl : l.length = q.n := by simpa using hq.1
 have hpl := (List.getElem?_eq_some_iff.1 hp).1
 have r1 := pG hs hc.x
 have r2 := pG hs hc.y
 have hp2 : (l.set p (f.1 + z * (s * cn.nx / 65536), f.2))[p]? = some (f.1 + z * (s * cn.nx / 65536), f.2) := by rw [List.getElem?_set_self hpl]
 have z1 : -1073741824 ≤ z * (s * cn.nx / 65536) ∧ z * (s * cn.nx / 65536) ≤ 1073741824 := by rcases hz with rfl | rfl <;> omega
 have z2 : -1073741824 ≤ z * (s * cn.ny / 65536) ∧ z * (s * cn.ny / 65536) ≤ 1073741824 := by rcases hz with rfl | rfl <;> omega
 refine aH #[] 42 Tryz.func110 rfl Tryz.results110 Tryz.ntmps110 rfl ?_
 have M0 := hO.mem
 refine aD (bV [(0, 1), (1, 0), (2, 1), (3, 1), (4, 1), (5, 0), (6, 0), (7, 0), (8, 0), (9, 1), (10, 0), (11, 0), (12, 0), (13, 0), (14, 0), (15, 1), (16, 1), (17, 2)] mixed rfl (by kernel_rfl) (fun w1 hb1 hh1 => ?_))
 have M1 := M0.drew hb1 hh1
 refine cB rfl rfl rfl (aM 0 (.slice _ _ _) aBd M1 rfl rfl rfl) (iB rfl rfl rfl (cB rfl rfl rfl (bX (p) aHl rfl rfl rfl ((hq.rd M1 (bC (i := 1) rfl)).below_len (aJ cE hp)) ((hq.rd M1 (bC (i := 1) rfl)).someK (aJ cE hp))) (cB rfl rfl rfl (bO 0 xT (hq.rd M1 (bC (i := 1) rfl)) (Nat.lt_of_le_of_lt (Nat.zero_le _) ((hq.rd M1 (bC (i := 1) rfl)).below_len (aJ cE hp))) rfl) ?_)))
 refine cB rfl rfl rfl (eH (o := 0) (.int _ _) kR (hq.rd M1 (bC (i := 1) rfl)) (aJ cE hp) rfl rfl) (iB rfl rfl rfl (iB rfl rfl rfl (aZ rfl rfl rfl (fun _ => aE 2 mP rfl) (aZ rfl rfl rfl (fun _ => aE 0 dP rfl) (cB rfl rfl rfl (aM 2 (.int _ _) aU M1 rfl rfl rfl) ?_)))))
 refine aZ rfl rfl rfl (fun _ => bR fK Tryz.underlying2 rfl (kB _ (by omega) (by omega))) (aZ rfl rfl rfl (fun _ => fS rfl rfl (by omega) (by omega)) (aZ rfl rfl rfl (fun _ => gB rfl rfl (by decide)) (iH 20 (.int .i64 (s * cn.nx / 65536)) (iE (lT _)) (aZ rfl rfl rfl (fun _ => fS rfl rfl (by omega) (by omega)) ?_))))
 refine aZ rfl rfl rfl (fun _ => bM rfl rfl (by omega) (by omega)) (cB rfl rfl rfl (bX (p) aHl rfl rfl rfl ((hq.rd M1 (bC (i := 1) rfl)).below_len (aJ cE hp)) ((hq.rd M1 (bC (i := 1) rfl)).someK (aJ cE hp))) (cB rfl rfl rfl (bO 0 xT (hq.rd M1 (bC (i := 1) rfl)) (Nat.lt_of_le_of_lt (Nat.zero_le _) ((hq.rd M1 (bC (i := 1) rfl)).below_len (aJ cE hp))) rfl) ?_))
 refine dR [true, true, true, true, true, true, true] rfl (by kernel_rfl) (aDf (o := 0) 1 (.int _ _) kR M1 rfl hq (aJ cE hp) rfl rfl rfl rfl rfl (fun e2 w2 hR2 M2 => ?_))
 have hQ2 := hR2.mapSet (f := cE) (x := (f.1 + z * (s * cn.nx / 65536), f.2)) rfl
 refine aB (aC ⟨dS, ?_⟩)
 refine cG (aC (bV [(0, 1), (1, 0), (2, 1), (3, 1), (4, 1), (5, 0), (6, 0), (7, 0), (8, 0), (9, 1), (10, 0), (11, 0), (12, 0), (13, 0), (14, 0), (15, 1), (16, 1), (17, 2)] mixed rfl (by kernel_rfl) (fun w3 hb3 hh3 => ?_)))
 have M3 := M2.drew hb3 hh3
 refine cB rfl rfl rfl (aM 0 (.slice _ _ _) aBd M3 rfl rfl rfl) (iB rfl rfl rfl (cB rfl rfl rfl (bX (p) aHl rfl rfl rfl ((hQ2.rd M3 (bC (i := 1) rfl)).below_len (aJ cE hp2)) ((hQ2.rd M3 (bC (i := 1) rfl)).someK (aJ cE hp2))) (cB rfl rfl rfl (bO 1 wX (hQ2.rd M3 (bC (i := 1) rfl)) (Nat.lt_of_le_of_lt (Nat.zero_le _) ((hQ2.rd M3 (bC (i := 1) rfl)).below_len (aJ cE hp2))) rfl) ?_)))
 refine cB rfl rfl rfl (eH (o := 1) (.int _ _) kR (hQ2.rd M3 (bC (i := 1) rfl)) (aJ cE hp2) rfl rfl) (iB rfl rfl rfl (iB rfl rfl rfl (aZ rfl rfl rfl (fun _ => aE 2 mP rfl) (aZ rfl rfl rfl (fun _ => aE 1 dJ rfl) (cB rfl rfl rfl (aM 2 (.int _ _) aU M3 rfl rfl rfl) ?_)))))
 refine aZ rfl rfl rfl (fun _ => bR fK Tryz.underlying2 rfl (kB _ (by omega) (by omega))) (aZ rfl rfl rfl (fun _ => fS rfl rfl (by omega) (by omega)) (aZ rfl rfl rfl (fun _ => gB rfl rfl (by decide)) (iH 37 (.int .i64 (s * cn.ny / 65536)) (iE (lT _)) (aZ rfl rfl rfl (fun _ => fS rfl rfl (by omega) (by omega)) ?_))))
 refine aZ rfl rfl rfl (fun _ => bM rfl rfl (by omega) (by omega)) (cB rfl rfl rfl (bX (p) aHl rfl rfl rfl ((hQ2.rd M3 (bC (i := 1) rfl)).below_len (aJ cE hp2)) ((hQ2.rd M3 (bC (i := 1) rfl)).someK (aJ cE hp2))) (cB rfl rfl rfl (bO 1 wX (hQ2.rd M3 (bC (i := 1) rfl)) (Nat.lt_of_le_of_lt (Nat.zero_le _) ((hQ2.rd M3 (bC (i := 1) rfl)).below_len (aJ cE hp2))) rfl) ?_))
 refine dR [true, true, true, true, true, true, true] rfl (by kernel_rfl) (aDf (o := 1) 1 (.int _ _) kR M3 rfl hQ2 (aJ cE hp2) rfl rfl rfl rfl rfl (fun e4 w4 hR4 M4 => ?_))
 have hQ4 := hR4.mapSet (f := cE) (x := aDy s z cn f) rfl
 rw [List.set_set] at hQ4
 refine aB (aC ⟨dS, ?_⟩)
 refine cG (iI ?_)
 exact ⟨rfl, e4, hQ4, M4⟩
theorem Mem.swap2 {w0 w : World} {X : List Nat} {a b : dL} (M : Mem w0 X [a, b] w) : Mem w0 X [b, a] w := M.perm (List.Perm.swap b a [])
theorem aCi {xs : List Body} {cs : List Con} {n : Nat} (hs : bS xs) (hb : ∀ b ∈ xs, Okb b) (hcs : ∀ c ∈ cs, OkC xs c) (hn : cs.length = n) (hl : n ≤ 1073741824) (k : Nat) {b : Body} (h : b ∈ xs) : (-1152921504606846976 ≤ (iJ xs (cs.take k) b).1 ∧ (iJ xs (cs.take k) b).1 ≤ 1152921504606846976) ∧ -1152921504606846976 ≤ (iJ xs (cs.take k) b).2 ∧ (iJ xs (cs.take k) b).2 ≤ 1152921504606846976 := by
 have ht : (cs.take k).length ≤ cs.length := by rw [List.length_take]; omega
 have h1 := aDv (cs := cs.take k) (g := (·.nx)) hs hb (fun c h => hcs c (List.mem_of_mem_take h)) (fun c h => (hcs c (List.mem_of_mem_take h)).n.x) h
 have h2 := aDv (cs := cs.take k) (g := (·.ny)) hs hb (fun c h => hcs c (List.mem_of_mem_take h)) (fun c h => (hcs c (List.mem_of_mem_take h)).n.y) h
 unfold iJ
 simp only
 omega
set_option maxHeartbeats 8000000 in
theorem aGx (w : World) (A : Option Addr) (n c : Nat) (xs : List Body) (R : Rd w 10 A n (xs.map aF)) (hs : bS xs) (hb : ∀ b ∈ xs, Okb b) (hn : n ≤ 1048576) (B : Option Addr) (mc c' : Nat) (cs : List Con) (R' : Rd w 5 B mc (cs.map cF)) (hcs : ∀ c ∈ cs, OkC xs c) (hmc : mc ≤ 1073741824) :
  Calls Tryz.prog 74 #[.slice A n c, .slice B mc c'] w (fun ex w' => ∃ v, ex = .returned v ∧ (fun v w' => ∃ r : Row, v = .slice r.A r.n r.c ∧ aW 135 2 r.A r.n r.c ((xs.map (iJ xs cs)).map cE) r.e ∧ Mem w [] [r.e] w') v w') := by
 have hlen : xs.length = n := by simpa using R.len
 have hbd := R.bound
 have hclen : cs.length = mc := by simpa using R'.len
 have hbd' := R'.bound
 have hz0 : List.replicate n ([.int .i64 0, .int .i64 0] : List Value) = (xs.map (iJ xs (cs.take 0))).map cE := by rw [aXj, aKs hlen ((0, 0) : Int × Int)]; exact congrArg (List.map cE) (List.map_congr_left (fun b _ => Prod.ext (aAs xs cs (·.nx) b).symm (aAs xs cs (·.ny) b).symm))
 refine aH #[.tmp 4] 67 Tryz.func74 rfl Tryz.results74 Tryz.ntmps74 rfl ?_
 have M0 := Mem.refl w
 refine aD (aA (fZ rfl rfl (aB (aC (aD (aA (eK rfl rfl (wq (cR Tryz.underlying22 rfl) rfl (iZ (n) [.int .i64 0, .int .i64 0] aHl aXe rfl M0 rfl rfl rfl rfl rfl rfl (by omega) (by omega) (fun b1 w1 M1 => ?_))))))))))
 have hL15 := jM (T := 135) (sz := 2) (b := b1) (nn := n) (List.replicate n [.int .i64 0, .int .i64 0]) (fun l hl => by rw [List.eq_of_mem_replicate hl]; rfl) (by simp) (by omega)
 rw [hz0] at hL15
 rw [hz0] at M1
 refine aQ bAm M1 rfl rfl (fun b2 w2 M2 => (dF 1 (.slice _ _ _) aBd M2 rfl rfl rfl rfl rfl rfl (fun w3 M3 => (aB (aC (aD (aD (aA ?_))))))))
 have M4 : Mem _ _ [_, _] _ := Mem.swap2 M3
 refine eK rfl rfl (wq (cR Tryz.underlying82 rfl) rfl (aV rfl rfl (aB (aC (aT (dN (σ := Nat × dL) [0, 4, 5, 16, 17] (fun (k, e) => [(18, .int .i64 (k : Int))]) (fun (k, e) w' => (k ≤ mc ∧ aW 135 2 (some ⟨b1, 0, none⟩) n n ((xs.map (iJ xs (cs.take k))).map cE) e) ∧ Mem w [] [(some b2, bc [.slice (some ⟨b1, 0, none⟩) n n] 97), e] w') (fun (k, e) => mc - k) (0, (some b1, bc ((xs.map (iJ xs (cs.take 0))).map cE).flatten 135)) (bK rfl fC) (⟨⟨by omega, hL15⟩, M4⟩) ?_))))))
 rintro ⟨k, e⟩ ρ5 w5 ⟨⟨hk, hq⟩, hM5⟩
 refine aD (aA (cS rfl rfl rfl rfl (aB (aC (aD ?_)))))
 refine aX rfl (fun h19 => ?_) (fun h19 => ?_)
 ·obtain ⟨cn, hcn⟩ := cL (xs := cs) (k := k) hclen (by omega)
  have hc := hcs cn (List.mem_of_getElem? hcn)
  obtain ⟨pa, xa, hxa, hka, hla, hba, hma⟩ := pJ hs hc.l
  obtain ⟨pb, xb, hxb, hkb, hlb, hbb, hmb⟩ := pJ hs hc.h
  have hoa := hb xa hma
  have hob := hb xb hmb
  have hne := hc.ne
  have ma := hoa.m
  have mb := hob.m
  have hpab : pa ≠ pb := fun g => by subst g; rw [hxa] at hxb; injection hxb with hxb; subst hxb; omega
  refine aL (aC (aD (aT (aD (aA (wq (bX (k) aOh rfl rfl rfl ((R'.mem hM5).below_len (aJ cF hcn)) ((R'.mem hM5).someK (aJ cF hcn))) rfl (wq (eB _ gA (R'.mem hM5) (aJ cF hcn) rfl) rfl (aQ rH hM5 rfl rfl (fun b6 w6 M6 => (bB 2 _ gA M6 rfl rfl rfl rfl rfl (aP rfl) rfl (fun w7 M7 => ?_)))))))))))
  refine aB (aC (aD (aA (eK rfl rfl (wq (aE 0 rK rfl) rfl (wq (aE 0 mT rfl) rfl (wq (aM 2 (.int _ _) bU M7 rfl rfl rfl) rfl (bY aCn rfl rfl (pE _ cn.low _ _ _ xs (R.mem M7) hs) ?_))))))))
  rintro v8 w8 ⟨rfl, hb8⟩
  have M8 := M7.callB hb8
  refine wq (aG (.tuple (List.toArray _)) rfl) rfl (wq (bE (.int _ _) rfl rfl) rfl (aS 28 (.int .i64 (pa : Int)) (iE (by rw [hla])) (wq (bE (.bool (decide _)) rfl rfl) rfl (bI rfl rfl (wq (aI (.bool (decide _)) rfl) rfl ?_)))))
  refine aB (aC (aD (aA (eK rfl rfl (wq (aE 0 rK rfl) rfl (wq (aE 1 mE rfl) rfl (wq (aM 2 (.int _ _) bU M8 rfl rfl rfl) rfl (bY aCn rfl rfl (pE _ cn.high _ _ _ xs (R.mem M8) hs) ?_))))))))
  rintro v9 w9 ⟨rfl, hb9⟩
  have M9 := M8.callB hb9
  refine wq (aG (.tuple (List.toArray _)) rfl) rfl (wq (bE (.int _ _) rfl rfl) rfl (aS 36 (.int .i64 (pb : Int)) (iE (by rw [hlb])) (wq (bE (.bool (decide _)) rfl rfl) rfl (bI rfl rfl (wq (aI (.bool (decide _)) rfl) rfl ?_)))))
  refine aB (aC (aD (aA (wq (cM [] [.pointer _, .pointer _] rfl rfl) rfl (wq (aI (.func _ _ _) rfl) rfl (aB (aC (aD (bV [(0, 0), (1, 0), (2, 1), (3, 0), (4, 0), (5, 1), (6, 1), (7, 0), (8, 0), (9, 1), (10, 1), (11, 2), (12, 2)] mixed rfl (by kernel_rfl) (fun w10 hb10 hh10 => ?_))))))))))
  have M10 := M9.drew hb10 hh10
  refine aZ rfl rfl rfl (fun _ => aG (.func _ _ _) rfl) (iB rfl rfl rfl (cB rfl rfl rfl (aY 2 gA M10 rfl rfl rfl) (DmS rfl rfl rfl (iB rfl rfl rfl (cB rfl rfl rfl (bX (pa) eX rfl rfl rfl ((R.mem M10).below_len (aJ aF hxa)) ((R.mem M10).someK (aJ aF hxa))) ?_)))))
  refine cB rfl rfl rfl (eB _ bL (R.mem M10) (aJ aF hxa) rfl) (DmS rfl rfl rfl (iB rfl rfl rfl (cB rfl rfl rfl (bX (pb) eX rfl rfl rfl ((R.mem M10).below_len (aJ aF hxb)) ((R.mem M10).someK (aJ aF hxb))) (cB rfl rfl rfl (eB _ bL (R.mem M10) (aJ aF hxb) rfl) ?_))))
  refine dR [true, true, true, true, true] rfl (by kernel_rfl) (bY aPf rfl rfl (aBg _ cn xa xb hc.n hoa hob false) ?_)
  rintro v11 w11 ⟨rfl, hb11⟩
  have M11 := M10.callB hb11
  refine aB (aC ⟨dS, ?_⟩)
  refine iH 50 (.int .i64 (nS cn xa xb xa.mass)) rfl (dR [] rfl (by kernel_rfl) (bY aOy rfl rfl (xR _ b2 b6 cn ⟨some ⟨b1, 0, none⟩, n, n, e⟩ (xs.map (iJ xs (cs.take k))) hq pa (nS cn xa xb xa.mass) (-1) (iJ xs (cs.take k) xa) (aJ _ hxa) (aCy hc.n (by omega)) (.inr rfl) hc.n (aCi hs hb hcs hclen hmc k hma) (M11.ownSeg 0 3)) ?_))
  rintro v12 w12 ⟨rfl, e1, hq1, hM12⟩
  have M12 : Mem _ _ [_, _, _] _ := M11.seg 0 3 hM12
  refine aB (aC ⟨dS, ?_⟩)
  refine cG (aC (bV [(0, 0), (1, 0), (2, 1), (3, 0), (4, 0), (5, 1), (6, 1), (7, 0), (8, 0), (9, 1), (10, 1), (11, 2), (12, 2)] mixed rfl (by kernel_rfl) (fun w13 hb13 hh13 => ?_)))
  have M13 := M12.drew hb13 hh13
  refine aZ rfl rfl rfl (fun _ => aG (.func _ _ _) rfl) (iB rfl rfl rfl (cB rfl rfl rfl (aY 2 gA M13 rfl rfl rfl) (DmS rfl rfl rfl (iB rfl rfl rfl (cB rfl rfl rfl (bX (pa) eX rfl rfl rfl ((R.mem M13).below_len (aJ aF hxa)) ((R.mem M13).someK (aJ aF hxa))) ?_)))))
  refine cB rfl rfl rfl (eB _ bL (R.mem M13) (aJ aF hxa) rfl) (DmS rfl rfl rfl (iB rfl rfl rfl (cB rfl rfl rfl (bX (pb) eX rfl rfl rfl ((R.mem M13).below_len (aJ aF hxb)) ((R.mem M13).someK (aJ aF hxb))) (cB rfl rfl rfl (eB _ bL (R.mem M13) (aJ aF hxb) rfl) ?_))))
  refine dR [true, true, true, true, true] rfl (by kernel_rfl) (bY aPf rfl rfl (aBg _ cn xa xb hc.n hoa hob true) ?_)
  rintro v14 w14 ⟨rfl, hb14⟩
  have M14 := M13.callB hb14
  refine aB (aC ⟨dS, ?_⟩)
  refine iH 63 (.int .i64 (nS cn xa xb xb.mass)) rfl (dR [] rfl (by kernel_rfl) (bY aOy rfl rfl (xR _ b2 b6 cn ⟨some ⟨b1, 0, none⟩, n, n, e1⟩ _ hq1 pb (nS cn xa xb xb.mass) (1) (iJ xs (cs.take k) xb) (qH (aJ _ hxb) hpab) (aCy hc.n (by omega)) (.inl rfl) hc.n (aCi hs hb hcs hclen hmc k hmb) (M14.ownSeg 0 3)) ?_))
  rintro v15 w15 ⟨rfl, e2, hq2, hM15⟩
  have M15 : Mem _ _ [_, _, _] _ := M14.seg 0 3 hM15
  refine aB (aC ⟨dS, ?_⟩)
  refine cG (cV (aC (aA (wq (bM rfl rfl (by omega) (by omega)) rfl (aV rfl rfl (aB ?_))))))
  refine cQ (k + 1, e2) (bK rfl fC) (cU rfl (cU rfl (cU rfl (cU rfl (cU rfl kE))))) ?_ ?_
  ·exact ⟨⟨by omega, by rw [← aOc hcn, ← aUr hs hxa hxb hka hkb hc hba hbb]; exact hq2⟩, M15.keep [true, true, false]⟩
  ·(show mc - (k + 1) < mc - k; omega)
 ·have hkn : k = mc := by omega
  rw [List.take_of_length_le (by omega)] at hq
  refine cN (dB (cZ (eZ (aC (aD (aA (wq (aM 0 (.slice _ _ _) aBd hM5 rfl rfl rfl) rfl ?_)))))))
  refine fZ rfl rfl (aB (aC (aN (cA (.slice _ _ _) rfl ?_))))
  exact ⟨⟨(some ⟨b1, 0, none⟩), n, n, e⟩, rfl, hq, hM5.keep [false, true]⟩
end Go.Proofs.YtlmcphcgiclanaaGreatDoor
