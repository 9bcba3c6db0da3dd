/- Part of the proof of the laws of this seat: S20c, S20d, S20e, S20f, S20g, S20h. No conditions. -/
import Derived.Test.YtlmcphcgiclanaaGreatDoorK2
import Derived.Test.YtlmcphcgiclanaaGreatDoorK5
import Derived.Test.YtlmcphcgiclanaaGreatDoorK20
import Derived.Test.YtlmcphcgiclanaaGreatDoorK18
import Derived.Test.YtlmcphcgiclanaaGreatDoorK24
import Derived.Test.YtlmcphcgiclanaaGreatDoorK26
set_option linter.unusedVariables false
set_option linter.unusedSimpArgs false
set_option linter.unnecessarySimpa false
namespace Go.Proofs.YtlmcphcgiclanaaGreatDoor
open Go.Bil
open Go.RowKit (Below)
open Go.Proofs
set_option maxHeartbeats 8000000 in
theorem bCv (w : World) (bs : Nat) (rx ry : Row) (F G : Body → Int) (A : Option Addr) (n c : Nat) (xs : List Body) (R : Rd w 10 A n (xs.map aF)) (hs : cS xs) (hb : ∀ b ∈ xs, Okb b) (hrx : bH 2 1 rx.A rx.n rx.c ((xs.map F).map dC) rx.e) (hry : bH 2 1 ry.A ry.n ry.c ((xs.map G).map dC) ry.e) (hF : ∀ b ∈ xs, -1152921504606846976 ≤ F b ∧ F b ≤ 1152921504606846976) (hG : ∀ b ∈ xs, -1152921504606846976 ≤ G b ∧ G b ≤ 1152921504606846976) (cn : Con) (hc : OkC xs cn) (hO : Own [(some bs, bc [.slice A n c, .slice rx.A rx.n rx.c, .slice ry.A ry.n ry.c] 246), rx.e, ry.e] w) (hdA : 0 < n → ∀ q off, A = some ⟨q, off, none⟩ → q ∉ cY [(some bs, bc [.slice A n c, .slice rx.A rx.n rx.c, .slice ry.A ry.n ry.c] 246), rx.e, ry.e]) :
  Calls Tryz.prog 177 #[.pointer (some ⟨bs, 0, none⟩), .agg (cG cn).toArray] w (fun ex w' => ∃ v, ex = .returned v ∧ (fun v w' => v = .tuple #[] ∧ ∃ ex ey : fF, bH 2 1 rx.A rx.n rx.c ((xs.map (aHq xs (·.nx) cn F)).map dC) ex ∧ bH 2 1 ry.A ry.n ry.c ((xs.map (aHq xs (·.ny) cn G)).map dC) ey ∧ Mem w (cY [(some bs, bc [.slice A n c, .slice rx.A rx.n rx.c, .slice ry.A ry.n ry.c] 246), rx.e, ry.e]) [(some bs, bc [.slice A n c, .slice rx.A rx.n rx.c, .slice ry.A ry.n ry.c] 246), ex, ey] w') v w') := by
 have hlen : xs.length = n := by simpa using R.len
 have hbd := R.bound
 have hlx : xs.length = rx.n := by simpa using hrx.1
 have hly : xs.length = ry.n := by simpa using hry.1
 obtain ⟨pa, xa, hxa, hka, hla, hba, hma⟩ := tE hs hc.l
 obtain ⟨pb, xb, hxb, hkb, hlb, hbb, hmb⟩ := tE hs hc.h
 have hoa := hb xa hma
 have hob := hb xb hmb
 have hne := hc.ne
 have hpl := (List.getElem?_eq_some_iff.1 hxa).1
 have hpl2 := (List.getElem?_eq_some_iff.1 hxb).1
 have hpab : pa ≠ pb := fun g => by subst g; rw [hxa] at hxb; injection hxb with hxb; subst hxb; omega
 have ma := hoa.m
 have mb := hob.m
 have hra := oX hc.n hoa hob (m := xa.mass) (by omega)
 have hrb := oX hc.n hoa hob (m := xb.mass) (by omega)
 have gax := (kG hra.2.2 hc.n.x).2.2
 have gay := (kG hra.2.2 hc.n.y).2.2
 have gbx := (kG hrb.2.2 hc.n.x).2.2
 have gby := (kG hrb.2.2 hc.n.y).2.2
 have fa := hF xa hma
 have fb := hF xb hmb
 have ga := hG xa hma
 have gb := hG xb hmb
 have hFa : (xs.map F)[pa]? = some (F xa) := by rw [List.getElem?_map, hxa]; rfl
 have hGa : (xs.map G)[pa]? = some (G xa) := by rw [List.getElem?_map, hxa]; rfl
 have hFb : ((xs.map F).set pa (F xa - mP (jZ cn xa xb) xa.mass cn.nx))[pb]? = some (F xb) := uO (by rw [List.getElem?_map, hxb]; rfl) hpab
 have hGb : ((xs.map G).set pa (G xa - mP (jZ cn xa xb) xa.mass cn.ny))[pb]? = some (G xb) := uO (by rw [List.getElem?_map, hxb]; rfl) hpab
 refine aI #[] 139 Tryz.func177 rfl Tryz.results177 Tryz.ntmps177 rfl ?_
 have M0 := hO.mem
 refine aE (aA (bP (.agg (List.toArray _)) M0 rfl rfl rfl (fun b1 w1 M1 => (aB (aC (aE (bR [(0, 0), (1, 0), (2, 0), (3, 1), (4, 0), (5, 0), (6, 1), (7, 2), (8, 0), (9, 0), (10, 0), (11, 0), (12, 0)] mixed rfl (by kernel_rfl) (fun w2 hb2 hh2 => ?_))))))))
 have M2 := M1.drew hb2 hh2
 refine aX rfl rfl rfl (fun _ => aH (.pointer _) rfl) (aX rfl rfl rfl (fun _ => bB rfl) (aX rfl rfl rfl (fun _ => aD 0 pS rfl) (bV rfl rfl rfl (aM 0 (.slice _ _ _) fQ M2 rfl rfl rfl) (aX rfl rfl rfl (fun _ => aD 0 fI rfl) (aX rfl rfl rfl (fun _ => aD 0 gB rfl) ?_)))))
 refine bV rfl rfl rfl (aM 3 (.int _ _) bU M2 rfl rfl rfl) (dS [true, true] rfl (by kernel_rfl) (bZ aIr rfl rfl (sT _ cn.low _ _ _ xs (R.memY M2 hdA) hs) ?_))
 rintro v3 w3 ⟨rfl, hb3⟩
 have M3 := M2.callB hb3
 refine aB (aC ⟨dT, ?_⟩)
 refine aX rfl rfl rfl (fun _ => aH (.tuple (List.toArray _)) rfl) (aX rfl rfl rfl (fun _ => bO (.int _ _) rfl rfl) (dY 20 (.int .i64 (pa : Int)) (iE (by rw [hla])) (aX rfl rfl rfl (fun _ => bO (.bool (decide _)) rfl rfl) (lM rfl rfl rfl (aX rfl rfl rfl (fun _ => aJ (.bool (decide _)) rfl) ?_)))))
 refine bY (aC (aE (bR [(0, 0), (1, 0), (2, 0), (3, 1), (4, 0), (5, 0), (6, 1), (7, 2), (8, 0), (9, 0), (10, 0), (11, 0), (12, 0)] mixed rfl (by kernel_rfl) (fun w4 hb4 hh4 => ?_))))
 have M4 := M3.drew hb4 hh4
 refine aX rfl rfl rfl (fun _ => aH (.pointer _) rfl) (aX rfl rfl rfl (fun _ => bB rfl) (aX rfl rfl rfl (fun _ => aD 0 pS rfl) (bV rfl rfl rfl (aM 0 (.slice _ _ _) fQ M4 rfl rfl rfl) (aX rfl rfl rfl (fun _ => aD 0 fI rfl) (aX rfl rfl rfl (fun _ => aD 1 jJ rfl) ?_)))))
 refine bV rfl rfl rfl (aM 3 (.int _ _) bU M4 rfl rfl rfl) (dS [true, true] rfl (by kernel_rfl) (bZ aIr rfl rfl (sT _ cn.high _ _ _ xs (R.memY M4 hdA) hs) ?_))
 rintro v5 w5 ⟨rfl, hb5⟩
 have M5 := M4.callB hb5
 refine aB (aC ⟨dT, ?_⟩)
 refine aX rfl rfl rfl (fun _ => aH (.tuple (List.toArray _)) rfl) (aX rfl rfl rfl (fun _ => bO (.int _ _) rfl rfl) (dY 31 (.int .i64 (pb : Int)) (iE (by rw [hlb])) (aX rfl rfl rfl (fun _ => bO (.bool (decide _)) rfl rfl) (lM rfl rfl rfl (aX rfl rfl rfl (fun _ => aJ (.bool (decide _)) rfl) ?_)))))
 refine bY (aC (aE (bR [(0, 1), (1, 0), (2, 0), (3, 0), (4, 1), (5, 0), (6, 1), (7, 1), (8, 0), (9, 0), (10, 0), (11, 1), (12, 0), (13, 1), (14, 1), (15, 2), (16, 0)] mixed rfl (by kernel_rfl) (fun w6 hb6 hh6 => ?_))))
 have M6 := M5.drew hb6 hh6
 refine bV rfl rfl rfl (aU 3 eL M6 rfl rfl rfl) (aX rfl rfl rfl (fun _ => aH (.pointer _) rfl) (aX rfl rfl rfl (fun _ => bB rfl) (aX rfl rfl rfl (fun _ => aD 0 pS rfl) (bV rfl rfl rfl (aM 0 (.slice _ _ _) fQ M6 rfl rfl rfl) (eF rfl rfl rfl ?_)))))
 refine bV rfl rfl rfl (bN (pa) dF rfl rfl rfl ((R.memY M6 hdA).below_len (aG aF hxa)) ((R.memY M6 hdA).someK (aG aF hxa))) (bV rfl rfl rfl (dJ _ bK (R.memY M6 hdA) (aG aF hxa) rfl) (aX rfl rfl rfl (fun _ => aH (.pointer _) rfl) (aX rfl rfl rfl (fun _ => bB rfl) ?_)))
 refine aX rfl rfl rfl (fun _ => aD 0 pS rfl) (bV rfl rfl rfl (aM 0 (.slice _ _ _) fQ M6 rfl rfl rfl) (eF rfl rfl rfl (bV rfl rfl rfl (bN (pb) dF rfl rfl rfl ((R.memY M6 hdA).below_len (aG aF hxb)) ((R.memY M6 hdA).someK (aG aF hxb))) (bV rfl rfl rfl (dJ _ bK (R.memY M6 hdA) (aG aF hxb) rfl) ?_))))
 refine dS [true, true, true, true, true, true, true] rfl (by kernel_rfl) (bZ bHu rfl rfl (aHw _ cn xa xb hc.n hoa hob) ?_)
 rintro v7 w7 ⟨rfl, hb7⟩
 have M7 := M6.callB hb7
 refine aB (aC ⟨dT, ?_⟩)
 refine lM rfl rfl rfl (bY (aC (aE (bR [(0, 0), (1, 0), (2, 0), (3, 0), (4, 1), (5, 0), (6, 1), (7, 1), (8, 1), (9, 0), (10, 1), (11, 2), (12, 0), (13, 0), (14, 0), (15, 0), (16, 0)] mixed rfl (by kernel_rfl) (fun w8 hb8 hh8 => ?_)))))
 have M8 := M7.drew hb8 hh8
 refine eF rfl rfl rfl (aX rfl rfl rfl (fun _ => aH (.pointer _) rfl) (aX rfl rfl rfl (fun _ => bB rfl) (aX rfl rfl rfl (fun _ => aD 0 pS rfl) (bV rfl rfl rfl (aM 0 (.slice _ _ _) fQ M8 rfl rfl rfl) (eF rfl rfl rfl ?_)))))
 refine bV rfl rfl rfl (bN (pa) dF rfl rfl rfl ((R.memY M8 hdA).below_len (aG aF hxa)) ((R.memY M8 hdA).someK (aG aF hxa))) (bV rfl rfl rfl (bE 4 eC (R.memY M8 hdA) (Nat.lt_of_le_of_lt (Nat.zero_le _) ((R.memY M8 hdA).below_len (aG aF hxa))) rfl) (bV rfl rfl rfl (dV (o := 4) (.int _ _) aR (R.memY M8 hdA) (aG aF hxa) rfl rfl) ?_))
 refine aX rfl rfl rfl (fun _ => aD 2 gP rfl) (bV rfl rfl rfl (nQ 3 _ bI M8 rfl rfl rfl rfl) (dS [true, true, true, true, true] rfl (by kernel_rfl) (bZ aWh rfl rfl (aDd _ (jZ cn xa xb) xa.mass cn.nx cn.ny ⟨hra.1, hra.2.1⟩ (by omega) hra.2.2 hc.n.x hc.n.y) ?_)))
 rintro v9 w9 ⟨rfl, hb9⟩
 have M9 := M8.callB hb9
 refine aB (aC ⟨dT, ?_⟩)
 refine aX rfl rfl rfl (fun _ => aH (.tuple (List.toArray _)) rfl) (aX rfl rfl rfl (fun _ => bO (.int _ _) rfl rfl) (aX rfl rfl rfl (fun _ => bO (.int _ _) rfl rfl) (lM rfl rfl rfl (lM rfl rfl rfl (bY ?_)))))
 refine aC (aE (bR [(0, 0), (1, 0), (2, 0), (3, 1), (4, 0), (5, 0), (6, 0), (7, 0), (8, 1), (9, 0), (10, 0), (11, 0), (12, 0), (13, 1), (14, 0), (15, 1), (16, 1), (17, 0), (18, 0), (19, 0), (20, 0), (21, 0), (22, 1), (23, 0), (24, 1), (25, 1), (26, 0), (27, 0), (28, 1), (29, 2), (30, 1), (31, 2)] mixed rfl (by kernel_rfl) (fun w10 hb10 hh10 => ?_)))
 have M10 := M9.drew hb10 hh10
 refine aX rfl rfl rfl (fun _ => aH (.pointer _) rfl) (aX rfl rfl rfl (fun _ => bB rfl) (aX rfl rfl rfl (fun _ => aD 1 pU rfl) (bV rfl rfl rfl (aM 0 (.slice _ _ _) nC M10 rfl rfl rfl) (eF rfl rfl rfl (aX rfl rfl rfl (fun _ => aH (.pointer _) rfl) ?_)))))
 refine aX rfl rfl rfl (fun _ => bB rfl) (aX rfl rfl rfl (fun _ => aD 2 pR rfl) (bV rfl rfl rfl (aM 0 (.slice _ _ _) nC M10 rfl rfl rfl) (eF rfl rfl rfl (aX rfl rfl rfl (fun _ => aH (.pointer _) rfl) (aX rfl rfl rfl (fun _ => bB rfl) ?_)))))
 refine aX rfl rfl rfl (fun _ => aD 1 pU rfl) (bV rfl rfl rfl (aM 0 (.slice _ _ _) nC M10 rfl rfl rfl) (eF rfl rfl rfl (bV rfl rfl rfl (bN (pa) oR rfl rfl rfl ((hrx.rd M10 (bJ (i := 1) rfl)).below_len (aG dC hFa)) ((hrx.rd M10 (bJ (i := 1) rfl)).someK (aG dC hFa))) ?_)))
 refine bV rfl rfl rfl (iS (.int _ _) iR (hrx.rd M10 (bJ (i := 1) rfl)) (aG dC hFa) rfl) (eF rfl rfl rfl (aX rfl rfl rfl (fun _ => fX rfl rfl (by omega) (by omega)) (aX rfl rfl rfl (fun _ => aH (.pointer _) rfl) (aX rfl rfl rfl (fun _ => bB rfl) (aX rfl rfl rfl (fun _ => aD 2 pR rfl) ?_)))))
 refine bV rfl rfl rfl (aM 0 (.slice _ _ _) nC M10 rfl rfl rfl) (eF rfl rfl rfl (bV rfl rfl rfl (bN (pa) oR rfl rfl rfl ((hry.rd M10 (bJ (i := 2) rfl)).below_len (aG dC hGa)) ((hry.rd M10 (bJ (i := 2) rfl)).someK (aG dC hGa))) (bV rfl rfl rfl (iS (.int _ _) iR (hry.rd M10 (bJ (i := 2) rfl)) (aG dC hGa) rfl) ?_)))
 refine eF rfl rfl rfl (aX rfl rfl rfl (fun _ => fX rfl rfl (by omega) (by omega)) (bV rfl rfl rfl (bN (pa) oR rfl rfl rfl ((hrx.rd M10 (bJ (i := 1) rfl)).below_len (aG dC hFa)) ((hrx.rd M10 (bJ (i := 1) rfl)).someK (aG dC hFa))) (dS [true, true, true, true, true, true, true, true, true] rfl (by kernel_rfl) ?_)))
 refine aAm 1 (.int _ _) iR M10 rfl hrx (aG dC hFa) rfl rfl rfl rfl (fun e11 w11 hR11 M11 => ?_)
 have hQ11 := hR11.mapSet (f := dC) (x := F xa - mP (jZ cn xa xb) xa.mass cn.nx) rfl
 refine aB (aC ⟨dT, ?_⟩)
 refine bV rfl rfl rfl (bN (pa) oR rfl rfl rfl ((hry.rd M11 (bJ (i := 2) rfl)).below_len (aG dC hGa)) ((hry.rd M11 (bJ (i := 2) rfl)).someK (aG dC hGa))) (dS [true] rfl (by kernel_rfl) (aAm 2 (.int _ _) iR M11 rfl hry (aG dC hGa) rfl rfl rfl rfl (fun e12 w12 hR12 M12 => ?_)))
 have hQ12 := hR12.mapSet (f := dC) (x := G xa - mP (jZ cn xa xb) xa.mass cn.ny) rfl
 refine aB (aC ⟨dT, ?_⟩)
 refine bY (aC (aE (bR [(0, 0), (1, 0), (2, 0), (3, 0), (4, 1), (5, 0), (6, 1), (7, 1), (8, 1), (9, 0), (10, 1), (11, 2), (12, 0), (13, 0), (14, 0), (15, 0), (16, 0)] mixed rfl (by kernel_rfl) (fun w13 hb13 hh13 => ?_))))
 have M13 := M12.drew hb13 hh13
 refine eF rfl rfl rfl (aX rfl rfl rfl (fun _ => aH (.pointer _) rfl) (aX rfl rfl rfl (fun _ => bB rfl) (aX rfl rfl rfl (fun _ => aD 0 pS rfl) (bV rfl rfl rfl (aM 0 (.slice _ _ _) fQ M13 rfl rfl rfl) (eF rfl rfl rfl ?_)))))
 refine bV rfl rfl rfl (bN (pb) dF rfl rfl rfl ((R.memY M13 hdA).below_len (aG aF hxb)) ((R.memY M13 hdA).someK (aG aF hxb))) (bV rfl rfl rfl (bE 4 eC (R.memY M13 hdA) (Nat.lt_of_le_of_lt (Nat.zero_le _) ((R.memY M13 hdA).below_len (aG aF hxb))) rfl) (bV rfl rfl rfl (dV (o := 4) (.int _ _) aR (R.memY M13 hdA) (aG aF hxb) rfl rfl) ?_))
 refine aX rfl rfl rfl (fun _ => aD 2 gP rfl) (bV rfl rfl rfl (nQ 3 _ bI M13 rfl rfl rfl rfl) (dS [true, true, true, true, true] rfl (by kernel_rfl) (bZ aWh rfl rfl (aDd _ (jZ cn xa xb) xb.mass cn.nx cn.ny ⟨hrb.1, hrb.2.1⟩ (by omega) hrb.2.2 hc.n.x hc.n.y) ?_)))
 rintro v14 w14 ⟨rfl, hb14⟩
 have M14 := M13.callB hb14
 refine aB (aC ⟨dT, ?_⟩)
 refine aX rfl rfl rfl (fun _ => aH (.tuple (List.toArray _)) rfl) (aX rfl rfl rfl (fun _ => bO (.int _ _) rfl rfl) (aX rfl rfl rfl (fun _ => bO (.int _ _) rfl rfl) (lM rfl rfl rfl (lM rfl rfl rfl (bY ?_)))))
 refine aC (bR [(0, 0), (1, 0), (2, 0), (3, 1), (4, 0), (5, 0), (6, 0), (7, 0), (8, 1), (9, 0), (10, 0), (11, 0), (12, 0), (13, 1), (14, 0), (15, 1), (16, 1), (17, 0), (18, 0), (19, 0), (20, 0), (21, 0), (22, 1), (23, 0), (24, 1), (25, 1), (26, 0), (27, 0), (28, 1), (29, 2), (30, 1), (31, 2)] mixed rfl (by kernel_rfl) (fun w15 hb15 hh15 => ?_))
 have M15 := M14.drew hb15 hh15
 refine aX rfl rfl rfl (fun _ => aH (.pointer _) rfl) (aX rfl rfl rfl (fun _ => bB rfl) (aX rfl rfl rfl (fun _ => aD 1 pU rfl) (bV rfl rfl rfl (aM 0 (.slice _ _ _) nC M15 rfl rfl rfl) (eF rfl rfl rfl (aX rfl rfl rfl (fun _ => aH (.pointer _) rfl) ?_)))))
 refine aX rfl rfl rfl (fun _ => bB rfl) (aX rfl rfl rfl (fun _ => aD 2 pR rfl) (bV rfl rfl rfl (aM 0 (.slice _ _ _) nC M15 rfl rfl rfl) (eF rfl rfl rfl (aX rfl rfl rfl (fun _ => aH (.pointer _) rfl) (aX rfl rfl rfl (fun _ => bB rfl) ?_)))))
 refine aX rfl rfl rfl (fun _ => aD 1 pU rfl) (bV rfl rfl rfl (aM 0 (.slice _ _ _) nC M15 rfl rfl rfl) (eF rfl rfl rfl (bV rfl rfl rfl (bN (pb) oR rfl rfl rfl ((hQ11.rd M15 (bJ (i := 1) rfl)).below_len (aG dC hFb)) ((hQ11.rd M15 (bJ (i := 1) rfl)).someK (aG dC hFb))) ?_)))
 refine bV rfl rfl rfl (iS (.int _ _) iR (hQ11.rd M15 (bJ (i := 1) rfl)) (aG dC hFb) rfl) (eF rfl rfl rfl (aX rfl rfl rfl (fun _ => aY rfl rfl (by omega) (by omega)) (aX rfl rfl rfl (fun _ => aH (.pointer _) rfl) (aX rfl rfl rfl (fun _ => bB rfl) (aX rfl rfl rfl (fun _ => aD 2 pR rfl) ?_)))))
 refine bV rfl rfl rfl (aM 0 (.slice _ _ _) nC M15 rfl rfl rfl) (eF rfl rfl rfl (bV rfl rfl rfl (bN (pb) oR rfl rfl rfl ((hQ12.rd M15 (bJ (i := 2) rfl)).below_len (aG dC hGb)) ((hQ12.rd M15 (bJ (i := 2) rfl)).someK (aG dC hGb))) (bV rfl rfl rfl (iS (.int _ _) iR (hQ12.rd M15 (bJ (i := 2) rfl)) (aG dC hGb) rfl) ?_)))
 refine eF rfl rfl rfl (aX rfl rfl rfl (fun _ => aY rfl rfl (by omega) (by omega)) (bV rfl rfl rfl (bN (pb) oR rfl rfl rfl ((hQ11.rd M15 (bJ (i := 1) rfl)).below_len (aG dC hFb)) ((hQ11.rd M15 (bJ (i := 1) rfl)).someK (aG dC hFb))) (dS [true, true, true, true, true, true, true, true, true] rfl (by kernel_rfl) ?_)))
 refine aAm 1 (.int _ _) iR M15 rfl hQ11 (aG dC hFb) rfl rfl rfl rfl (fun e16 w16 hR16 M16 => ?_)
 have hQ16 := hR16.mapSet (f := dC) (x := F xb + mP (jZ cn xa xb) xb.mass cn.nx) rfl
 refine aB (aC ⟨dT, ?_⟩)
 refine bV rfl rfl rfl (bN (pb) oR rfl rfl rfl ((hQ12.rd M16 (bJ (i := 2) rfl)).below_len (aG dC hGb)) ((hQ12.rd M16 (bJ (i := 2) rfl)).someK (aG dC hGb))) (dS [true] rfl (by kernel_rfl) (aAm 2 (.int _ _) iR M16 rfl hQ12 (aG dC hGb) rfl rfl rfl rfl (fun e17 w17 hR17 M17 => ?_)))
 have hQ17 := hR17.mapSet (f := dC) (x := G xb + mP (jZ cn xa xb) xb.mass cn.ny) rfl
 refine aB (aC ⟨dT, ?_⟩)
 refine bY (kR ?_)
 exact ⟨rfl, e16, e17, by rw [← aQn hs hxa hxb hka hkb hc hba hbb]; exact hQ16, by rw [← aQn hs hxa hxb hka hkb hc hba hbb]; exact hQ17, M17.keep [true, true, true, false]⟩
set_option maxHeartbeats 4000000 in
theorem aMf (w : World) (bs : Nat) (rx ry : Row) (A : Option Addr) (n c : Nat) (xs : List Body) (R : Rd w 10 A n (xs.map aF)) (hs : cS xs) (hb : ∀ b ∈ xs, Okb b) (B : Option Addr) (mc c' : Nat) (cs : List Con) (R' : Rd w 5 B mc (cs.map cG)) (hcs : ∀ c ∈ cs, OkC xs c) (hmc : mc ≤ 8589934592) (hrx : bH 2 1 rx.A rx.n rx.c ((xs.map (fun b => gQ xs (cs.take 0) (·.nx) b)).map dC) rx.e) (hry : bH 2 1 ry.A ry.n ry.c ((xs.map (fun b => gQ xs (cs.take 0) (·.ny) b)).map dC) ry.e) (hO : Own [(some bs, bc [.slice A n c, .slice rx.A rx.n rx.c, .slice ry.A ry.n ry.c] 246), rx.e, ry.e] w) (hdA : 0 < n → ∀ q off, A = some ⟨q, off, none⟩ → q ∉ cY [(some bs, bc [.slice A n c, .slice rx.A rx.n rx.c, .slice ry.A ry.n ry.c] 246), rx.e, ry.e]) (hdB : 0 < mc → ∀ q off, B = some ⟨q, off, none⟩ → q ∉ cY [(some bs, bc [.slice A n c, .slice rx.A rx.n rx.c, .slice ry.A ry.n ry.c] 246), rx.e, ry.e]) :
  Calls Tryz.prog 176 #[.slice B mc c', .func (.func 177) #[.pointer (some ⟨bs, 0, none⟩)] #[]] w (fun ex w' => ∃ v, ex = .returned v ∧ (fun v w' => v = .tuple #[] ∧ ∃ ex ey : fF, bH 2 1 rx.A rx.n rx.c ((xs.map (fun b => gQ xs cs (·.nx) b)).map dC) ex ∧ bH 2 1 ry.A ry.n ry.c ((xs.map (fun b => gQ xs cs (·.ny) b)).map dC) ey ∧ Mem w (cY [(some bs, bc [.slice A n c, .slice rx.A rx.n rx.c, .slice ry.A ry.n ry.c] 246), rx.e, ry.e]) [(some bs, bc [.slice A n c, .slice rx.A rx.n rx.c, .slice ry.A ry.n ry.c] 246), ex, ey] w') v w') := by
 have hlen : xs.length = n := by simpa using R.len
 have hbd := R.bound
 have hclen : cs.length = mc := by simpa using R'.len
 have hbd' := R'.bound
 refine aI #[] 16 Tryz.func176 rfl Tryz.results176 Tryz.ntmps176 rfl ?_
 have M0 := hO.mem
 refine aE (aA (dN rfl rfl (wq (dB Tryz.underlying82 rfl) rfl (aO rfl rfl (aB (aC (aQ (dQ (σ := Nat × fF × fF) [1, 6, 7] (fun (k, ex, ey) => [(8, .int .i64 (k : Int))]) (fun (k, ex, ey) w' => (k ≤ mc ∧ bH 2 1 rx.A rx.n rx.c ((xs.map (fun b => gQ xs (cs.take k) (·.nx) b)).map dC) ex ∧ bH 2 1 ry.A ry.n ry.c ((xs.map (fun b => gQ xs (cs.take k) (·.ny) b)).map dC) ey) ∧ Mem w (cY [(some bs, bc [.slice A n c, .slice rx.A rx.n rx.c, .slice ry.A ry.n ry.c] 246), rx.e, ry.e]) [(some bs, bc [.slice A n c, .slice rx.A rx.n rx.c, .slice ry.A ry.n ry.c] 246), ex, ey] w') (fun (k, ex, ey) => mc - k) (0, rx.e, ry.e) (bA rfl dX) (⟨⟨by omega, hrx, hry⟩, M0⟩) ?_))))))))
 rintro ⟨k, ex, ey⟩ ρ1 w1 ⟨⟨hk, hqx, hqy⟩, hM1⟩
 refine aE (aA (cX rfl rfl rfl rfl (aB (aC (aE ?_)))))
 refine aS rfl (fun h9 => ?_) (fun h9 => ?_)
 ·obtain ⟨cn, hcn⟩ := cT (xs := cs) (k := k) hclen (by omega)
  have hkx : ∀ b ∈ xs, -1152921504606846976 ≤ gQ xs (cs.take k) (·.nx) b ∧ gQ xs (cs.take k) (·.nx) b ≤ 1152921504606846976 := fun b hbm => by have := rK (cs := cs.take k) (g := (·.nx)) hs hb (fun c h => hcs c (List.mem_of_mem_take h)) (fun c h => (hcs c (List.mem_of_mem_take h)).n.x) hbm; have := List.length_take_le k cs; omega
  have hky : ∀ b ∈ xs, -1152921504606846976 ≤ gQ xs (cs.take k) (·.ny) b ∧ gQ xs (cs.take k) (·.ny) b ≤ 1152921504606846976 := fun b hbm => by have := rK (cs := cs.take k) (g := (·.ny)) hs hb (fun c h => hcs c (List.mem_of_mem_take h)) (fun c h => (hcs c (List.mem_of_mem_take h)).n.y) hbm; have := List.length_take_le k cs; omega
  refine aL (aC (aE (aQ (aE (aA (wq (bN (k) zN rfl rfl rfl ((R'.memY hM1 hdB).below_len (aG cG hcn)) ((R'.memY hM1 hdB).someK (aG cG hcn))) rfl (wq (dJ _ eL (R'.memY hM1 hdB) (aG cG hcn) rfl) rfl (aV lT hM1 rfl rfl (fun b2 w2 M2 => ?_)))))))))
  refine bG 3 _ eL M2 rfl rfl rfl rfl rfl (aT rfl) rfl (fun w3 M3 => (aB (aC (aA (wq (aH (.func _ _ _) rfl) rfl (wq (aU 3 eL M3 rfl rfl rfl) rfl (bZ bIy rfl rfl (bCv _ bs ⟨rx.A, rx.n, rx.c, ex⟩ ⟨ry.A, ry.n, ry.c, ey⟩ (fun b => gQ xs (cs.take k) (·.nx) b) (fun b => gQ xs (cs.take k) (·.ny) b) A n c xs (R.memY M3 hdA) hs hb hqx hqy hkx hky cn (hcs cn (List.mem_of_getElem? hcn)) (M3.ownSeg 0 3) (M3.away 0 3 R hdA)) ?_)))))))
  rintro v4 w4 ⟨rfl, ex2, ey2, hqx2, hqy2, hM4⟩
  have M4 : Mem _ _ [_, _, _, _] _ := M3.seg 0 3 hM4
  refine aB (cO (aC (aA (wq (aY rfl rfl (by omega) (by omega)) rfl (aO rfl rfl (aB ?_))))))
  refine cD (k + 1, ex2, ey2) (bA rfl dX) (cL rfl (cL rfl (cL rfl gO))) ?_ ?_
  ·exact ⟨⟨by omega, by rw [← aGb hcn]; exact hqx2, by rw [← aGb hcn]; exact hqy2⟩, M4.keep [true, true, true, false]⟩
  ·(show mc - (k + 1) < mc - k; omega)
 ·have hkn : k = mc := by omega
  rw [List.take_of_length_le (by omega)] at hqx hqy
  refine cV (dD (dK (eO (kR ?_))))
  exact ⟨rfl, ex, ey, hqx, hqy, hM1⟩
theorem Mem.rot3 {w0 w : World} {X : List Nat} {a b c : fF} (M : Mem w0 X [a, b, c] w) : Mem w0 X [c, b, a] w := M.perm (List.reverse_perm [a, b, c]).symm
theorem Mem.rot3' {w0 w : World} {X : List Nat} {a b c : fF} (M : Mem w0 X [a, b, c] w) : Mem w0 X [c, a, b] w := M.perm (List.perm_append_comm (l₁ := [a, b]) (l₂ := [c]))
theorem aRx {xs : List Body} {cs : List Con} {n : Nat} (hs : cS xs) (hb : ∀ b ∈ xs, Okb b) (hcs : ∀ c ∈ cs, OkC xs c) (hn : cs.length = n) (hl : n ≤ 8589934592) {b : Body} (h : b ∈ xs) : (-1152921504606846976 ≤ gQ xs cs (·.nx) b ∧ gQ xs cs (·.nx) b ≤ 1152921504606846976) ∧ -1152921504606846976 ≤ gQ xs cs (·.ny) b ∧ gQ xs cs (·.ny) b ≤ 1152921504606846976 := by
 have h1 := rK (cs := cs) (g := (·.nx)) hs hb hcs (fun c h => (hcs c h).n.x) h
 have h2 := rK (cs := cs) (g := (·.ny)) hs hb hcs (fun c h => (hcs c h).n.y) h
 omega
set_option maxHeartbeats 4000000 in
theorem aXz (w : World) (A : Option Addr) (n c : Nat) (xs : List Body) (R : Rd w 10 A n (xs.map aF)) (hs : cS xs) (hb : ∀ b ∈ xs, Okb b) (hn : n ≤ 1048576) (B : Option Addr) (mc c' : Nat) (cs : List Con) (R' : Rd w 5 B mc (cs.map cG)) (hcs : ∀ c ∈ cs, OkC xs c) (hmc : mc ≤ 8589934592) :
  Calls Tryz.prog 138 #[.slice A n c, .slice B mc c'] w (fun ex w' => ∃ v, ex = .returned v ∧ (fun v w' => ∃ rx ry : Row, v = .tuple #[.slice rx.A rx.n rx.c, .slice ry.A ry.n ry.c] ∧ bH 2 1 rx.A rx.n rx.c ((xs.map (fun b => gQ xs cs (·.nx) b)).map dC) rx.e ∧ bH 2 1 ry.A ry.n ry.c ((xs.map (fun b => gQ xs cs (·.ny) b)).map dC) ry.e ∧ Mem w [] [rx.e, ry.e] w') v w') := by
 have hlen : xs.length = n := by simpa using R.len
 have hbd := R.bound
 have hclen : cs.length = mc := by simpa using R'.len
 have hbd' := R'.bound
 have hz0 : ∀ g : Con → Int, List.replicate n ([.int .i64 0] : List Value) = (xs.map (fun b => gQ xs (cs.take 0) g b)).map dC := fun g => by rw [bBk, aQs hlen (0 : Int)]; exact congrArg (List.map dC) (List.map_congr_left (fun b _ => (aFk xs cs g b).symm))
 refine aI #[.tmp 4, .tmp 5] 28 Tryz.func138 rfl Tryz.results138 Tryz.ntmps138 rfl ?_
 have M0 := Mem.refl w
 refine aE (aA (eN rfl rfl (eN rfl rfl (aB (aC (aE (aHf [(0, 0), (1, 0), (2, 0), (4, 0), (5, 0)] 3 6 [(6, 2), (7, 0), (8, 2), (9, 0)] [(3, 2), (7, 0), (8, 2), (9, 0)] mixed rfl (by kernel_rfl) (fun w1 hb1 hh1 => ?_))))))))
 have M1 := M0.drew hb1 hh1
 refine qT rfl rfl rfl (fun _ => aH (.slice _ _ _) rfl) (qT rfl rfl rfl (fun _ => aH (.slice _ _ _) rfl) (qT rfl rfl rfl (fun _ => dB Tryz.underlying22 rfl) (qT rfl rfl rfl (fun _ => aH (.slice _ _ _) rfl) (qT rfl rfl rfl (fun _ => dB Tryz.underlying22 rfl) ?_))))
 refine aAi ?_ ?_
 ·refine dS [] rfl (by kernel_rfl) (lP (n) [.int .i64 0] oR aCo rfl M1 rfl rfl rfl rfl rfl rfl (by omega) (by omega) (fun b2 w2 M2 => ?_))
  have hL10 := jT (T := 2) (sz := 1) (b := b2) (nn := n) (List.replicate n [.int .i64 0]) (fun l hl => by rw [List.eq_of_mem_replicate hl]; rfl) (by simp) (by omega)
  rw [hz0 (·.nx)] at hL10
  rw [hz0 (·.nx)] at M2
  refine aB (aC ⟨dT, ?_⟩)
  refine dS [] rfl (by kernel_rfl) (lP (n) [.int .i64 0] oR aCo rfl M2 rfl rfl rfl rfl rfl rfl (by omega) (by omega) (fun b3 w3 M3 => ?_))
  have hL13 := jT (T := 2) (sz := 1) (b := b3) (nn := n) (List.replicate n [.int .i64 0]) (fun l hl => by rw [List.eq_of_mem_replicate hl]; rfl) (by simp) (by omega)
  rw [hz0 (·.ny)] at hL13
  rw [hz0 (·.ny)] at M3
  refine aB (aC ⟨dT, ?_⟩)
  refine aX rfl rfl rfl (fun _ => cP [(0, .slice _ _ _), (1, .slice _ _ _), (2, .slice _ _ _)] _ aFo rfl rfl) (dS [] rfl (by kernel_rfl) (bP (.agg (List.toArray _)) M3 rfl rfl rfl (fun b4 w4 M4 => ?_)))
  refine aB (aC ⟨dT, ?_⟩)
  refine aX rfl rfl rfl (fun _ => aJ (.pointer _) rfl) (bY (aC (aE (aA (dN rfl rfl (wq (aH (.pointer _) rfl) rfl (wq (dU [.pointer _] [] rfl rfl) rfl ?_)))))))
  have M5 : Mem _ _ [_, _, _] _ := Mem.rot3' M4
  refine bZ aYh rfl rfl (aMf _ b4 ⟨some ⟨b2, 0, none⟩, n, n, (some b2, bc ((xs.map (fun b => gQ xs (cs.take 0) (·.nx) b)).map dC).flatten 2)⟩ ⟨some ⟨b3, 0, none⟩, n, n, (some b3, bc ((xs.map (fun b => gQ xs (cs.take 0) (·.ny) b)).map dC).flatten 2)⟩ A n c xs (R.mem M5) hs hb B mc c' cs (R'.mem M5) hcs hmc hL10 hL13 (M5.ownSeg 0 3) (M5.away 0 3 R (by simp)) (M5.away 0 3 R' (by simp))) ?_
  rintro v6 w6 ⟨rfl, ex, ey, hqx, hqy, hM6⟩
  have M6 : Mem _ _ [_, _, _] _ := M5.seg 0 3 hM6
  refine aB (aC (aE (bR [(0, 0), (1, 0), (2, 0), (3, 1), (4, 0), (5, 0), (6, 0), (7, 1), (8, 0), (9, 0)] mixed rfl (by kernel_rfl) (fun w7 hb7 hh7 => ?_))))
  have M7 := M6.drew hb7 hh7
  refine aX rfl rfl rfl (fun _ => aH (.pointer _) rfl) (aX rfl rfl rfl (fun _ => bB rfl) (aX rfl rfl rfl (fun _ => aD 1 pU rfl) (bV rfl rfl rfl (aM 0 (.slice _ _ _) nC M7 rfl rfl rfl) (aX rfl rfl rfl (fun _ => aH (.pointer _) rfl) (aX rfl rfl rfl (fun _ => bB rfl) ?_)))))
  refine aX rfl rfl rfl (fun _ => aD 2 pR rfl) (bV rfl rfl rfl (aM 0 (.slice _ _ _) nC M7 rfl rfl rfl) (aX rfl rfl rfl (fun _ => aJ (.slice _ _ _) rfl) (aX rfl rfl rfl (fun _ => aJ (.slice _ _ _) rfl) (bY (aC (aP ?_))))))
  refine gA (.slice _ _ _) (.slice _ _ _) rfl rfl ?_
  exact ⟨⟨(some ⟨b2, 0, none⟩), n, n, ex⟩, ⟨(some ⟨b3, 0, none⟩), n, n, ey⟩, rfl, hqx, hqy, M7.keep [false, true, true]⟩
 ·refine dS [] rfl (by kernel_rfl) (lP (n) [.int .i64 0] oR aCo rfl M1 rfl rfl rfl rfl rfl rfl (by omega) (by omega) (fun b8 w8 M8 => ?_))
  have hL13 := jT (T := 2) (sz := 1) (b := b8) (nn := n) (List.replicate n [.int .i64 0]) (fun l hl => by rw [List.eq_of_mem_replicate hl]; rfl) (by simp) (by omega)
  rw [hz0 (·.ny)] at hL13
  rw [hz0 (·.ny)] at M8
  refine aB (aC ⟨dT, ?_⟩)
  refine dS [] rfl (by kernel_rfl) (lP (n) [.int .i64 0] oR aCo rfl M8 rfl rfl rfl rfl rfl rfl (by omega) (by omega) (fun b9 w9 M9 => ?_))
  have hL10 := jT (T := 2) (sz := 1) (b := b9) (nn := n) (List.replicate n [.int .i64 0]) (fun l hl => by rw [List.eq_of_mem_replicate hl]; rfl) (by simp) (by omega)
  rw [hz0 (·.nx)] at hL10
  rw [hz0 (·.nx)] at M9
  refine aB (aC ⟨dT, ?_⟩)
  refine aX rfl rfl rfl (fun _ => cP [(0, .slice _ _ _), (1, .slice _ _ _), (2, .slice _ _ _)] _ aFo rfl rfl) (dS [] rfl (by kernel_rfl) (bP (.agg (List.toArray _)) M9 rfl rfl rfl (fun b10 w10 M10 => ?_)))
  refine aB (aC ⟨dT, ?_⟩)
  refine aX rfl rfl rfl (fun _ => aJ (.pointer _) rfl) (bY (aC (aE (aA (dN rfl rfl (wq (aH (.pointer _) rfl) rfl (wq (dU [.pointer _] [] rfl rfl) rfl ?_)))))))
  have M11 : Mem _ _ [_, _, _] _ := Mem.rot3 M10
  refine bZ aYh rfl rfl (aMf _ b10 ⟨some ⟨b9, 0, none⟩, n, n, (some b9, bc ((xs.map (fun b => gQ xs (cs.take 0) (·.nx) b)).map dC).flatten 2)⟩ ⟨some ⟨b8, 0, none⟩, n, n, (some b8, bc ((xs.map (fun b => gQ xs (cs.take 0) (·.ny) b)).map dC).flatten 2)⟩ A n c xs (R.mem M11) hs hb B mc c' cs (R'.mem M11) hcs hmc hL10 hL13 (M11.ownSeg 0 3) (M11.away 0 3 R (by simp)) (M11.away 0 3 R' (by simp))) ?_
  rintro v12 w12 ⟨rfl, ex, ey, hqx, hqy, hM12⟩
  have M12 : Mem _ _ [_, _, _] _ := M11.seg 0 3 hM12
  refine aB (aC (aE (bR [(0, 0), (1, 0), (2, 0), (3, 1), (4, 0), (5, 0), (6, 0), (7, 1), (8, 0), (9, 0)] mixed rfl (by kernel_rfl) (fun w13 hb13 hh13 => ?_))))
  have M13 := M12.drew hb13 hh13
  refine aX rfl rfl rfl (fun _ => aH (.pointer _) rfl) (aX rfl rfl rfl (fun _ => bB rfl) (aX rfl rfl rfl (fun _ => aD 1 pU rfl) (bV rfl rfl rfl (aM 0 (.slice _ _ _) nC M13 rfl rfl rfl) (aX rfl rfl rfl (fun _ => aH (.pointer _) rfl) (aX rfl rfl rfl (fun _ => bB rfl) ?_)))))
  refine aX rfl rfl rfl (fun _ => aD 2 pR rfl) (bV rfl rfl rfl (aM 0 (.slice _ _ _) nC M13 rfl rfl rfl) (aX rfl rfl rfl (fun _ => aJ (.slice _ _ _) rfl) (aX rfl rfl rfl (fun _ => aJ (.slice _ _ _) rfl) (bY (aC (aP ?_))))))
  refine gA (.slice _ _ _) (.slice _ _ _) rfl rfl ?_
  exact ⟨⟨(some ⟨b9, 0, none⟩), n, n, ex⟩, ⟨(some ⟨b8, 0, none⟩), n, n, ey⟩, rfl, hqx, hqy, M13.keep [false, true, true]⟩
set_option maxHeartbeats 8000000 in
theorem aUl (w : World) (A : Option Addr) (n c : Nat) (xs : List Body) (R : Rd w 10 A n (xs.map aF)) (hs : cS xs) (hb : ∀ b ∈ xs, Okb b) (hn : n ≤ 1048576) (B : Option Addr) (mc c' : Nat) (cs : List Con) (R' : Rd w 5 B mc (cs.map cG)) (hcs : ∀ c ∈ cs, OkC xs c) (hmc : mc ≤ 8589934592) :
  Calls Tryz.prog 108 #[.slice A n c, .slice B mc c'] w (fun ex w' => ∃ v, ex = .returned v ∧ (fun v w' => ∃ r : Row, v = .tuple #[.slice r.A r.n r.c, .bool (aNj xs cs)] ∧ bH 40 10 r.A r.n r.c ((aBa xs cs).map aF) r.e ∧ Mem w [] [r.e] w') v w') := by
 have hlen : xs.length = n := by simpa using R.len
 have hbd := R.bound
 have hclen : cs.length = mc := by simpa using R'.len
 have hbd' := R'.bound
 refine aI #[.tmp 4, .tmp 5] 75 Tryz.func108 rfl Tryz.results108 Tryz.ntmps108 rfl ?_
 have M0 := Mem.refl w
 refine aE (aA (eN rfl rfl (wq (aJ (.bool false) rfl) rfl (aB (aC (aE (aA (dN rfl rfl (dN rfl rfl ?_)))))))))
 refine bZ bIo rfl rfl (aXz _ A n c xs (R.mem M0) hs hb hn B mc c' cs (R'.mem M0) hcs hmc) ?_
 rintro v1 w1 ⟨rx, ry, rfl, hrx, hry, hM1⟩
 have M1 : Mem _ _ [_, _] _ := M0.call0 hM1
 have hrxn : xs.length = rx.n := by simpa using hrx.1
 have hryn : xs.length = ry.n := by simpa using hry.1
 refine wq (aH (.tuple (List.toArray _)) rfl) rfl (wq (bO (.slice _ _ _) rfl rfl) rfl (wq (bO (.slice _ _ _) rfl rfl) rfl (eN rfl rfl (eN rfl rfl (aB (aC (aE (aA ?_))))))))
 refine wq (aJ (.bool false) rfl) rfl (aB (aC (aE (aA (eN rfl rfl ?_)))))
 have M2 := M1.dummy default
 refine aB (aC (aE (aE (aA (dN rfl rfl (wq (dB Tryz.underlying22 rfl) rfl (aO rfl rfl (aB (aC (aQ (dQ (σ := Nat × Row) [4, 5, 6, 7, 22, 23] (fun (k, q) => [(8, .bool ((xs.take k).any (aOj xs cs))), (9, .slice q.A q.n q.c), (24, .int .i64 (k : Int))]) (fun (k, q) w' => (k ≤ n ∧ bH 40 10 q.A q.n q.c (((xs.take k).map (uM xs cs)).map aF) q.e) ∧ Mem w [] [rx.e, ry.e, q.e] w') (fun (k, q) => n - k) (0, hJ) (bA (bv rfl rfl) (bA rfl (bA rfl dX))) (⟨⟨by omega, bH.nil _ _ _⟩, M2⟩) ?_)))))))))))
 rintro ⟨k, q⟩ ρ3 w3 ⟨⟨hk, hq⟩, hM3⟩
 have htl := List.length_take_le k xs
 have hqn : (xs.take k).length = q.n := by simpa using hq.1
 refine aE (aA (cX rfl rfl rfl rfl (aB (aC (aE ?_)))))
 refine aS rfl (fun h25 => ?_) (fun h25 => ?_)
 ·obtain ⟨xb, hxb⟩ := cT (xs := xs) (k := k) hlen (by omega)
  have hxm := List.mem_of_getElem? hxb
  have hsb := aRx hs hb hcs hclen hmc hxm
  have hvb := (hb xb hxm).v
  have hlx := eJ (xb.vx + gQ xs cs (·.nx) xb) (l := 16777216) (by decide)
  have hly := eJ (xb.vy + gQ xs cs (·.ny) xb) (l := 16777216) (by decide)
  refine aL (aC (aE (aQ (aE (aA (aO rfl rfl (wq (bN (k) dF rfl rfl rfl ((R.mem hM3).below_len (aG aF hxb)) ((R.mem hM3).someK (aG aF hxb))) rfl (wq (dJ _ bK (R.mem hM3) (aG aF hxb) rfl) rfl (aV fJ hM3 rfl rfl (fun b4 w4 M4 => (bC rfl rfl ?_)))))))))))
  refine bG 3 _ bK M4 rfl rfl rfl rfl rfl (aT rfl) rfl (fun w5 M5 => (aB (aC (aE (bR [(0, 0), (1, 0), (2, 1), (3, 0), (4, 0), (5, 0), (6, 1), (7, 1), (8, 0), (9, 2), (10, 0), (11, 0), (12, 0), (13, 0), (14, 0)] mixed rfl (by kernel_rfl) (fun w6 hb6 hh6 => ?_))))))
  have M6 := M5.drew hb6 hh6
  refine aX rfl rfl rfl (fun _ => aD 8 dP rfl) (aX rfl rfl rfl (fun _ => aD 0 cQ rfl) (bV rfl rfl rfl (aM 3 (.int _ _) aR M6 rfl rfl rfl) (aX rfl rfl rfl (fun _ => aZ dO Tryz.underlying2 rfl (fC _ (by omega) (by omega))) (kQ rfl rfl rfl (eF rfl rfl rfl ?_)))))
  refine bV rfl rfl rfl (bN (k) oR rfl rfl rfl ((hrx.rd M6 (bJ (i := 0) rfl)).below_len (aG dC (aG _ hxb))) ((hrx.rd M6 (bJ (i := 0) rfl)).someK (aG dC (aG _ hxb)))) (bV rfl rfl rfl (iS (.int _ _) iR (hrx.rd M6 (bJ (i := 0) rfl)) (aG dC (aG _ hxb)) rfl) ?_)
  refine aX rfl rfl rfl (fun _ => aY rfl rfl (by omega) (by omega)) (dS [true, true, true] rfl (by kernel_rfl) (bZ aNc rfl rfl (aDj _ (xb.vx + gQ xs cs (·.nx) xb) 16777216 ⟨by decide, by decide⟩) ?_))
  rintro v7 w7 ⟨rfl, hb7⟩
  have M7 := M6.callB hb7
  refine aB (aC ⟨dT, ?_⟩)
  refine aX rfl rfl rfl (fun _ => aH (.tuple (List.toArray _)) rfl) (aX rfl rfl rfl (fun _ => bO (.int _ _) rfl rfl) (aX rfl rfl rfl (fun _ => bO (.bool (decide _)) rfl rfl) (lM rfl rfl rfl (aX rfl rfl rfl (fun _ => aJ (.bool (decide _)) rfl) (bY ?_)))))
  refine aC (aE (bR [(0, 0), (1, 0), (2, 1), (3, 0), (4, 0), (5, 0), (6, 1), (7, 1), (8, 0), (9, 2), (10, 0), (11, 0), (12, 0), (13, 0), (14, 0)] mixed rfl (by kernel_rfl) (fun w8 hb8 hh8 => ?_)))
  have M8 := M7.drew hb8 hh8
  refine aX rfl rfl rfl (fun _ => aD 8 dP rfl) (aX rfl rfl rfl (fun _ => aD 1 cK rfl) (bV rfl rfl rfl (aM 3 (.int _ _) aR M8 rfl rfl rfl) (aX rfl rfl rfl (fun _ => aZ dO Tryz.underlying2 rfl (fC _ (by omega) (by omega))) (kQ rfl rfl rfl (eF rfl rfl rfl ?_)))))
  refine bV rfl rfl rfl (bN (k) oR rfl rfl rfl ((hry.rd M8 (bJ (i := 1) rfl)).below_len (aG dC (aG _ hxb))) ((hry.rd M8 (bJ (i := 1) rfl)).someK (aG dC (aG _ hxb)))) (bV rfl rfl rfl (iS (.int _ _) iR (hry.rd M8 (bJ (i := 1) rfl)) (aG dC (aG _ hxb)) rfl) ?_)
  refine aX rfl rfl rfl (fun _ => aY rfl rfl (by omega) (by omega)) (dS [true, true, true] rfl (by kernel_rfl) (bZ aNc rfl rfl (aDj _ (xb.vy + gQ xs cs (·.ny) xb) 16777216 ⟨by decide, by decide⟩) ?_))
  rintro v9 w9 ⟨rfl, hb9⟩
  have M9 := M8.callB hb9
  refine aB (aC ⟨dT, ?_⟩)
  refine aX rfl rfl rfl (fun _ => aH (.tuple (List.toArray _)) rfl) (aX rfl rfl rfl (fun _ => bO (.int _ _) rfl rfl) (aX rfl rfl rfl (fun _ => bO (.bool (decide _)) rfl rfl) (lM rfl rfl rfl (aX rfl rfl rfl (fun _ => aJ (.bool (decide _)) rfl) (bY ?_)))))
  refine aC (aE (aA (aO rfl rfl (wq (aZ lK Tryz.underlying21 rfl (iP _ (by omega) (by omega))) rfl (aO rfl rfl (wq (aZ lK Tryz.underlying21 rfl (iP _ (by omega) (by omega))) rfl (wq (cP [(0, .int _ _), (1, .int _ _)] _ eG rfl rfl) rfl ?_)))))))
  refine wq (aD 8 dP rfl) rfl (qP 3 _ bI M9 rfl rfl rfl rfl rfl (aT rfl) (Nat.le_of_ble_eq_true rfl) (fun w10 M10 => (aB (aC (aE (aA (wq (aH (.bool _) rfl) rfl (wq (aH (.bool _) rfl) rfl ?_))))))))
  refine jI 62 _ rfl (fun g62 => ?_) (fun g62 => ?_)
  ·refine aN rfl rfl (wq (bM true (.bool true) rfl rfl) rfl (wq (aH (.bool true) rfl) rfl (aN rfl rfl (wq (bM true (.bool true) rfl rfl) rfl (wq (aJ (.bool true) rfl) rfl ?_)))))
   refine aB (aC (aA (dN rfl rfl (wq (aU 3 bK M10 rfl rfl rfl) rfl (cU [.agg (List.toArray _)] [aF (uM xs cs xb)] rfl dF M10 rfl rfl rfl rfl (dE rfl) (by decide) (fun b11 w11 M11 => (dL 2 [aF (uM xs cs xb)] dF M11 rfl rfl rfl rfl rfl hq rfl (by simp [aF, Go.Bil.one]) (dR.ofMem 4 M11 rfl) (by omega) (fun A12 c12 e12 w12 M12 hR12 => ?_))))))))
   refine eN rfl rfl (aB (cO (aC (aA (wq (aY rfl rfl (by omega) (by omega)) rfl (aO rfl rfl ?_))))))
   refine aB ?_
   refine cD (k + 1, ⟨A12, q.n + 1, c12, e12⟩) (bA (bv rfl (by rw [cR hxb, List.any_append, List.any_cons, List.any_nil, Bool.or_false]; rw [g62, Bool.true_or])) (bA rfl (bA rfl dX))) (cL rfl (cL rfl (cL rfl (cL rfl (cL rfl (cL rfl gO)))))) ?_ ?_
   ·exact ⟨⟨by omega, by rw [cR hxb, List.map_append, List.map_append]; exact hR12⟩, M12.keep [true, true, true, false, false]⟩
   ·(show n - (k + 1) < n - k; omega)
  ·refine wq (aH (.bool (decide _)) rfl) rfl (wq (bM false (.bool (decide _)) rfl rfl) rfl (wq (aH (.bool (decide _)) rfl) rfl ?_))
   refine dI 65 rfl (fun g65 => ?_) (fun g65 => ?_)
   ·refine aN rfl rfl (wq (bM true (.bool true) rfl rfl) rfl (wq (aJ (.bool true) rfl) rfl (aB (aC (aA (dN rfl rfl (wq (aU 3 bK M10 rfl rfl rfl) rfl ?_)))))))
    refine cU [.agg (List.toArray _)] [aF (uM xs cs xb)] rfl dF M10 rfl rfl rfl rfl (dE rfl) (by decide) (fun b13 w13 M13 => (dL 2 [aF (uM xs cs xb)] dF M13 rfl rfl rfl rfl rfl hq rfl (by simp [aF, Go.Bil.one]) (dR.ofMem 4 M13 rfl) (by omega) (fun A14 c14 e14 w14 M14 hR14 => ?_)))
    refine eN rfl rfl (aB (cO (aC (aA (wq (aY rfl rfl (by omega) (by omega)) rfl (aO rfl rfl ?_))))))
    refine aB ?_
    refine cD (k + 1, ⟨A14, q.n + 1, c14, e14⟩) (bA (bv rfl (by rw [cR hxb, List.any_append, List.any_cons, List.any_nil, Bool.or_false]; rw [g62]; simp [aOj, g65])) (bA rfl (bA rfl dX))) (cL rfl (cL rfl (cL rfl (cL rfl (cL rfl (cL rfl gO)))))) ?_ ?_
    ·exact ⟨⟨by omega, by rw [cR hxb, List.map_append, List.map_append]; exact hR14⟩, M14.keep [true, true, true, false, false]⟩
    ·(show n - (k + 1) < n - k; omega)
   ·refine wq (aH (.bool (decide _)) rfl) rfl (wq (bM false (.bool (decide _)) rfl rfl) rfl (wq (aJ (.bool (decide _)) rfl) rfl (aB (aC (aA (dN rfl rfl (wq (aU 3 bK M10 rfl rfl rfl) rfl ?_)))))))
    refine cU [.agg (List.toArray _)] [aF (uM xs cs xb)] rfl dF M10 rfl rfl rfl rfl (dE rfl) (by decide) (fun b15 w15 M15 => (dL 2 [aF (uM xs cs xb)] dF M15 rfl rfl rfl rfl rfl hq rfl (by simp [aF, Go.Bil.one]) (dR.ofMem 4 M15 rfl) (by omega) (fun A16 c16 e16 w16 M16 hR16 => ?_)))
    refine eN rfl rfl (aB (cO (aC (aA (wq (aY rfl rfl (by omega) (by omega)) rfl (aO rfl rfl ?_))))))
    refine aB ?_
    refine cD (k + 1, ⟨A16, q.n + 1, c16, e16⟩) (bA (bv rfl (by rw [cR hxb, List.any_append, List.any_cons, List.any_nil, Bool.or_false]; rw [g62]; simp [aOj, g65])) (bA rfl (bA rfl dX))) (cL rfl (cL rfl (cL rfl (cL rfl (cL rfl (cL rfl gO)))))) ?_ ?_
    ·exact ⟨⟨by omega, by rw [cR hxb, List.map_append, List.map_append]; exact hR16⟩, M16.keep [true, true, true, false, false]⟩
    ·(show n - (k + 1) < n - k; omega)
 ·have hkn : k = n := by omega
  rw [List.take_of_length_le (by omega)] at hq
  refine cV (dD (dK (eO (aC (aE (aA (dN rfl rfl ?_)))))))
  refine wq (aH (.bool _) rfl) rfl (eN rfl rfl (wq (aJ (.bool _) rfl) rfl (aB (aC (aP (gA (.slice _ _ _) (.bool _) rfl rfl ?_))))))
  exact ⟨q, rN rfl (congrArg Value.bool (by rw [List.take_of_length_le (by omega)]; rfl)), hq, hM3.keep [false, false, true]⟩
set_option maxHeartbeats 4000000 in
theorem aSz (w : World) (A : Option Addr) (n c : Nat) (xs : List Body) (R : Rd w 10 A n (xs.map aF)) (hs : cS xs) (hb : ∀ b ∈ xs, Okb b) (hn : n ≤ 1048576) (B : Option Addr) (mc c' : Nat) (cs : List Con) (R' : Rd w 5 B mc (cs.map cG)) (hcs : ∀ c ∈ cs, OkC xs c) (hmc : mc ≤ 8589934592) :
  Calls Tryz.prog 73 #[.slice A n c, .slice B mc c'] w (fun ex w' => ∃ v, ex = .returned v ∧ (fun v w' => ∃ r : Row, v = .tuple #[.slice r.A r.n r.c, .bool (gL xs cs 4).2] ∧ bH 40 10 r.A r.n r.c (((gL xs cs 4).1).map aF) r.e ∧ Mem w [] [r.e] w') v w') := by
 have hlen : xs.length = n := by simpa using R.len
 have hbd := R.bound
 have hclen : cs.length = mc := by simpa using R'.len
 have hbd' := R'.bound
 refine aI #[.tmp 4, .tmp 5] 25 Tryz.func73 rfl Tryz.results73 Tryz.ntmps73 rfl ?_
 have M0 := Mem.refl w
 refine aE (aA (eN rfl rfl (wq (aJ (.bool false) rfl) rfl (aB (aC (aE (aA (wq (aJ (.bool false) rfl) rfl ?_))))))))
 have M1 := M0.dummy default
 refine aB (aC (aE (aE (aA (aO rfl rfl (aB (aC (aQ (dQ (σ := Nat × Row) [1, 4, 5] (fun (k, q) => [(0, .slice q.A q.n q.c), (6, .bool (gL xs cs k).2), (9, .int .i64 (k : Int))]) (fun (k, q) w' => (k ≤ 4 ∧ Rd w' 10 q.A q.n ((gL xs cs k).1.map aF) ∧ (0 < k → bH 40 10 q.A q.n q.c (((gL xs cs k).1).map aF) q.e)) ∧ Mem w [] [q.e] w') (fun (k, q) => 4 - k) (0, ⟨A, n, c, (none, default)⟩) (bA rfl (bA (bv rfl rfl) (bA rfl dX))) (⟨⟨by omega, R.mem M1, (fun h => absurd h (by omega))⟩, M1⟩) ?_)))))))))
 rintro ⟨k, q⟩ ρ2 w2 ⟨⟨hk, hRq, hq⟩, hM2⟩
 have hql : (gL xs cs k).1.length = q.n := by simpa using hRq.len
 have hsl := (iQ xs cs k).len
 refine aE (aA (cX rfl rfl rfl rfl (aB (aC (aE ?_)))))
 refine aS rfl (fun h10 => ?_) (fun h10 => ?_)
 ·refine aL (aC (aE (aQ (aE (aA (dN rfl rfl (dN rfl rfl (bZ bGl rfl rfl (aUl _ q.A q.n q.c (gL xs cs k).1 hRq ((iQ xs cs k).sorted hs) (pX hb k) (by omega) B mc c' cs (R'.mem hM2) (fun c h => (iQ xs cs k).okc (hcs c h)) hmc) ?_))))))))
  rintro v3 w3 ⟨r, rfl, hr, hM3⟩
  have M3 : Mem _ _ [_, _] _ := hM2.call0 hM3
  refine wq (aH (.tuple (List.toArray _)) rfl) rfl (wq (bO (.slice _ _ _) rfl rfl) rfl (wq (bO (.bool _) rfl rfl) rfl (eN rfl rfl (wq (aJ (.bool _) rfl) rfl (aB (aC (aA ?_)))))))
  refine dN rfl rfl (wq (aH (.bool _) rfl) rfl (wq (aH (.bool _) rfl) rfl ?_))
  refine jI 19 _ rfl (fun g19 => ?_) (fun g19 => ?_)
  ·refine aN rfl rfl (wq (bM true (.bool true) rfl rfl) rfl (eN rfl rfl (wq (aJ (.bool true) rfl) rfl (aB (cO ?_)))))
   refine aC (aA (wq (aY rfl rfl (by omega) (by omega)) rfl (aO rfl rfl (aB ?_))))
   refine cD (k + 1, r) (bA rfl (bA (bv rfl (by show true = (_ || _); rw [g19, Bool.true_or])) (bA rfl dX))) (cL rfl (cL rfl (cL rfl gO))) ?_ ?_
   ·exact ⟨⟨by omega, hr.rd M3 (bJ (i := 1) rfl), (fun _ => hr)⟩, M3.keep [false, true]⟩
   ·(show 4 - (k + 1) < 4 - k; omega)
  ·refine wq (aH (.bool _) rfl) rfl (wq (bM false (.bool _) rfl rfl) rfl (eN rfl rfl (wq (aJ (.bool _) rfl) rfl (aB (cO ?_)))))
   refine aC (aA (wq (aY rfl rfl (by omega) (by omega)) rfl (aO rfl rfl (aB ?_))))
   refine cD (k + 1, r) (bA rfl (bA (bv rfl (by show _ = (_ || _); rw [g19, Bool.false_or])) (bA rfl dX))) (cL rfl (cL rfl (cL rfl gO))) ?_ ?_
   ·exact ⟨⟨by omega, hr.rd M3 (bJ (i := 1) rfl), (fun _ => hr)⟩, M3.keep [false, true]⟩
   ·(show 4 - (k + 1) < 4 - k; omega)
 ·have hk4 : k = 4 := by omega
  rw [hk4] at hq
  refine cV (dD (dK (eO (aC (aE (aA (dN rfl rfl ?_)))))))
  refine wq (aH (.bool _) rfl) rfl (eN rfl rfl (wq (aJ (.bool _) rfl) rfl (aB (aC (aP (gA (.slice _ _ _) (.bool _) rfl rfl ?_))))))
  exact ⟨q, rN rfl (congrArg Value.bool (by rw [hk4])), hq (by omega), hM2⟩
set_option maxHeartbeats 4000000 in
theorem aDp (w : World) (c : Con) (a b : Body) (hc : Okn c) (ha : Okb a) (hb : Okb b) :
  Calls Tryz.prog 142 #[.agg (cG c).toArray, (.agg (aF a).toArray), (.agg (aF b).toArray)] w (fun ex w' => ∃ v, ex = .returned v ∧ (fun v w' => v = .int .i64 (nW c a b) ∧ Below w.heap.size w w') v w') := by
 have hdp := hc.d
 have hm1 := ha.m
 have hm2 := hb.m
 refine aI #[.tmp 6] 27 Tryz.func142 rfl Tryz.results142 Tryz.ntmps142 rfl ?_
 have M0 := Mem.refl w
 refine aE (aA (bP (.agg (List.toArray _)) M0 rfl rfl rfl (fun b1 w1 M1 => (bP (.agg (List.toArray _)) M1 rfl rfl rfl (fun b2 w2 M2 => (bP (.agg (List.toArray _)) M2 rfl rfl rfl (fun b3 w3 M3 => (bC rfl rfl (aB (aC (aE (aA ?_))))))))))))
 refine wq (aD 4 aCn rfl) rfl (wq (aM 0 (.int _ _) aR M3 rfl rfl rfl) rfl (wq (aZ dO Tryz.underlying2 rfl (fC _ (by omega) (by omega))) rfl (wq (fX rfl rfl (by omega) (by omega)) rfl (bC rfl rfl (aB (aC (aE (aE (aA ?_)))))))))
 refine aO rfl rfl (cX rfl rfl rfl rfl (wq (aH (.bool (decide _)) rfl) rfl ?_))
 refine dI 14 rfl (fun g14 => ?_) (fun g14 => ?_)
 ·refine aN rfl rfl (aN rfl rfl (aN rfl rfl (aN rfl rfl (aN rfl rfl (aN rfl rfl ?_)))))
  refine aN rfl rfl (aN rfl rfl (wq (bM true (.bool true) rfl rfl) rfl (aB (aC (cC rfl (aE (aA ?_)))))))
  refine bC rfl rfl (aB (aC (aP (cH (cE (.int _ _) rfl ?_)))))
  exact ⟨iE (by unfold nW; rw [if_pos (by omega)]), M3.below⟩
 ·refine wq (aD 4 eC rfl) rfl (wq (aM 1 (.int _ _) aR M3 rfl rfl rfl) rfl (cX rfl rfl rfl rfl (wq (aH (.bool (decide _)) rfl) rfl ?_)))
  refine dI 18 rfl (fun g18 => ?_) (fun g18 => ?_)
  ·refine wq (aD 4 eC rfl) rfl (wq (aM 2 (.int _ _) aR M3 rfl rfl rfl) rfl (cX rfl rfl rfl rfl (wq (bM true (.bool (decide _)) rfl rfl) rfl (wq (bM false (.bool (decide _)) rfl rfl) rfl (aB (aC ?_))))))
   refine aS rfl (fun h23 => ?_) (fun h23 => ?_)
   ·refine aE (aA (bC rfl rfl (aB (aC (aP (cH (cE (.int _ _) rfl ?_)))))))
    exact ⟨iE (by unfold nW; rw [if_pos (by omega)]), M3.below⟩
   ·refine aL (aC (aE (aA (aO rfl rfl (wq (eS rfl rfl (by omega) (by omega)) rfl (wq (jH rfl rfl (by decide)) rfl (bC rfl rfl (aB (aC (aP ?_))))))))))
    refine cE (.int _ _) rfl ?_
    exact ⟨iE (by unfold nW; rw [if_neg (by omega)]; exact oO _), M3.below⟩
  ·refine aN rfl rfl (aN rfl rfl (aN rfl rfl (wq (bM false (.bool false) rfl rfl) rfl (wq (bM false (.bool false) rfl rfl) rfl (aB (aC ?_))))))
   refine cM rfl (aL (aC (aE (aA (aO rfl rfl (wq (eS rfl rfl (by omega) (by omega)) rfl (wq (jH rfl rfl (by decide)) rfl (bC rfl rfl ?_))))))))
   refine aB (aC (aP (cE (.int _ _) rfl ?_)))
   exact ⟨iE (by unfold nW; rw [if_neg (by omega)]; exact oO _), M3.below⟩
set_option maxHeartbeats 4000000 in
theorem aFz (w : World) (c : Con) (a b : Body) (hc : Okn c) (ha : Okb a) (hb : Okb b) (hi : Bool) :
  Calls Tryz.prog 111 #[.agg (cG c).toArray, (.agg (aF a).toArray), (.agg (aF b).toArray), .bool hi] w (fun ex w' => ∃ v, ex = .returned v ∧ (fun v w' => v = .int .i64 (pK c a b (if hi = true then b.mass else a.mass)) ∧ Below w.heap.size w w') v w') := by
 have hdp := hc.d
 have hm1 := ha.m
 have hm2 := hb.m
 have hm0 : 0 ≤ (if hi = true then b.mass else a.mass) ∧ (if hi = true then b.mass else a.mass) ≤ 1048576 := by split <;> omega
 have hsr := aRe (a := a) (b := b) hc hm0
 have har := aAr (a := a) (b := b) hc
 refine aI #[.tmp 8] 36 Tryz.func111 rfl Tryz.results111 Tryz.ntmps111 rfl ?_
 have M0 := Mem.refl w
 refine aE (aA (bP (.agg (List.toArray _)) M0 rfl rfl rfl (fun b1 w1 M1 => (bP (.agg (List.toArray _)) M1 rfl rfl rfl (fun b2 w2 M2 => (bP (.agg (List.toArray _)) M2 rfl rfl rfl (fun b3 w3 M3 => (bC rfl rfl (aB (aC (aE (aA ?_))))))))))))
 refine wq (aD 4 eC rfl) rfl (wq (aM 1 (.int _ _) aR M3 rfl rfl rfl) rfl (bC rfl rfl (aB (aC (aE (aE (aA (wq (aH (.bool _) rfl) rfl (aB (aC ?_))))))))))
 refine iB _ rfl (fun h14 => ?_) (fun h14 => ?_)
 ·refine aA (wq (aD 4 eC rfl) rfl (wq (aM 2 (.int _ _) aR M3 rfl rfl rfl) rfl (bC rfl rfl (aB (aC (aE (bR [(0, 1), (1, 1), (2, 1), (4, 0), (5, 0), (6, 0), (7, 1), (8, 0), (9, 0), (10, 1), (11, 0), (12, 0), (13, 0), (3, 2), (14, 2), (15, 0), (16, 0), (17, 0), (18, 0), (19, 0)] mixed rfl (by kernel_rfl) (fun w4 hb4 hh4 => ?_))))))))
  have M4 := M3.drew hb4 hh4
  refine bV rfl rfl rfl (aU 0 eL M4 rfl rfl rfl) (bV rfl rfl rfl (aU 1 bK M4 rfl rfl rfl) (bV rfl rfl rfl (aU 2 bK M4 rfl rfl rfl) (eF rfl rfl rfl (aX rfl rfl rfl (fun _ => aZ dO Tryz.underlying2 rfl (fC _ (by omega) (by omega))) (dY 23 (.int .i64 (if hi = true then b.mass else a.mass)) (iE (by rw [h14]; rfl)) ?_)))))
  refine aX rfl rfl rfl (fun _ => aD 4 eC rfl) (bV rfl rfl rfl (aM 1 (.int _ _) aR M4 rfl rfl rfl) (aX rfl rfl rfl (fun _ => aZ dO Tryz.underlying2 rfl (fC _ (by omega) (by omega))) (aX rfl rfl rfl (fun _ => aD 4 eC rfl) (bV rfl rfl rfl (aM 2 (.int _ _) aR M4 rfl rfl rfl) ?_))))
  refine aX rfl rfl rfl (fun _ => aZ dO Tryz.underlying2 rfl (fC _ (by omega) (by omega))) (aX rfl rfl rfl (fun _ => aY rfl rfl (by omega) (by omega)) (aX rfl rfl rfl (fun _ => pE rfl rfl ) (dS [false, false, true, true, true] rfl (by kernel_rfl) (bZ aXb rfl rfl (aDp _ c a b hc ha hb) ?_))))
  rintro v5 w5 ⟨rfl, hb5⟩
  have M5 := M4.callB hb5
  refine aB (aC ⟨(eD (bL rfl (aM 2 (.int _ _) aR M5 rfl rfl rfl)) (eD (bL rfl (aM 1 (.int _ _) aR M5 rfl rfl rfl)) dT)), ?_⟩)
  refine dS [true, true] rfl (by kernel_rfl) (bZ aIz rfl rfl (aHm _ (nW c a b) (if hi = true then b.mass else a.mass) (max 1 (a.mass + b.mass)) (by omega) hm0.1 (by omega) (by omega) (by omega) (by omega) (by omega)) ?_)
  rintro v6 w6 ⟨rfl, hb6⟩
  have M6 := M5.callB hb6
  refine aB (aC ⟨dT, ?_⟩)
  refine aX rfl rfl rfl (fun _ => aH (.tuple (List.toArray _)) rfl) (aX rfl rfl rfl (fun _ => bO (.int _ _) rfl rfl) (aX rfl rfl rfl (fun _ => bO (.int _ _) rfl rfl) (lM rfl rfl rfl (lM rfl rfl rfl (bY ?_)))))
  refine aC (aE (aA (aO rfl rfl (bC rfl rfl (aB (aC (aP (cE (.int _ _) rfl ?_))))))))
  exact ⟨rfl, M6.below⟩
 ·refine aL (aC (aE (bR [(0, 1), (1, 1), (2, 1), (4, 0), (5, 0), (6, 0), (7, 1), (8, 0), (9, 0), (10, 1), (11, 0), (12, 0), (13, 0), (3, 2), (14, 2), (15, 0), (16, 0), (17, 0), (18, 0), (19, 0)] mixed rfl (by kernel_rfl) (fun w7 hb7 hh7 => ?_))))
  have M7 := M3.drew hb7 hh7
  refine bV rfl rfl rfl (aU 0 eL M7 rfl rfl rfl) (bV rfl rfl rfl (aU 1 bK M7 rfl rfl rfl) (bV rfl rfl rfl (aU 2 bK M7 rfl rfl rfl) (eF rfl rfl rfl (aX rfl rfl rfl (fun _ => aZ dO Tryz.underlying2 rfl (fC _ (by omega) (by omega))) (dY 23 (.int .i64 (if hi = true then b.mass else a.mass)) (iE (by rw [h14]; rfl)) ?_)))))
  refine aX rfl rfl rfl (fun _ => aD 4 eC rfl) (bV rfl rfl rfl (aM 1 (.int _ _) aR M7 rfl rfl rfl) (aX rfl rfl rfl (fun _ => aZ dO Tryz.underlying2 rfl (fC _ (by omega) (by omega))) (aX rfl rfl rfl (fun _ => aD 4 eC rfl) (bV rfl rfl rfl (aM 2 (.int _ _) aR M7 rfl rfl rfl) ?_))))
  refine aX rfl rfl rfl (fun _ => aZ dO Tryz.underlying2 rfl (fC _ (by omega) (by omega))) (aX rfl rfl rfl (fun _ => aY rfl rfl (by omega) (by omega)) (aX rfl rfl rfl (fun _ => pE rfl rfl ) (dS [false, false, true, true, true] rfl (by kernel_rfl) (bZ aXb rfl rfl (aDp _ c a b hc ha hb) ?_))))
  rintro v8 w8 ⟨rfl, hb8⟩
  have M8 := M7.callB hb8
  refine aB (aC ⟨(eD (bL rfl (aM 2 (.int _ _) aR M8 rfl rfl rfl)) (eD (bL rfl (aM 1 (.int _ _) aR M8 rfl rfl rfl)) dT)), ?_⟩)
  refine dS [true, true] rfl (by kernel_rfl) (bZ aIz rfl rfl (aHm _ (nW c a b) (if hi = true then b.mass else a.mass) (max 1 (a.mass + b.mass)) (by omega) hm0.1 (by omega) (by omega) (by omega) (by omega) (by omega)) ?_)
  rintro v9 w9 ⟨rfl, hb9⟩
  have M9 := M8.callB hb9
  refine aB (aC ⟨dT, ?_⟩)
  refine aX rfl rfl rfl (fun _ => aH (.tuple (List.toArray _)) rfl) (aX rfl rfl rfl (fun _ => bO (.int _ _) rfl rfl) (aX rfl rfl rfl (fun _ => bO (.int _ _) rfl rfl) (lM rfl rfl rfl (lM rfl rfl rfl (bY ?_)))))
  refine aC (aE (aA (aO rfl rfl (bC rfl rfl (aB (aC (aP (cE (.int _ _) rfl ?_))))))))
  exact ⟨rfl, M9.below⟩
set_option maxHeartbeats 4000000 in
theorem aCf (w : World) (bo bk : Nat) (cn : Con) (q : Row) (l : List (Int × Int)) (hq : bH 135 2 q.A q.n q.c ((l).map cI) q.e) (p : Nat) (s z : Int) (f : Int × Int) (hp : l[p]? = some f) (hs : 0 ≤ s ∧ s ≤ 1073741824) (hz : z = 1 ∨ z = -1) (hc : Okn cn) (hf : (-1152921504606846976 ≤ f.1 ∧ f.1 ≤ 1152921504606846976) ∧ -1152921504606846976 ≤ f.2 ∧ f.2 ≤ 1152921504606846976) (hO : Own [(some bo, bc [.slice q.A q.n q.c] 97), q.e, (some bk, bc (cG cn) 121)] w) :
  Calls Tryz.prog 110 #[.int .i64 (p : Int), .int .i64 s, .int .i64 z, .pointer (some ⟨bo, 0, none⟩), .pointer (some ⟨bk, 0, none⟩)] w (fun ex w' => ∃ v, ex = .returned v ∧ (fun v w' => v = .tuple #[] ∧ ∃ e : fF, bH 135 2 q.A q.n q.c ((l.set p (aKh s z cn f)).map cI) e ∧ Mem w (cY [(some bo, bc [.slice q.A q.n q.c] 97), q.e, (some bk, bc (cG cn) 121)]) [(some bo, bc [.slice q.A q.n q.c] 97), e, (some bk, bc (cG cn) 121)] w') v w') := by
 have hcx := hc.x
 have hcy := hc.y
 have hl : l.length = q.n := by simpa using hq.1
 have hpl := (List.getElem?_eq_some_iff.1 hp).1
 have r1 := lB hs hc.x
 have r2 := lB hs hc.y
 have hp2 : (l.set p (f.1 + z * (s * cn.nx / 65536), f.2))[p]? = some (f.1 + z * (s * cn.nx / 65536), f.2) := by rw [List.getElem?_set_self hpl]
 have z1 : -1073741824 ≤ z * (s * cn.nx / 65536) ∧ z * (s * cn.nx / 65536) ≤ 1073741824 := by rcases hz with rfl | rfl <;> omega
 have z2 : -1073741824 ≤ z * (s * cn.ny / 65536) ∧ z * (s * cn.ny / 65536) ≤ 1073741824 := by rcases hz with rfl | rfl <;> omega
 refine aI #[] 42 Tryz.func110 rfl Tryz.results110 Tryz.ntmps110 rfl ?_
 have M0 := hO.mem
 refine aE (bR [(0, 1), (1, 0), (2, 1), (3, 1), (4, 1), (5, 0), (6, 0), (7, 0), (8, 0), (9, 1), (10, 0), (11, 0), (12, 0), (13, 0), (14, 0), (15, 1), (16, 1), (17, 2)] mixed rfl (by kernel_rfl) (fun w1 hb1 hh1 => ?_))
 have M1 := M0.drew hb1 hh1
 refine bV rfl rfl rfl (aM 0 (.slice _ _ _) aFj M1 rfl rfl rfl) (eF rfl rfl rfl (bV rfl rfl rfl (bN (p) aOl rfl rfl rfl ((hq.rd M1 (bJ (i := 1) rfl)).below_len (aG cI hp)) ((hq.rd M1 (bJ (i := 1) rfl)).someK (aG cI hp))) (bV rfl rfl rfl (bE 0 aCe (hq.rd M1 (bJ (i := 1) rfl)) (Nat.lt_of_le_of_lt (Nat.zero_le _) ((hq.rd M1 (bJ (i := 1) rfl)).below_len (aG cI hp))) rfl) ?_)))
 refine bV rfl rfl rfl (dV (o := 0) (.int _ _) iR (hq.rd M1 (bJ (i := 1) rfl)) (aG cI hp) rfl rfl) (eF rfl rfl rfl (eF rfl rfl rfl (aX rfl rfl rfl (fun _ => aD 2 gP rfl) (aX rfl rfl rfl (fun _ => aD 0 cQ rfl) (bV rfl rfl rfl (aM 2 (.int _ _) aR M1 rfl rfl rfl) ?_)))))
 refine aX rfl rfl rfl (fun _ => aZ dO Tryz.underlying2 rfl (fC _ (by omega) (by omega))) (aX rfl rfl rfl (fun _ => eS rfl rfl (by omega) (by omega)) (aX rfl rfl rfl (fun _ => jH rfl rfl (by decide)) (dY 20 (.int .i64 (s * cn.nx / 65536)) (iE (oO _)) (aX rfl rfl rfl (fun _ => eS rfl rfl (by omega) (by omega)) ?_))))
 refine aX rfl rfl rfl (fun _ => aY rfl rfl (by omega) (by omega)) (bV rfl rfl rfl (bN (p) aOl rfl rfl rfl ((hq.rd M1 (bJ (i := 1) rfl)).below_len (aG cI hp)) ((hq.rd M1 (bJ (i := 1) rfl)).someK (aG cI hp))) (bV rfl rfl rfl (bE 0 aCe (hq.rd M1 (bJ (i := 1) rfl)) (Nat.lt_of_le_of_lt (Nat.zero_le _) ((hq.rd M1 (bJ (i := 1) rfl)).below_len (aG cI hp))) rfl) ?_))
 refine dS [true, true, true, true, true, true, true] rfl (by kernel_rfl) (aIh (o := 0) 1 (.int _ _) iR M1 rfl hq (aG cI hp) rfl rfl rfl rfl rfl (fun e2 w2 hR2 M2 => ?_))
 have hQ2 := hR2.mapSet (f := cI) (x := (f.1 + z * (s * cn.nx / 65536), f.2)) rfl
 refine aB (aC ⟨dT, ?_⟩)
 refine bY (aC (bR [(0, 1), (1, 0), (2, 1), (3, 1), (4, 1), (5, 0), (6, 0), (7, 0), (8, 0), (9, 1), (10, 0), (11, 0), (12, 0), (13, 0), (14, 0), (15, 1), (16, 1), (17, 2)] mixed rfl (by kernel_rfl) (fun w3 hb3 hh3 => ?_)))
 have M3 := M2.drew hb3 hh3
 refine bV rfl rfl rfl (aM 0 (.slice _ _ _) aFj M3 rfl rfl rfl) (eF rfl rfl rfl (bV rfl rfl rfl (bN (p) aOl rfl rfl rfl ((hQ2.rd M3 (bJ (i := 1) rfl)).below_len (aG cI hp2)) ((hQ2.rd M3 (bJ (i := 1) rfl)).someK (aG cI hp2))) (bV rfl rfl rfl (bE 1 aDl (hQ2.rd M3 (bJ (i := 1) rfl)) (Nat.lt_of_le_of_lt (Nat.zero_le _) ((hQ2.rd M3 (bJ (i := 1) rfl)).below_len (aG cI hp2))) rfl) ?_)))
 refine bV rfl rfl rfl (dV (o := 1) (.int _ _) iR (hQ2.rd M3 (bJ (i := 1) rfl)) (aG cI hp2) rfl rfl) (eF rfl rfl rfl (eF rfl rfl rfl (aX rfl rfl rfl (fun _ => aD 2 gP rfl) (aX rfl rfl rfl (fun _ => aD 1 cK rfl) (bV rfl rfl rfl (aM 2 (.int _ _) aR M3 rfl rfl rfl) ?_)))))
 refine aX rfl rfl rfl (fun _ => aZ dO Tryz.underlying2 rfl (fC _ (by omega) (by omega))) (aX rfl rfl rfl (fun _ => eS rfl rfl (by omega) (by omega)) (aX rfl rfl rfl (fun _ => jH rfl rfl (by decide)) (dY 37 (.int .i64 (s * cn.ny / 65536)) (iE (oO _)) (aX rfl rfl rfl (fun _ => eS rfl rfl (by omega) (by omega)) ?_))))
 refine aX rfl rfl rfl (fun _ => aY rfl rfl (by omega) (by omega)) (bV rfl rfl rfl (bN (p) aOl rfl rfl rfl ((hQ2.rd M3 (bJ (i := 1) rfl)).below_len (aG cI hp2)) ((hQ2.rd M3 (bJ (i := 1) rfl)).someK (aG cI hp2))) (bV rfl rfl rfl (bE 1 aDl (hQ2.rd M3 (bJ (i := 1) rfl)) (Nat.lt_of_le_of_lt (Nat.zero_le _) ((hQ2.rd M3 (bJ (i := 1) rfl)).below_len (aG cI hp2))) rfl) ?_))
 refine dS [true, true, true, true, true, true, true] rfl (by kernel_rfl) (aIh (o := 1) 1 (.int _ _) iR M3 rfl hQ2 (aG cI hp2) rfl rfl rfl rfl rfl (fun e4 w4 hR4 M4 => ?_))
 have hQ4 := hR4.mapSet (f := cI) (x := aKh s z cn f) rfl
 rw [List.set_set] at hQ4
 refine aB (aC ⟨dT, ?_⟩)
 refine bY (kR ?_)
 exact ⟨rfl, e4, hQ4, M4⟩
theorem Mem.swap2 {w0 w : World} {X : List Nat} {a b : fF} (M : Mem w0 X [a, b] w) : Mem w0 X [b, a] w := M.perm (List.Perm.swap b a [])
theorem zY {xs : List Body} {cs : List Con} {n : Nat} (hs : cS xs) (hb : ∀ b ∈ xs, Okb b) (hcs : ∀ c ∈ cs, OkC xs c) (hn : cs.length = n) (hl : n ≤ 1073741824) (k : Nat) {b : Body} (h : b ∈ xs) : (-1152921504606846976 ≤ (jG xs (cs.take k) b).1 ∧ (jG xs (cs.take k) b).1 ≤ 1152921504606846976) ∧ -1152921504606846976 ≤ (jG xs (cs.take k) b).2 ∧ (jG xs (cs.take k) b).2 ≤ 1152921504606846976 := by
 have ht : (cs.take k).length ≤ cs.length := by rw [List.length_take]; omega
 have h1 := aLh (cs := cs.take k) (g := (·.nx)) hs hb (fun c h => hcs c (List.mem_of_mem_take h)) (fun c h => (hcs c (List.mem_of_mem_take h)).n.x) h
 have h2 := aLh (cs := cs.take k) (g := (·.ny)) hs hb (fun c h => hcs c (List.mem_of_mem_take h)) (fun c h => (hcs c (List.mem_of_mem_take h)).n.y) h
 unfold jG
 simp only
 omega
set_option maxHeartbeats 8000000 in
theorem aOg (w : World) (A : Option Addr) (n c : Nat) (xs : List Body) (R : Rd w 10 A n (xs.map aF)) (hs : cS xs) (hb : ∀ b ∈ xs, Okb b) (hn : n ≤ 1048576) (B : Option Addr) (mc c' : Nat) (cs : List Con) (R' : Rd w 5 B mc (cs.map cG)) (hcs : ∀ c ∈ cs, OkC xs c) (hmc : mc ≤ 1073741824) :
  Calls Tryz.prog 74 #[.slice A n c, .slice B mc c'] w (fun ex w' => ∃ v, ex = .returned v ∧ (fun v w' => ∃ r : Row, v = .slice r.A r.n r.c ∧ bH 135 2 r.A r.n r.c ((xs.map (jG xs cs)).map cI) r.e ∧ Mem w [] [r.e] w') v w') := by
 have hlen : xs.length = n := by simpa using R.len
 have hbd := R.bound
 have hclen : cs.length = mc := by simpa using R'.len
 have hbd' := R'.bound
 have hz0 : List.replicate n ([.int .i64 0, .int .i64 0] : List Value) = (xs.map (jG xs (cs.take 0))).map cI := by rw [bCw, aQs hlen ((0, 0) : Int × Int)]; exact congrArg (List.map cI) (List.map_congr_left (fun b _ => Prod.ext (tI xs cs (·.nx) b).symm (tI xs cs (·.ny) b).symm))
 refine aI #[.tmp 4] 67 Tryz.func74 rfl Tryz.results74 Tryz.ntmps74 rfl ?_
 have M0 := Mem.refl w
 refine aE (aA (eN rfl rfl (aB (aC (aE (aA (dN rfl rfl (wq (dB Tryz.underlying22 rfl) rfl (lP (n) [.int .i64 0, .int .i64 0] aOl bDe rfl M0 rfl rfl rfl rfl rfl rfl (by omega) (by omega) (fun b1 w1 M1 => ?_))))))))))
 have hL15 := jT (T := 135) (sz := 2) (b := b1) (nn := n) (List.replicate n [.int .i64 0, .int .i64 0]) (fun l hl => by rw [List.eq_of_mem_replicate hl]; rfl) (by simp) (by omega)
 rw [hz0] at hL15
 rw [hz0] at M1
 refine aV bGi M1 rfl rfl (fun b2 w2 M2 => (cZ 1 (.slice _ _ _) aFj M2 rfl rfl rfl rfl rfl rfl (fun w3 M3 => (aB (aC (aE (aE (aA ?_))))))))
 have M4 : Mem _ _ [_, _] _ := Mem.swap2 M3
 refine dN rfl rfl (wq (dB Tryz.underlying82 rfl) rfl (aO rfl rfl (aB (aC (aQ (dQ (σ := Nat × fF) [0, 4, 5, 16, 17] (fun (k, e) => [(18, .int .i64 (k : Int))]) (fun (k, e) w' => (k ≤ mc ∧ bH 135 2 (some ⟨b1, 0, none⟩) n n ((xs.map (jG xs (cs.take k))).map cI) e) ∧ Mem w [] [(some b2, bc [.slice (some ⟨b1, 0, none⟩) n n] 97), e] w') (fun (k, e) => mc - k) (0, (some b1, bc ((xs.map (jG xs (cs.take 0))).map cI).flatten 135)) (bA rfl dX) (⟨⟨by omega, hL15⟩, M4⟩) ?_))))))
 rintro ⟨k, e⟩ ρ5 w5 ⟨⟨hk, hq⟩, hM5⟩
 refine aE (aA (cX rfl rfl rfl rfl (aB (aC (aE ?_)))))
 refine aS rfl (fun h19 => ?_) (fun h19 => ?_)
 ·obtain ⟨cn, hcn⟩ := cT (xs := cs) (k := k) hclen (by omega)
  have hc := hcs cn (List.mem_of_getElem? hcn)
  obtain ⟨pa, xa, hxa, hka, hla, hba, hma⟩ := tE hs hc.l
  obtain ⟨pb, xb, hxb, hkb, hlb, hbb, hmb⟩ := tE hs hc.h
  have hoa := hb xa hma
  have hob := hb xb hmb
  have hne := hc.ne
  have ma := hoa.m
  have mb := hob.m
  have hpab : pa ≠ pb := fun g => by subst g; rw [hxa] at hxb; injection hxb with hxb; subst hxb; omega
  refine aL (aC (aE (aQ (aE (aA (wq (bN (k) zN rfl rfl rfl ((R'.mem hM5).below_len (aG cG hcn)) ((R'.mem hM5).someK (aG cG hcn))) rfl (wq (dJ _ eL (R'.mem hM5) (aG cG hcn) rfl) rfl (aV lT hM5 rfl rfl (fun b6 w6 M6 => (bG 2 _ eL M6 rfl rfl rfl rfl rfl (aT rfl) rfl (fun w7 M7 => ?_)))))))))))
  refine aB (aC (aE (aA (dN rfl rfl (wq (aD 0 fI rfl) rfl (wq (aD 0 gB rfl) rfl (wq (aM 2 (.int _ _) bU M7 rfl rfl rfl) rfl (bZ aIr rfl rfl (sT _ cn.low _ _ _ xs (R.mem M7) hs) ?_))))))))
  rintro v8 w8 ⟨rfl, hb8⟩
  have M8 := M7.callB hb8
  refine wq (aH (.tuple (List.toArray _)) rfl) rfl (wq (bO (.int _ _) rfl rfl) rfl (aK 28 (.int .i64 (pa : Int)) (iE (by rw [hla])) (wq (bO (.bool (decide _)) rfl rfl) rfl (bC rfl rfl (wq (aJ (.bool (decide _)) rfl) rfl ?_)))))
  refine aB (aC (aE (aA (dN rfl rfl (wq (aD 0 fI rfl) rfl (wq (aD 1 jJ rfl) rfl (wq (aM 2 (.int _ _) bU M8 rfl rfl rfl) rfl (bZ aIr rfl rfl (sT _ cn.high _ _ _ xs (R.mem M8) hs) ?_))))))))
  rintro v9 w9 ⟨rfl, hb9⟩
  have M9 := M8.callB hb9
  refine wq (aH (.tuple (List.toArray _)) rfl) rfl (wq (bO (.int _ _) rfl rfl) rfl (aK 36 (.int .i64 (pb : Int)) (iE (by rw [hlb])) (wq (bO (.bool (decide _)) rfl rfl) rfl (bC rfl rfl (wq (aJ (.bool (decide _)) rfl) rfl ?_)))))
  refine aB (aC (aE (aA (wq (dU [] [.pointer _, .pointer _] rfl rfl) rfl (wq (aJ (.func _ _ _) rfl) rfl (aB (aC (aE (bR [(0, 0), (1, 0), (2, 1), (3, 0), (4, 0), (5, 1), (6, 1), (7, 0), (8, 0), (9, 1), (10, 1), (11, 2), (12, 2)] mixed rfl (by kernel_rfl) (fun w10 hb10 hh10 => ?_))))))))))
  have M10 := M9.drew hb10 hh10
  refine aX rfl rfl rfl (fun _ => aH (.func _ _ _) rfl) (eF rfl rfl rfl (bV rfl rfl rfl (aU 2 eL M10 rfl rfl rfl) (kQ rfl rfl rfl (eF rfl rfl rfl (bV rfl rfl rfl (bN (pa) dF rfl rfl rfl ((R.mem M10).below_len (aG aF hxa)) ((R.mem M10).someK (aG aF hxa))) ?_)))))
  refine bV rfl rfl rfl (dJ _ bK (R.mem M10) (aG aF hxa) rfl) (kQ rfl rfl rfl (eF rfl rfl rfl (bV rfl rfl rfl (bN (pb) dF rfl rfl rfl ((R.mem M10).below_len (aG aF hxb)) ((R.mem M10).someK (aG aF hxb))) (bV rfl rfl rfl (dJ _ bK (R.mem M10) (aG aF hxb) rfl) ?_))))
  refine dS [true, true, true, true, true] rfl (by kernel_rfl) (bZ aWr rfl rfl (aFz _ cn xa xb hc.n hoa hob false) ?_)
  rintro v11 w11 ⟨rfl, hb11⟩
  have M11 := M10.callB hb11
  refine aB (aC ⟨dT, ?_⟩)
  refine dY 50 (.int .i64 (pK cn xa xb xa.mass)) rfl (dS [] rfl (by kernel_rfl) (bZ aYn rfl rfl (aCf _ b2 b6 cn ⟨some ⟨b1, 0, none⟩, n, n, e⟩ (xs.map (jG xs (cs.take k))) hq pa (pK cn xa xb xa.mass) (-1) (jG xs (cs.take k) xa) (aG _ hxa) (yI hc.n (by omega)) (.inr rfl) hc.n (zY hs hb hcs hclen hmc k hma) (M11.ownSeg 0 3)) ?_))
  rintro v12 w12 ⟨rfl, e1, hq1, hM12⟩
  have M12 : Mem _ _ [_, _, _] _ := M11.seg 0 3 hM12
  refine aB (aC ⟨dT, ?_⟩)
  refine bY (aC (bR [(0, 0), (1, 0), (2, 1), (3, 0), (4, 0), (5, 1), (6, 1), (7, 0), (8, 0), (9, 1), (10, 1), (11, 2), (12, 2)] mixed rfl (by kernel_rfl) (fun w13 hb13 hh13 => ?_)))
  have M13 := M12.drew hb13 hh13
  refine aX rfl rfl rfl (fun _ => aH (.func _ _ _) rfl) (eF rfl rfl rfl (bV rfl rfl rfl (aU 2 eL M13 rfl rfl rfl) (kQ rfl rfl rfl (eF rfl rfl rfl (bV rfl rfl rfl (bN (pa) dF rfl rfl rfl ((R.mem M13).below_len (aG aF hxa)) ((R.mem M13).someK (aG aF hxa))) ?_)))))
  refine bV rfl rfl rfl (dJ _ bK (R.mem M13) (aG aF hxa) rfl) (kQ rfl rfl rfl (eF rfl rfl rfl (bV rfl rfl rfl (bN (pb) dF rfl rfl rfl ((R.mem M13).below_len (aG aF hxb)) ((R.mem M13).someK (aG aF hxb))) (bV rfl rfl rfl (dJ _ bK (R.mem M13) (aG aF hxb) rfl) ?_))))
  refine dS [true, true, true, true, true] rfl (by kernel_rfl) (bZ aWr rfl rfl (aFz _ cn xa xb hc.n hoa hob true) ?_)
  rintro v14 w14 ⟨rfl, hb14⟩
  have M14 := M13.callB hb14
  refine aB (aC ⟨dT, ?_⟩)
  refine dY 63 (.int .i64 (pK cn xa xb xb.mass)) rfl (dS [] rfl (by kernel_rfl) (bZ aYn rfl rfl (aCf _ b2 b6 cn ⟨some ⟨b1, 0, none⟩, n, n, e1⟩ _ hq1 pb (pK cn xa xb xb.mass) (1) (jG xs (cs.take k) xb) (uO (aG _ hxb) hpab) (yI hc.n (by omega)) (.inl rfl) hc.n (zY hs hb hcs hclen hmc k hmb) (M14.ownSeg 0 3)) ?_))
  rintro v15 w15 ⟨rfl, e2, hq2, hM15⟩
  have M15 : Mem _ _ [_, _, _] _ := M14.seg 0 3 hM15
  refine aB (aC ⟨dT, ?_⟩)
  refine bY (cO (aC (aA (wq (aY rfl rfl (by omega) (by omega)) rfl (aO rfl rfl (aB ?_))))))
  refine cD (k + 1, e2) (bA rfl dX) (cL rfl (cL rfl (cL rfl (cL rfl (cL rfl gO))))) ?_ ?_
  ·exact ⟨⟨by omega, by rw [← aSh hcn, ← bDh hs hxa hxb hka hkb hc hba hbb]; exact hq2⟩, M15.keep [true, true, false]⟩
  ·(show mc - (k + 1) < mc - k; omega)
 ·have hkn : k = mc := by omega
  rw [List.take_of_length_le (by omega)] at hq
  refine cV (dD (dK (eO (aC (aE (aA (wq (aM 0 (.slice _ _ _) aFj hM5 rfl rfl rfl) rfl ?_)))))))
  refine eN rfl rfl (aB (aC (aP (cE (.slice _ _ _) rfl ?_))))
  exact ⟨⟨(some ⟨b1, 0, none⟩), n, n, e⟩, rfl, hq, hM5.keep [false, true]⟩
end Go.Proofs.YtlmcphcgiclanaaGreatDoor
