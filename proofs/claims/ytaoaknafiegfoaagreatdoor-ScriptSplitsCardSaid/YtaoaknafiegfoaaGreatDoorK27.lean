/- Part of the proof of the laws of this seat: S20c, S20d, S20e, S20f, S20g, S20h. No conditions. -/
import Derived.Test.YtaoaknafiegfoaaGreatDoorK2
import Derived.Test.YtaoaknafiegfoaaGreatDoorK5
import Derived.Test.YtaoaknafiegfoaaGreatDoorK20
import Derived.Test.YtaoaknafiegfoaaGreatDoorK18
import Derived.Test.YtaoaknafiegfoaaGreatDoorK24
import Derived.Test.YtaoaknafiegfoaaGreatDoorK26
set_option linter.unusedVariables false
set_option linter.unusedSimpArgs false
set_option linter.unnecessarySimpa false
namespace Go.Proofs.YtaoaknafiegfoaaGreatDoor
open Go.Bil
open Go.RowKit (Below)
open Go.Proofs
set_option maxHeartbeats 8000000 in
theorem bFs (w : World) (bs : Nat) (rx ry : Row) (F G : Body → Int) (A : Option Addr) (n c : Nat) (xs : List Body) (R : Rd w 10 A n (xs.map aF)) (hs : cU xs) (hb : ∀ b ∈ xs, Okb b) (hrx : bC 2 1 rx.A rx.n rx.c ((xs.map F).map dC) rx.e) (hry : bC 2 1 ry.A ry.n ry.c ((xs.map G).map dC) ry.e) (hF : ∀ b ∈ xs, -1152921504606846976 ≤ F b ∧ F b ≤ 1152921504606846976) (hG : ∀ b ∈ xs, -1152921504606846976 ≤ G b ∧ G b ≤ 1152921504606846976) (cn : Con) (hc : OkC xs cn) (hO : Own [(some bs, bc [.slice A n c, .slice rx.A rx.n rx.c, .slice ry.A ry.n ry.c] 303), rx.e, ry.e] w) (hdA : 0 < n → ∀ q off, A = some ⟨q, off, none⟩ → q ∉ cB [(some bs, bc [.slice A n c, .slice rx.A rx.n rx.c, .slice ry.A ry.n ry.c] 303), rx.e, ry.e]) :
  Calls Tryz.prog 220 #[.pointer (some ⟨bs, 0, none⟩), .agg (cI cn).toArray] w (fun ex w' => ∃ v, ex = .returned v ∧ (fun v w' => v = .tuple #[] ∧ ∃ ex ey : eX, bC 2 1 rx.A rx.n rx.c ((xs.map (aKk xs (·.nx) cn F)).map dC) ex ∧ bC 2 1 ry.A ry.n ry.c ((xs.map (aKk xs (·.ny) cn G)).map dC) ey ∧ Mem w (cB [(some bs, bc [.slice A n c, .slice rx.A rx.n rx.c, .slice ry.A ry.n ry.c] 303), rx.e, ry.e]) [(some bs, bc [.slice A n c, .slice rx.A rx.n rx.c, .slice ry.A ry.n ry.c] 303), ex, ey] w') v w') := by
 have hlen : xs.length = n := by simpa using R.len
 have hbd := R.bound
 have hlx : xs.length = rx.n := by simpa using hrx.1
 have hly : xs.length = ry.n := by simpa using hry.1
 obtain ⟨pa, xa, hxa, hka, hla, hba, hma⟩ := uP hs hc.l
 obtain ⟨pb, xb, hxb, hkb, hlb, hbb, hmb⟩ := uP hs hc.h
 have hoa := hb xa hma
 have hob := hb xb hmb
 have hne := hc.ne
 have hpl := (List.getElem?_eq_some_iff.1 hxa).1
 have hpl2 := (List.getElem?_eq_some_iff.1 hxb).1
 have hpab : pa ≠ pb := fun g => by subst g; rw [hxa] at hxb; injection hxb with hxb; subst hxb; omega
 have ma := hoa.m
 have mb := hob.m
 have hra := pP hc.n hoa hob (m := xa.mass) (by omega)
 have hrb := pP hc.n hoa hob (m := xb.mass) (by omega)
 have gax := (kL hra.2.2 hc.n.x).2.2
 have gay := (kL hra.2.2 hc.n.y).2.2
 have gbx := (kL hrb.2.2 hc.n.x).2.2
 have gby := (kL hrb.2.2 hc.n.y).2.2
 have fa := hF xa hma
 have fb := hF xb hmb
 have ga := hG xa hma
 have gb := hG xb hmb
 have hFa : (xs.map F)[pa]? = some (F xa) := by rw [List.getElem?_map, hxa]; rfl
 have hGa : (xs.map G)[pa]? = some (G xa) := by rw [List.getElem?_map, hxa]; rfl
 have hFb : ((xs.map F).set pa (F xa - nK (kO cn xa xb) xa.mass cn.nx))[pb]? = some (F xb) := vT (by rw [List.getElem?_map, hxb]; rfl) hpab
 have hGb : ((xs.map G).set pa (G xa - nK (kO cn xa xb) xa.mass cn.ny))[pb]? = some (G xb) := vT (by rw [List.getElem?_map, hxb]; rfl) hpab
 refine aI #[] 139 Tryz.func220 rfl Tryz.results220 Tryz.ntmps220 rfl ?_
 have M0 := hO.mem
 refine aE (aA (bJ (.agg (List.toArray _)) M0 rfl rfl rfl (fun b1 w1 M1 => (aB (aC (aE (bR [(0, 0), (1, 0), (2, 0), (3, 1), (4, 0), (5, 0), (6, 1), (7, 2), (8, 0), (9, 0), (10, 0), (11, 0), (12, 0)] mixed rfl (by kernel_rfl) (fun w2 hb2 hh2 => ?_))))))))
 have M2 := M1.drew hb2 hh2
 refine aU rfl rfl rfl (fun _ => aH (.pointer _) rfl) (aU rfl rfl rfl (fun _ => bE rfl) (aU rfl rfl rfl (fun _ => aD 0 qG rfl) (bS rfl rfl rfl (aM 0 (.slice _ _ _) gA M2 rfl rfl rfl) (aU rfl rfl rfl (fun _ => aD 0 fL rfl) (aU rfl rfl rfl (fun _ => aD 0 gE rfl) ?_)))))
 refine bS rfl rfl rfl (aM 3 (.int _ _) bW M2 rfl rfl rfl) (dU [true, true] rfl (by kernel_rfl) (bY aIv rfl rfl (uH _ cn.low _ _ _ xs (R.memY M2 hdA) hs) ?_))
 rintro v3 w3 ⟨rfl, hb3⟩
 have M3 := M2.callB hb3
 refine aB (aC ⟨dT, ?_⟩)
 refine aU rfl rfl rfl (fun _ => aH (.tuple (List.toArray _)) rfl) (aU rfl rfl rfl (fun _ => bN (.int _ _) rfl rfl) (dQ 20 (.int .i64 (pa : Int)) (iE (by rw [hla])) (aU rfl rfl rfl (fun _ => bN (.bool (decide _)) rfl rfl) (mG rfl rfl rfl (aU rfl rfl rfl (fun _ => aJ (.bool (decide _)) rfl) ?_)))))
 refine bX (aC (aE (bR [(0, 0), (1, 0), (2, 0), (3, 1), (4, 0), (5, 0), (6, 1), (7, 2), (8, 0), (9, 0), (10, 0), (11, 0), (12, 0)] mixed rfl (by kernel_rfl) (fun w4 hb4 hh4 => ?_))))
 have M4 := M3.drew hb4 hh4
 refine aU rfl rfl rfl (fun _ => aH (.pointer _) rfl) (aU rfl rfl rfl (fun _ => bE rfl) (aU rfl rfl rfl (fun _ => aD 0 qG rfl) (bS rfl rfl rfl (aM 0 (.slice _ _ _) gA M4 rfl rfl rfl) (aU rfl rfl rfl (fun _ => aD 0 fL rfl) (aU rfl rfl rfl (fun _ => aD 1 jQ rfl) ?_)))))
 refine bS rfl rfl rfl (aM 3 (.int _ _) bW M4 rfl rfl rfl) (dU [true, true] rfl (by kernel_rfl) (bY aIv rfl rfl (uH _ cn.high _ _ _ xs (R.memY M4 hdA) hs) ?_))
 rintro v5 w5 ⟨rfl, hb5⟩
 have M5 := M4.callB hb5
 refine aB (aC ⟨dT, ?_⟩)
 refine aU rfl rfl rfl (fun _ => aH (.tuple (List.toArray _)) rfl) (aU rfl rfl rfl (fun _ => bN (.int _ _) rfl rfl) (dQ 31 (.int .i64 (pb : Int)) (iE (by rw [hlb])) (aU rfl rfl rfl (fun _ => bN (.bool (decide _)) rfl rfl) (mG rfl rfl rfl (aU rfl rfl rfl (fun _ => aJ (.bool (decide _)) rfl) ?_)))))
 refine bX (aC (aE (bR [(0, 1), (1, 0), (2, 0), (3, 0), (4, 1), (5, 0), (6, 1), (7, 1), (8, 0), (9, 0), (10, 0), (11, 1), (12, 0), (13, 1), (14, 1), (15, 2), (16, 0)] mixed rfl (by kernel_rfl) (fun w6 hb6 hh6 => ?_))))
 have M6 := M5.drew hb6 hh6
 refine bS rfl rfl rfl (aX 3 eV M6 rfl rfl rfl) (aU rfl rfl rfl (fun _ => aH (.pointer _) rfl) (aU rfl rfl rfl (fun _ => bE rfl) (aU rfl rfl rfl (fun _ => aD 0 qG rfl) (bS rfl rfl rfl (aM 0 (.slice _ _ _) gA M6 rfl rfl rfl) (eB rfl rfl rfl ?_)))))
 refine bS rfl rfl rfl (bO (pa) dK rfl rfl rfl ((R.memY M6 hdA).below_len (aG aF hxa)) ((R.memY M6 hdA).someK (aG aF hxa))) (bS rfl rfl rfl (dI _ bP (R.memY M6 hdA) (aG aF hxa) rfl) (aU rfl rfl rfl (fun _ => aH (.pointer _) rfl) (aU rfl rfl rfl (fun _ => bE rfl) ?_)))
 refine aU rfl rfl rfl (fun _ => aD 0 qG rfl) (bS rfl rfl rfl (aM 0 (.slice _ _ _) gA M6 rfl rfl rfl) (eB rfl rfl rfl (bS rfl rfl rfl (bO (pb) dK rfl rfl rfl ((R.memY M6 hdA).below_len (aG aF hxb)) ((R.memY M6 hdA).someK (aG aF hxb))) (bS rfl rfl rfl (dI _ bP (R.memY M6 hdA) (aG aF hxb) rfl) ?_))))
 refine dU [true, true, true, true, true, true, true] rfl (by kernel_rfl) (bY bLe rfl rfl (aIy _ cn xa xb hc.n hoa hob) ?_)
 rintro v7 w7 ⟨rfl, hb7⟩
 have M7 := M6.callB hb7
 refine aB (aC ⟨dT, ?_⟩)
 refine mG rfl rfl rfl (bX (aC (aE (bR [(0, 0), (1, 0), (2, 0), (3, 0), (4, 1), (5, 0), (6, 1), (7, 1), (8, 1), (9, 0), (10, 1), (11, 2), (12, 0), (13, 0), (14, 0), (15, 0), (16, 0)] mixed rfl (by kernel_rfl) (fun w8 hb8 hh8 => ?_)))))
 have M8 := M7.drew hb8 hh8
 refine eB rfl rfl rfl (aU rfl rfl rfl (fun _ => aH (.pointer _) rfl) (aU rfl rfl rfl (fun _ => bE rfl) (aU rfl rfl rfl (fun _ => aD 0 qG rfl) (bS rfl rfl rfl (aM 0 (.slice _ _ _) gA M8 rfl rfl rfl) (eB rfl rfl rfl ?_)))))
 refine bS rfl rfl rfl (bO (pa) dK rfl rfl rfl ((R.memY M8 hdA).below_len (aG aF hxa)) ((R.memY M8 hdA).someK (aG aF hxa))) (bS rfl rfl rfl (bG 4 eG (R.memY M8 hdA) (Nat.lt_of_le_of_lt (Nat.zero_le _) ((R.memY M8 hdA).below_len (aG aF hxa))) rfl) (bS rfl rfl rfl (dX (o := 4) (.int _ _) aV (R.memY M8 hdA) (aG aF hxa) rfl rfl) ?_))
 refine aU rfl rfl rfl (fun _ => aD 2 gZ rfl) (bS rfl rfl rfl (oQ 3 _ bM M8 rfl rfl rfl rfl) (dU [true, true, true, true, true] rfl (by kernel_rfl) (bY bDa rfl rfl (aDu _ (kO cn xa xb) xa.mass cn.nx cn.ny ⟨hra.1, hra.2.1⟩ (by omega) hra.2.2 hc.n.x hc.n.y) ?_)))
 rintro v9 w9 ⟨rfl, hb9⟩
 have M9 := M8.callB hb9
 refine aB (aC ⟨dT, ?_⟩)
 refine aU rfl rfl rfl (fun _ => aH (.tuple (List.toArray _)) rfl) (aU rfl rfl rfl (fun _ => bN (.int _ _) rfl rfl) (aU rfl rfl rfl (fun _ => bN (.int _ _) rfl rfl) (mG rfl rfl rfl (mG rfl rfl rfl (bX ?_)))))
 refine aC (aE (bR [(0, 0), (1, 0), (2, 0), (3, 1), (4, 0), (5, 0), (6, 0), (7, 0), (8, 1), (9, 0), (10, 0), (11, 0), (12, 0), (13, 1), (14, 0), (15, 1), (16, 1), (17, 0), (18, 0), (19, 0), (20, 0), (21, 0), (22, 1), (23, 0), (24, 1), (25, 1), (26, 0), (27, 0), (28, 1), (29, 2), (30, 1), (31, 2)] mixed rfl (by kernel_rfl) (fun w10 hb10 hh10 => ?_)))
 have M10 := M9.drew hb10 hh10
 refine aU rfl rfl rfl (fun _ => aH (.pointer _) rfl) (aU rfl rfl rfl (fun _ => bE rfl) (aU rfl rfl rfl (fun _ => aD 1 qV rfl) (bS rfl rfl rfl (aM 0 (.slice _ _ _) nW M10 rfl rfl rfl) (eB rfl rfl rfl (aU rfl rfl rfl (fun _ => aH (.pointer _) rfl) ?_)))))
 refine aU rfl rfl rfl (fun _ => bE rfl) (aU rfl rfl rfl (fun _ => aD 2 qI rfl) (bS rfl rfl rfl (aM 0 (.slice _ _ _) nW M10 rfl rfl rfl) (eB rfl rfl rfl (aU rfl rfl rfl (fun _ => aH (.pointer _) rfl) (aU rfl rfl rfl (fun _ => bE rfl) ?_)))))
 refine aU rfl rfl rfl (fun _ => aD 1 qV rfl) (bS rfl rfl rfl (aM 0 (.slice _ _ _) nW M10 rfl rfl rfl) (eB rfl rfl rfl (bS rfl rfl rfl (bO (pa) pQ rfl rfl rfl ((hrx.rd M10 (aZ (i := 1) rfl)).below_len (aG dC hFa)) ((hrx.rd M10 (aZ (i := 1) rfl)).someK (aG dC hFa))) ?_)))
 refine bS rfl rfl rfl (iW (.int _ _) iZ (hrx.rd M10 (aZ (i := 1) rfl)) (aG dC hFa) rfl) (eB rfl rfl rfl (aU rfl rfl rfl (fun _ => fR rfl rfl (by omega) (by omega)) (aU rfl rfl rfl (fun _ => aH (.pointer _) rfl) (aU rfl rfl rfl (fun _ => bE rfl) (aU rfl rfl rfl (fun _ => aD 2 qI rfl) ?_)))))
 refine bS rfl rfl rfl (aM 0 (.slice _ _ _) nW M10 rfl rfl rfl) (eB rfl rfl rfl (bS rfl rfl rfl (bO (pa) pQ rfl rfl rfl ((hry.rd M10 (aZ (i := 2) rfl)).below_len (aG dC hGa)) ((hry.rd M10 (aZ (i := 2) rfl)).someK (aG dC hGa))) (bS rfl rfl rfl (iW (.int _ _) iZ (hry.rd M10 (aZ (i := 2) rfl)) (aG dC hGa) rfl) ?_)))
 refine eB rfl rfl rfl (aU rfl rfl rfl (fun _ => fR rfl rfl (by omega) (by omega)) (bS rfl rfl rfl (bO (pa) pQ rfl rfl rfl ((hrx.rd M10 (aZ (i := 1) rfl)).below_len (aG dC hFa)) ((hrx.rd M10 (aZ (i := 1) rfl)).someK (aG dC hFa))) (dU [true, true, true, true, true, true, true, true, true] rfl (by kernel_rfl) ?_)))
 refine aBn 1 (.int _ _) iZ M10 rfl hrx (aG dC hFa) rfl rfl rfl rfl (fun e11 w11 hR11 M11 => ?_)
 have hQ11 := hR11.mapSet (f := dC) (x := F xa - nK (kO cn xa xb) xa.mass cn.nx) rfl
 refine aB (aC ⟨dT, ?_⟩)
 refine bS rfl rfl rfl (bO (pa) pQ rfl rfl rfl ((hry.rd M11 (aZ (i := 2) rfl)).below_len (aG dC hGa)) ((hry.rd M11 (aZ (i := 2) rfl)).someK (aG dC hGa))) (dU [true] rfl (by kernel_rfl) (aBn 2 (.int _ _) iZ M11 rfl hry (aG dC hGa) rfl rfl rfl rfl (fun e12 w12 hR12 M12 => ?_)))
 have hQ12 := hR12.mapSet (f := dC) (x := G xa - nK (kO cn xa xb) xa.mass cn.ny) rfl
 refine aB (aC ⟨dT, ?_⟩)
 refine bX (aC (aE (bR [(0, 0), (1, 0), (2, 0), (3, 0), (4, 1), (5, 0), (6, 1), (7, 1), (8, 1), (9, 0), (10, 1), (11, 2), (12, 0), (13, 0), (14, 0), (15, 0), (16, 0)] mixed rfl (by kernel_rfl) (fun w13 hb13 hh13 => ?_))))
 have M13 := M12.drew hb13 hh13
 refine eB rfl rfl rfl (aU rfl rfl rfl (fun _ => aH (.pointer _) rfl) (aU rfl rfl rfl (fun _ => bE rfl) (aU rfl rfl rfl (fun _ => aD 0 qG rfl) (bS rfl rfl rfl (aM 0 (.slice _ _ _) gA M13 rfl rfl rfl) (eB rfl rfl rfl ?_)))))
 refine bS rfl rfl rfl (bO (pb) dK rfl rfl rfl ((R.memY M13 hdA).below_len (aG aF hxb)) ((R.memY M13 hdA).someK (aG aF hxb))) (bS rfl rfl rfl (bG 4 eG (R.memY M13 hdA) (Nat.lt_of_le_of_lt (Nat.zero_le _) ((R.memY M13 hdA).below_len (aG aF hxb))) rfl) (bS rfl rfl rfl (dX (o := 4) (.int _ _) aV (R.memY M13 hdA) (aG aF hxb) rfl rfl) ?_))
 refine aU rfl rfl rfl (fun _ => aD 2 gZ rfl) (bS rfl rfl rfl (oQ 3 _ bM M13 rfl rfl rfl rfl) (dU [true, true, true, true, true] rfl (by kernel_rfl) (bY bDa rfl rfl (aDu _ (kO cn xa xb) xb.mass cn.nx cn.ny ⟨hrb.1, hrb.2.1⟩ (by omega) hrb.2.2 hc.n.x hc.n.y) ?_)))
 rintro v14 w14 ⟨rfl, hb14⟩
 have M14 := M13.callB hb14
 refine aB (aC ⟨dT, ?_⟩)
 refine aU rfl rfl rfl (fun _ => aH (.tuple (List.toArray _)) rfl) (aU rfl rfl rfl (fun _ => bN (.int _ _) rfl rfl) (aU rfl rfl rfl (fun _ => bN (.int _ _) rfl rfl) (mG rfl rfl rfl (mG rfl rfl rfl (bX ?_)))))
 refine aC (bR [(0, 0), (1, 0), (2, 0), (3, 1), (4, 0), (5, 0), (6, 0), (7, 0), (8, 1), (9, 0), (10, 0), (11, 0), (12, 0), (13, 1), (14, 0), (15, 1), (16, 1), (17, 0), (18, 0), (19, 0), (20, 0), (21, 0), (22, 1), (23, 0), (24, 1), (25, 1), (26, 0), (27, 0), (28, 1), (29, 2), (30, 1), (31, 2)] mixed rfl (by kernel_rfl) (fun w15 hb15 hh15 => ?_))
 have M15 := M14.drew hb15 hh15
 refine aU rfl rfl rfl (fun _ => aH (.pointer _) rfl) (aU rfl rfl rfl (fun _ => bE rfl) (aU rfl rfl rfl (fun _ => aD 1 qV rfl) (bS rfl rfl rfl (aM 0 (.slice _ _ _) nW M15 rfl rfl rfl) (eB rfl rfl rfl (aU rfl rfl rfl (fun _ => aH (.pointer _) rfl) ?_)))))
 refine aU rfl rfl rfl (fun _ => bE rfl) (aU rfl rfl rfl (fun _ => aD 2 qI rfl) (bS rfl rfl rfl (aM 0 (.slice _ _ _) nW M15 rfl rfl rfl) (eB rfl rfl rfl (aU rfl rfl rfl (fun _ => aH (.pointer _) rfl) (aU rfl rfl rfl (fun _ => bE rfl) ?_)))))
 refine aU rfl rfl rfl (fun _ => aD 1 qV rfl) (bS rfl rfl rfl (aM 0 (.slice _ _ _) nW M15 rfl rfl rfl) (eB rfl rfl rfl (bS rfl rfl rfl (bO (pb) pQ rfl rfl rfl ((hQ11.rd M15 (aZ (i := 1) rfl)).below_len (aG dC hFb)) ((hQ11.rd M15 (aZ (i := 1) rfl)).someK (aG dC hFb))) ?_)))
 refine bS rfl rfl rfl (iW (.int _ _) iZ (hQ11.rd M15 (aZ (i := 1) rfl)) (aG dC hFb) rfl) (eB rfl rfl rfl (aU rfl rfl rfl (fun _ => aY rfl rfl (by omega) (by omega)) (aU rfl rfl rfl (fun _ => aH (.pointer _) rfl) (aU rfl rfl rfl (fun _ => bE rfl) (aU rfl rfl rfl (fun _ => aD 2 qI rfl) ?_)))))
 refine bS rfl rfl rfl (aM 0 (.slice _ _ _) nW M15 rfl rfl rfl) (eB rfl rfl rfl (bS rfl rfl rfl (bO (pb) pQ rfl rfl rfl ((hQ12.rd M15 (aZ (i := 2) rfl)).below_len (aG dC hGb)) ((hQ12.rd M15 (aZ (i := 2) rfl)).someK (aG dC hGb))) (bS rfl rfl rfl (iW (.int _ _) iZ (hQ12.rd M15 (aZ (i := 2) rfl)) (aG dC hGb) rfl) ?_)))
 refine eB rfl rfl rfl (aU rfl rfl rfl (fun _ => aY rfl rfl (by omega) (by omega)) (bS rfl rfl rfl (bO (pb) pQ rfl rfl rfl ((hQ11.rd M15 (aZ (i := 1) rfl)).below_len (aG dC hFb)) ((hQ11.rd M15 (aZ (i := 1) rfl)).someK (aG dC hFb))) (dU [true, true, true, true, true, true, true, true, true] rfl (by kernel_rfl) ?_)))
 refine aBn 1 (.int _ _) iZ M15 rfl hQ11 (aG dC hFb) rfl rfl rfl rfl (fun e16 w16 hR16 M16 => ?_)
 have hQ16 := hR16.mapSet (f := dC) (x := F xb + nK (kO cn xa xb) xb.mass cn.nx) rfl
 refine aB (aC ⟨dT, ?_⟩)
 refine bS rfl rfl rfl (bO (pb) pQ rfl rfl rfl ((hQ12.rd M16 (aZ (i := 2) rfl)).below_len (aG dC hGb)) ((hQ12.rd M16 (aZ (i := 2) rfl)).someK (aG dC hGb))) (dU [true] rfl (by kernel_rfl) (aBn 2 (.int _ _) iZ M16 rfl hQ12 (aG dC hGb) rfl rfl rfl rfl (fun e17 w17 hR17 M17 => ?_)))
 have hQ17 := hR17.mapSet (f := dC) (x := G xb + nK (kO cn xa xb) xb.mass cn.ny) rfl
 refine aB (aC ⟨dT, ?_⟩)
 refine bX (lB ?_)
 exact ⟨rfl, e16, e17, by rw [← aTv hs hxa hxb hka hkb hc hba hbb]; exact hQ16, by rw [← aTv hs hxa hxb hka hkb hc hba hbb]; exact hQ17, M17.keep [true, true, true, false]⟩
set_option maxHeartbeats 4000000 in
theorem aOd (w : World) (bs : Nat) (rx ry : Row) (A : Option Addr) (n c : Nat) (xs : List Body) (R : Rd w 10 A n (xs.map aF)) (hs : cU xs) (hb : ∀ b ∈ xs, Okb b) (B : Option Addr) (mc c' : Nat) (cs : List Con) (R' : Rd w 5 B mc (cs.map cI)) (hcs : ∀ c ∈ cs, OkC xs c) (hmc : mc ≤ 8589934592) (hrx : bC 2 1 rx.A rx.n rx.c ((xs.map (fun b => gY xs (cs.take 0) (·.nx) b)).map dC) rx.e) (hry : bC 2 1 ry.A ry.n ry.c ((xs.map (fun b => gY xs (cs.take 0) (·.ny) b)).map dC) ry.e) (hO : Own [(some bs, bc [.slice A n c, .slice rx.A rx.n rx.c, .slice ry.A ry.n ry.c] 303), rx.e, ry.e] w) (hdA : 0 < n → ∀ q off, A = some ⟨q, off, none⟩ → q ∉ cB [(some bs, bc [.slice A n c, .slice rx.A rx.n rx.c, .slice ry.A ry.n ry.c] 303), rx.e, ry.e]) (hdB : 0 < mc → ∀ q off, B = some ⟨q, off, none⟩ → q ∉ cB [(some bs, bc [.slice A n c, .slice rx.A rx.n rx.c, .slice ry.A ry.n ry.c] 303), rx.e, ry.e]) :
  Calls Tryz.prog 219 #[.slice B mc c', .func (.func 220) #[.pointer (some ⟨bs, 0, none⟩)] #[]] w (fun ex w' => ∃ v, ex = .returned v ∧ (fun v w' => v = .tuple #[] ∧ ∃ ex ey : eX, bC 2 1 rx.A rx.n rx.c ((xs.map (fun b => gY xs cs (·.nx) b)).map dC) ex ∧ bC 2 1 ry.A ry.n ry.c ((xs.map (fun b => gY xs cs (·.ny) b)).map dC) ey ∧ Mem w (cB [(some bs, bc [.slice A n c, .slice rx.A rx.n rx.c, .slice ry.A ry.n ry.c] 303), rx.e, ry.e]) [(some bs, bc [.slice A n c, .slice rx.A rx.n rx.c, .slice ry.A ry.n ry.c] 303), ex, ey] w') v w') := by
 have hlen : xs.length = n := by simpa using R.len
 have hbd := R.bound
 have hclen : cs.length = mc := by simpa using R'.len
 have hbd' := R'.bound
 refine aI #[] 16 Tryz.func219 rfl Tryz.results219 Tryz.ntmps219 rfl ?_
 have M0 := hO.mem
 refine aE (aA (dH rfl rfl (wq (cZ Tryz.underlying166 rfl) rfl (aP rfl rfl (aB (aC (aQ (dS (σ := Nat × eX × eX) [1, 6, 7] (fun (k, ex, ey) => [(8, .int .i64 (k : Int))]) (fun (k, ex, ey) w' => (k ≤ mc ∧ bC 2 1 rx.A rx.n rx.c ((xs.map (fun b => gY xs (cs.take k) (·.nx) b)).map dC) ex ∧ bC 2 1 ry.A ry.n ry.c ((xs.map (fun b => gY xs (cs.take k) (·.ny) b)).map dC) ey) ∧ Mem w (cB [(some bs, bc [.slice A n c, .slice rx.A rx.n rx.c, .slice ry.A ry.n ry.c] 303), rx.e, ry.e]) [(some bs, bc [.slice A n c, .slice rx.A rx.n rx.c, .slice ry.A ry.n ry.c] 303), ex, ey] w') (fun (k, ex, ey) => mc - k) (0, rx.e, ry.e) (bB rfl dZ) (⟨⟨by omega, hrx, hry⟩, M0⟩) ?_))))))))
 rintro ⟨k, ex, ey⟩ ρ1 w1 ⟨⟨hk, hqx, hqy⟩, hM1⟩
 refine aE (aA (cY rfl rfl rfl rfl (aB (aC (aE ?_)))))
 refine aW rfl (fun h9 => ?_) (fun h9 => ?_)
 ·obtain ⟨cn, hcn⟩ := cV (xs := cs) (k := k) hclen (by omega)
  have hkx : ∀ b ∈ xs, -1152921504606846976 ≤ gY xs (cs.take k) (·.nx) b ∧ gY xs (cs.take k) (·.nx) b ≤ 1152921504606846976 := fun b hbm => by have := sZ (cs := cs.take k) (g := (·.nx)) hs hb (fun c h => hcs c (List.mem_of_mem_take h)) (fun c h => (hcs c (List.mem_of_mem_take h)).n.x) hbm; have := List.length_take_le k cs; omega
  have hky : ∀ b ∈ xs, -1152921504606846976 ≤ gY xs (cs.take k) (·.ny) b ∧ gY xs (cs.take k) (·.ny) b ≤ 1152921504606846976 := fun b hbm => by have := sZ (cs := cs.take k) (g := (·.ny)) hs hb (fun c h => hcs c (List.mem_of_mem_take h)) (fun c h => (hcs c (List.mem_of_mem_take h)).n.y) hbm; have := List.length_take_le k cs; omega
  refine aL (aC (aE (aQ (aE (aA (wq (bO (k) sD rfl rfl rfl ((R'.memY hM1 hdB).below_len (aG cI hcn)) ((R'.memY hM1 hdB).someK (aG cI hcn))) rfl (wq (dI _ eV (R'.memY hM1 hdB) (aG cI hcn) rfl) rfl (aT mC hM1 rfl rfl (fun b2 w2 M2 => ?_)))))))))
  refine bI 3 _ eV M2 rfl rfl rfl rfl rfl (aR rfl) rfl (fun w3 M3 => (aB (aC (aA (wq (aH (.func _ _ _) rfl) rfl (wq (aX 3 eV M3 rfl rfl rfl) rfl (bY bMa rfl rfl (bFs _ bs ⟨rx.A, rx.n, rx.c, ex⟩ ⟨ry.A, ry.n, ry.c, ey⟩ (fun b => gY xs (cs.take k) (·.nx) b) (fun b => gY xs (cs.take k) (·.ny) b) A n c xs (R.memY M3 hdA) hs hb hqx hqy hkx hky cn (hcs cn (List.mem_of_getElem? hcn)) (M3.ownSeg 0 3) (M3.away 0 3 R hdA)) ?_)))))))
  rintro v4 w4 ⟨rfl, ex2, ey2, hqx2, hqy2, hM4⟩
  have M4 : Mem _ _ [_, _, _, _] _ := M3.seg 0 3 hM4
  refine aB (cT (aC (aA (wq (aY rfl rfl (by omega) (by omega)) rfl (aP rfl rfl (aB ?_))))))
  refine cD (k + 1, ex2, ey2) (bB rfl dZ) (cK rfl (cK rfl (cK rfl gW))) ?_ ?_
  ·exact ⟨⟨by omega, by rw [← aIm hcn]; exact hqx2, by rw [← aIm hcn]; exact hqy2⟩, M4.keep [true, true, true, false]⟩
  ·(show mc - (k + 1) < mc - k; omega)
 ·have hkn : k = mc := by omega
  rw [List.take_of_length_le (by omega)] at hqx hqy
  refine cW (dE (dL (eS (lB ?_))))
  exact ⟨rfl, ex, ey, hqx, hqy, hM1⟩
theorem Mem.rot3 {w0 w : World} {X : List Nat} {a b c : eX} (M : Mem w0 X [a, b, c] w) : Mem w0 X [c, b, a] w := M.perm (List.reverse_perm [a, b, c]).symm
theorem Mem.rot3' {w0 w : World} {X : List Nat} {a b c : eX} (M : Mem w0 X [a, b, c] w) : Mem w0 X [c, a, b] w := M.perm (List.perm_append_comm (l₁ := [a, b]) (l₂ := [c]))
theorem aUl {xs : List Body} {cs : List Con} {n : Nat} (hs : cU xs) (hb : ∀ b ∈ xs, Okb b) (hcs : ∀ c ∈ cs, OkC xs c) (hn : cs.length = n) (hl : n ≤ 8589934592) {b : Body} (h : b ∈ xs) : (-1152921504606846976 ≤ gY xs cs (·.nx) b ∧ gY xs cs (·.nx) b ≤ 1152921504606846976) ∧ -1152921504606846976 ≤ gY xs cs (·.ny) b ∧ gY xs cs (·.ny) b ≤ 1152921504606846976 := by
 have h1 := sZ (cs := cs) (g := (·.nx)) hs hb hcs (fun c h => (hcs c h).n.x) h
 have h2 := sZ (cs := cs) (g := (·.ny)) hs hb hcs (fun c h => (hcs c h).n.y) h
 omega
set_option maxHeartbeats 4000000 in
theorem aZg (w : World) (A : Option Addr) (n c : Nat) (xs : List Body) (R : Rd w 10 A n (xs.map aF)) (hs : cU xs) (hb : ∀ b ∈ xs, Okb b) (hn : n ≤ 1048576) (B : Option Addr) (mc c' : Nat) (cs : List Con) (R' : Rd w 5 B mc (cs.map cI)) (hcs : ∀ c ∈ cs, OkC xs c) (hmc : mc ≤ 8589934592) :
  Calls Tryz.prog 186 #[.slice A n c, .slice B mc c'] w (fun ex w' => ∃ v, ex = .returned v ∧ (fun v w' => ∃ rx ry : Row, v = .tuple #[.slice rx.A rx.n rx.c, .slice ry.A ry.n ry.c] ∧ bC 2 1 rx.A rx.n rx.c ((xs.map (fun b => gY xs cs (·.nx) b)).map dC) rx.e ∧ bC 2 1 ry.A ry.n ry.c ((xs.map (fun b => gY xs cs (·.ny) b)).map dC) ry.e ∧ Mem w [] [rx.e, ry.e] w') v w') := by
 have hlen : xs.length = n := by simpa using R.len
 have hbd := R.bound
 have hclen : cs.length = mc := by simpa using R'.len
 have hbd' := R'.bound
 have hz0 : ∀ g : Con → Int, List.replicate n ([.int .i64 0] : List Value) = (xs.map (fun b => gY xs (cs.take 0) g b)).map dC := fun g => by rw [bFo, aSh hlen (0 : Int)]; exact congrArg (List.map dC) (List.map_congr_left (fun b _ => (aIg xs cs g b).symm))
 refine aI #[.tmp 4, .tmp 5] 28 Tryz.func186 rfl Tryz.results186 Tryz.ntmps186 rfl ?_
 have M0 := Mem.refl w
 refine aE (aA (eI rfl rfl (eI rfl rfl (aB (aC (aE (aIx [(0, 0), (1, 0), (2, 0), (4, 0), (5, 0)] 3 6 [(6, 2), (7, 0), (8, 2), (9, 0)] [(3, 2), (7, 0), (8, 2), (9, 0)] mixed rfl (by kernel_rfl) (fun w1 hb1 hh1 => ?_))))))))
 have M1 := M0.drew hb1 hh1
 refine rG rfl rfl rfl (fun _ => aH (.slice _ _ _) rfl) (rG rfl rfl rfl (fun _ => aH (.slice _ _ _) rfl) (rG rfl rfl rfl (fun _ => cZ Tryz.underlying29 rfl) (rG rfl rfl rfl (fun _ => aH (.slice _ _ _) rfl) (rG rfl rfl rfl (fun _ => cZ Tryz.underlying29 rfl) ?_))))
 refine aCd ?_ ?_
 ·refine dU [] rfl (by kernel_rfl) (mE (n) [.int .i64 0] pQ aCx rfl M1 rfl rfl rfl rfl rfl rfl (by omega) (by omega) (fun b2 w2 M2 => ?_))
  have hL10 := kB (T := 2) (sz := 1) (b := b2) (nn := n) (List.replicate n [.int .i64 0]) (fun l hl => by rw [List.eq_of_mem_replicate hl]; rfl) (by simp) (by omega)
  rw [hz0 (·.nx)] at hL10
  rw [hz0 (·.nx)] at M2
  refine aB (aC ⟨dT, ?_⟩)
  refine dU [] rfl (by kernel_rfl) (mE (n) [.int .i64 0] pQ aCx rfl M2 rfl rfl rfl rfl rfl rfl (by omega) (by omega) (fun b3 w3 M3 => ?_))
  have hL13 := kB (T := 2) (sz := 1) (b := b3) (nn := n) (List.replicate n [.int .i64 0]) (fun l hl => by rw [List.eq_of_mem_replicate hl]; rfl) (by simp) (by omega)
  rw [hz0 (·.ny)] at hL13
  rw [hz0 (·.ny)] at M3
  refine aB (aC ⟨dT, ?_⟩)
  refine aU rfl rfl rfl (fun _ => cF [(0, .slice _ _ _), (1, .slice _ _ _), (2, .slice _ _ _)] _ aHs rfl rfl) (dU [] rfl (by kernel_rfl) (bJ (.agg (List.toArray _)) M3 rfl rfl rfl (fun b4 w4 M4 => ?_)))
  refine aB (aC ⟨dT, ?_⟩)
  refine aU rfl rfl rfl (fun _ => aJ (.pointer _) rfl) (bX (aC (aE (aA (dH rfl rfl (wq (aH (.pointer _) rfl) rfl (wq (dR [.pointer _] [] rfl rfl) rfl ?_)))))))
  have M5 : Mem _ _ [_, _, _] _ := Mem.rot3' M4
  refine bY bBi rfl rfl (aOd _ b4 ⟨some ⟨b2, 0, none⟩, n, n, (some b2, bc ((xs.map (fun b => gY xs (cs.take 0) (·.nx) b)).map dC).flatten 2)⟩ ⟨some ⟨b3, 0, none⟩, n, n, (some b3, bc ((xs.map (fun b => gY xs (cs.take 0) (·.ny) b)).map dC).flatten 2)⟩ A n c xs (R.mem M5) hs hb B mc c' cs (R'.mem M5) hcs hmc hL10 hL13 (M5.ownSeg 0 3) (M5.away 0 3 R (by simp)) (M5.away 0 3 R' (by simp))) ?_
  rintro v6 w6 ⟨rfl, ex, ey, hqx, hqy, hM6⟩
  have M6 : Mem _ _ [_, _, _] _ := M5.seg 0 3 hM6
  refine aB (aC (aE (bR [(0, 0), (1, 0), (2, 0), (3, 1), (4, 0), (5, 0), (6, 0), (7, 1), (8, 0), (9, 0)] mixed rfl (by kernel_rfl) (fun w7 hb7 hh7 => ?_))))
  have M7 := M6.drew hb7 hh7
  refine aU rfl rfl rfl (fun _ => aH (.pointer _) rfl) (aU rfl rfl rfl (fun _ => bE rfl) (aU rfl rfl rfl (fun _ => aD 1 qV rfl) (bS rfl rfl rfl (aM 0 (.slice _ _ _) nW M7 rfl rfl rfl) (aU rfl rfl rfl (fun _ => aH (.pointer _) rfl) (aU rfl rfl rfl (fun _ => bE rfl) ?_)))))
  refine aU rfl rfl rfl (fun _ => aD 2 qI rfl) (bS rfl rfl rfl (aM 0 (.slice _ _ _) nW M7 rfl rfl rfl) (aU rfl rfl rfl (fun _ => aJ (.slice _ _ _) rfl) (aU rfl rfl rfl (fun _ => aJ (.slice _ _ _) rfl) (bX (aC (aO ?_))))))
  refine fY (.slice _ _ _) (.slice _ _ _) rfl rfl ?_
  exact ⟨⟨(some ⟨b2, 0, none⟩), n, n, ex⟩, ⟨(some ⟨b3, 0, none⟩), n, n, ey⟩, rfl, hqx, hqy, M7.keep [false, true, true]⟩
 ·refine dU [] rfl (by kernel_rfl) (mE (n) [.int .i64 0] pQ aCx rfl M1 rfl rfl rfl rfl rfl rfl (by omega) (by omega) (fun b8 w8 M8 => ?_))
  have hL13 := kB (T := 2) (sz := 1) (b := b8) (nn := n) (List.replicate n [.int .i64 0]) (fun l hl => by rw [List.eq_of_mem_replicate hl]; rfl) (by simp) (by omega)
  rw [hz0 (·.ny)] at hL13
  rw [hz0 (·.ny)] at M8
  refine aB (aC ⟨dT, ?_⟩)
  refine dU [] rfl (by kernel_rfl) (mE (n) [.int .i64 0] pQ aCx rfl M8 rfl rfl rfl rfl rfl rfl (by omega) (by omega) (fun b9 w9 M9 => ?_))
  have hL10 := kB (T := 2) (sz := 1) (b := b9) (nn := n) (List.replicate n [.int .i64 0]) (fun l hl => by rw [List.eq_of_mem_replicate hl]; rfl) (by simp) (by omega)
  rw [hz0 (·.nx)] at hL10
  rw [hz0 (·.nx)] at M9
  refine aB (aC ⟨dT, ?_⟩)
  refine aU rfl rfl rfl (fun _ => cF [(0, .slice _ _ _), (1, .slice _ _ _), (2, .slice _ _ _)] _ aHs rfl rfl) (dU [] rfl (by kernel_rfl) (bJ (.agg (List.toArray _)) M9 rfl rfl rfl (fun b10 w10 M10 => ?_)))
  refine aB (aC ⟨dT, ?_⟩)
  refine aU rfl rfl rfl (fun _ => aJ (.pointer _) rfl) (bX (aC (aE (aA (dH rfl rfl (wq (aH (.pointer _) rfl) rfl (wq (dR [.pointer _] [] rfl rfl) rfl ?_)))))))
  have M11 : Mem _ _ [_, _, _] _ := Mem.rot3 M10
  refine bY bBi rfl rfl (aOd _ b10 ⟨some ⟨b9, 0, none⟩, n, n, (some b9, bc ((xs.map (fun b => gY xs (cs.take 0) (·.nx) b)).map dC).flatten 2)⟩ ⟨some ⟨b8, 0, none⟩, n, n, (some b8, bc ((xs.map (fun b => gY xs (cs.take 0) (·.ny) b)).map dC).flatten 2)⟩ A n c xs (R.mem M11) hs hb B mc c' cs (R'.mem M11) hcs hmc hL10 hL13 (M11.ownSeg 0 3) (M11.away 0 3 R (by simp)) (M11.away 0 3 R' (by simp))) ?_
  rintro v12 w12 ⟨rfl, ex, ey, hqx, hqy, hM12⟩
  have M12 : Mem _ _ [_, _, _] _ := M11.seg 0 3 hM12
  refine aB (aC (aE (bR [(0, 0), (1, 0), (2, 0), (3, 1), (4, 0), (5, 0), (6, 0), (7, 1), (8, 0), (9, 0)] mixed rfl (by kernel_rfl) (fun w13 hb13 hh13 => ?_))))
  have M13 := M12.drew hb13 hh13
  refine aU rfl rfl rfl (fun _ => aH (.pointer _) rfl) (aU rfl rfl rfl (fun _ => bE rfl) (aU rfl rfl rfl (fun _ => aD 1 qV rfl) (bS rfl rfl rfl (aM 0 (.slice _ _ _) nW M13 rfl rfl rfl) (aU rfl rfl rfl (fun _ => aH (.pointer _) rfl) (aU rfl rfl rfl (fun _ => bE rfl) ?_)))))
  refine aU rfl rfl rfl (fun _ => aD 2 qI rfl) (bS rfl rfl rfl (aM 0 (.slice _ _ _) nW M13 rfl rfl rfl) (aU rfl rfl rfl (fun _ => aJ (.slice _ _ _) rfl) (aU rfl rfl rfl (fun _ => aJ (.slice _ _ _) rfl) (bX (aC (aO ?_))))))
  refine fY (.slice _ _ _) (.slice _ _ _) rfl rfl ?_
  exact ⟨⟨(some ⟨b9, 0, none⟩), n, n, ex⟩, ⟨(some ⟨b8, 0, none⟩), n, n, ey⟩, rfl, hqx, hqy, M13.keep [false, true, true]⟩
set_option maxHeartbeats 8000000 in
theorem aWm (w : World) (A : Option Addr) (n c : Nat) (xs : List Body) (R : Rd w 10 A n (xs.map aF)) (hs : cU xs) (hb : ∀ b ∈ xs, Okb b) (hn : n ≤ 1048576) (B : Option Addr) (mc c' : Nat) (cs : List Con) (R' : Rd w 5 B mc (cs.map cI)) (hcs : ∀ c ∈ cs, OkC xs c) (hmc : mc ≤ 8589934592) :
  Calls Tryz.prog 160 #[.slice A n c, .slice B mc c'] w (fun ex w' => ∃ v, ex = .returned v ∧ (fun v w' => ∃ r : Row, v = .tuple #[.slice r.A r.n r.c, .bool (aPe xs cs)] ∧ bC 39 10 r.A r.n r.c ((aFc xs cs).map aF) r.e ∧ Mem w [] [r.e] w') v w') := by
 have hlen : xs.length = n := by simpa using R.len
 have hbd := R.bound
 have hclen : cs.length = mc := by simpa using R'.len
 have hbd' := R'.bound
 refine aI #[.tmp 4, .tmp 5] 75 Tryz.func160 rfl Tryz.results160 Tryz.ntmps160 rfl ?_
 have M0 := Mem.refl w
 refine aE (aA (eI rfl rfl (wq (aJ (.bool false) rfl) rfl (aB (aC (aE (aA (dH rfl rfl (dH rfl rfl ?_)))))))))
 refine bY bLf rfl rfl (aZg _ A n c xs (R.mem M0) hs hb hn B mc c' cs (R'.mem M0) hcs hmc) ?_
 rintro v1 w1 ⟨rx, ry, rfl, hrx, hry, hM1⟩
 have M1 : Mem _ _ [_, _] _ := M0.call0 hM1
 have hrxn : xs.length = rx.n := by simpa using hrx.1
 have hryn : xs.length = ry.n := by simpa using hry.1
 refine wq (aH (.tuple (List.toArray _)) rfl) rfl (wq (bN (.slice _ _ _) rfl rfl) rfl (wq (bN (.slice _ _ _) rfl rfl) rfl (eI rfl rfl (eI rfl rfl (aB (aC (aE (aA ?_))))))))
 refine wq (aJ (.bool false) rfl) rfl (aB (aC (aE (aA (eI rfl rfl ?_)))))
 have M2 := M1.dummy default
 refine aB (aC (aE (aE (aA (dH rfl rfl (wq (cZ Tryz.underlying29 rfl) rfl (aP rfl rfl (aB (aC (aQ (dS (σ := Nat × Row) [4, 5, 6, 7, 22, 23] (fun (k, q) => [(8, .bool ((xs.take k).any (aQw xs cs))), (9, .slice q.A q.n q.c), (24, .int .i64 (k : Int))]) (fun (k, q) w' => (k ≤ n ∧ bC 39 10 q.A q.n q.c (((xs.take k).map (wI xs cs)).map aF) q.e) ∧ Mem w [] [rx.e, ry.e, q.e] w') (fun (k, q) => n - k) (0, fV) (bB (bv rfl rfl) (bB rfl (bB rfl dZ))) (⟨⟨by omega, bC.nil _ _ _⟩, M2⟩) ?_)))))))))))
 rintro ⟨k, q⟩ ρ3 w3 ⟨⟨hk, hq⟩, hM3⟩
 have htl := List.length_take_le k xs
 have hqn : (xs.take k).length = q.n := by simpa using hq.1
 refine aE (aA (cY rfl rfl rfl rfl (aB (aC (aE ?_)))))
 refine aW rfl (fun h25 => ?_) (fun h25 => ?_)
 ·obtain ⟨xb, hxb⟩ := cV (xs := xs) (k := k) hlen (by omega)
  have hxm := List.mem_of_getElem? hxb
  have hsb := aUl hs hb hcs hclen hmc hxm
  have hvb := (hb xb hxm).v
  have hlx := eO (xb.vx + gY xs cs (·.nx) xb) (l := 16777216) (by decide)
  have hly := eO (xb.vy + gY xs cs (·.ny) xb) (l := 16777216) (by decide)
  refine aL (aC (aE (aQ (aE (aA (aP rfl rfl (wq (bO (k) dK rfl rfl rfl ((R.mem hM3).below_len (aG aF hxb)) ((R.mem hM3).someK (aG aF hxb))) rfl (wq (dI _ bP (R.mem hM3) (aG aF hxb) rfl) rfl (aT fO hM3 rfl rfl (fun b4 w4 M4 => (bH rfl rfl ?_)))))))))))
  refine bI 3 _ bP M4 rfl rfl rfl rfl rfl (aR rfl) rfl (fun w5 M5 => (aB (aC (aE (bR [(0, 0), (1, 0), (2, 1), (3, 0), (4, 0), (5, 0), (6, 1), (7, 1), (8, 0), (9, 2), (10, 0), (11, 0), (12, 0), (13, 0), (14, 0)] mixed rfl (by kernel_rfl) (fun w6 hb6 hh6 => ?_))))))
  have M6 := M5.drew hb6 hh6
  refine aU rfl rfl rfl (fun _ => aD 8 dW rfl) (aU rfl rfl rfl (fun _ => aD 0 cS rfl) (bS rfl rfl rfl (aM 3 (.int _ _) aV M6 rfl rfl rfl) (aU rfl rfl rfl (fun _ => bA dP Tryz.underlying2 rfl (fG _ (by omega) (by omega))) (kN rfl rfl rfl (eB rfl rfl rfl ?_)))))
  refine bS rfl rfl rfl (bO (k) pQ rfl rfl rfl ((hrx.rd M6 (aZ (i := 0) rfl)).below_len (aG dC (aG _ hxb))) ((hrx.rd M6 (aZ (i := 0) rfl)).someK (aG dC (aG _ hxb)))) (bS rfl rfl rfl (iW (.int _ _) iZ (hrx.rd M6 (aZ (i := 0) rfl)) (aG dC (aG _ hxb)) rfl) ?_)
  refine aU rfl rfl rfl (fun _ => aY rfl rfl (by omega) (by omega)) (dU [true, true, true] rfl (by kernel_rfl) (bY aPo rfl rfl (aDq _ (xb.vx + gY xs cs (·.nx) xb) 16777216 ⟨by decide, by decide⟩) ?_))
  rintro v7 w7 ⟨rfl, hb7⟩
  have M7 := M6.callB hb7
  refine aB (aC ⟨dT, ?_⟩)
  refine aU rfl rfl rfl (fun _ => aH (.tuple (List.toArray _)) rfl) (aU rfl rfl rfl (fun _ => bN (.int _ _) rfl rfl) (aU rfl rfl rfl (fun _ => bN (.bool (decide _)) rfl rfl) (mG rfl rfl rfl (aU rfl rfl rfl (fun _ => aJ (.bool (decide _)) rfl) (bX ?_)))))
  refine aC (aE (bR [(0, 0), (1, 0), (2, 1), (3, 0), (4, 0), (5, 0), (6, 1), (7, 1), (8, 0), (9, 2), (10, 0), (11, 0), (12, 0), (13, 0), (14, 0)] mixed rfl (by kernel_rfl) (fun w8 hb8 hh8 => ?_)))
  have M8 := M7.drew hb8 hh8
  refine aU rfl rfl rfl (fun _ => aD 8 dW rfl) (aU rfl rfl rfl (fun _ => aD 1 cN rfl) (bS rfl rfl rfl (aM 3 (.int _ _) aV M8 rfl rfl rfl) (aU rfl rfl rfl (fun _ => bA dP Tryz.underlying2 rfl (fG _ (by omega) (by omega))) (kN rfl rfl rfl (eB rfl rfl rfl ?_)))))
  refine bS rfl rfl rfl (bO (k) pQ rfl rfl rfl ((hry.rd M8 (aZ (i := 1) rfl)).below_len (aG dC (aG _ hxb))) ((hry.rd M8 (aZ (i := 1) rfl)).someK (aG dC (aG _ hxb)))) (bS rfl rfl rfl (iW (.int _ _) iZ (hry.rd M8 (aZ (i := 1) rfl)) (aG dC (aG _ hxb)) rfl) ?_)
  refine aU rfl rfl rfl (fun _ => aY rfl rfl (by omega) (by omega)) (dU [true, true, true] rfl (by kernel_rfl) (bY aPo rfl rfl (aDq _ (xb.vy + gY xs cs (·.ny) xb) 16777216 ⟨by decide, by decide⟩) ?_))
  rintro v9 w9 ⟨rfl, hb9⟩
  have M9 := M8.callB hb9
  refine aB (aC ⟨dT, ?_⟩)
  refine aU rfl rfl rfl (fun _ => aH (.tuple (List.toArray _)) rfl) (aU rfl rfl rfl (fun _ => bN (.int _ _) rfl rfl) (aU rfl rfl rfl (fun _ => bN (.bool (decide _)) rfl rfl) (mG rfl rfl rfl (aU rfl rfl rfl (fun _ => aJ (.bool (decide _)) rfl) (bX ?_)))))
  refine aC (aE (aA (aP rfl rfl (wq (bA lW Tryz.underlying21 rfl (jC _ (by omega) (by omega))) rfl (aP rfl rfl (wq (bA lW Tryz.underlying21 rfl (jC _ (by omega) (by omega))) rfl (wq (cF [(0, .int _ _), (1, .int _ _)] _ fA rfl rfl) rfl ?_)))))))
  refine wq (aD 8 dW rfl) rfl (tN 3 _ bM M9 rfl rfl rfl rfl rfl (aR rfl) (Nat.le_of_ble_eq_true rfl) (fun w10 M10 => (aB (aC (aE (aA (wq (aH (.bool _) rfl) rfl (wq (aH (.bool _) rfl) rfl ?_))))))))
  refine jS 62 _ rfl (fun g62 => ?_) (fun g62 => ?_)
  ·refine aN rfl rfl (wq (bQ true (.bool true) rfl rfl) rfl (wq (aH (.bool true) rfl) rfl (aN rfl rfl (wq (bQ true (.bool true) rfl rfl) rfl (wq (aJ (.bool true) rfl) rfl ?_)))))
   refine aB (aC (aA (dH rfl rfl (wq (aX 3 bP M10 rfl rfl rfl) rfl (cR [.agg (List.toArray _)] [aF (wI xs cs xb)] rfl dK M10 rfl rfl rfl rfl (dD rfl) (by decide) (fun b11 w11 M11 => (dG 2 [aF (wI xs cs xb)] dK M11 rfl rfl rfl rfl rfl hq rfl (by simp [aF, Go.Bil.one]) (dV.ofMem 4 M11 rfl) (by omega) (fun A12 c12 e12 w12 M12 hR12 => ?_))))))))
   refine eI rfl rfl (aB (cT (aC (aA (wq (aY rfl rfl (by omega) (by omega)) rfl (aP rfl rfl ?_))))))
   refine aB ?_
   refine cD (k + 1, ⟨A12, q.n + 1, c12, e12⟩) (bB (bv rfl (by rw [cP hxb, List.any_append, List.any_cons, List.any_nil, Bool.or_false]; rw [g62, Bool.true_or])) (bB rfl (bB rfl dZ))) (cK rfl (cK rfl (cK rfl (cK rfl (cK rfl (cK rfl gW)))))) ?_ ?_
   ·exact ⟨⟨by omega, by rw [cP hxb, List.map_append, List.map_append]; exact hR12⟩, M12.keep [true, true, true, false, false]⟩
   ·(show n - (k + 1) < n - k; omega)
  ·refine wq (aH (.bool (decide _)) rfl) rfl (wq (bQ false (.bool (decide _)) rfl rfl) rfl (wq (aH (.bool (decide _)) rfl) rfl ?_))
   refine dN 65 rfl (fun g65 => ?_) (fun g65 => ?_)
   ·refine aN rfl rfl (wq (bQ true (.bool true) rfl rfl) rfl (wq (aJ (.bool true) rfl) rfl (aB (aC (aA (dH rfl rfl (wq (aX 3 bP M10 rfl rfl rfl) rfl ?_)))))))
    refine cR [.agg (List.toArray _)] [aF (wI xs cs xb)] rfl dK M10 rfl rfl rfl rfl (dD rfl) (by decide) (fun b13 w13 M13 => (dG 2 [aF (wI xs cs xb)] dK M13 rfl rfl rfl rfl rfl hq rfl (by simp [aF, Go.Bil.one]) (dV.ofMem 4 M13 rfl) (by omega) (fun A14 c14 e14 w14 M14 hR14 => ?_)))
    refine eI rfl rfl (aB (cT (aC (aA (wq (aY rfl rfl (by omega) (by omega)) rfl (aP rfl rfl ?_))))))
    refine aB ?_
    refine cD (k + 1, ⟨A14, q.n + 1, c14, e14⟩) (bB (bv rfl (by rw [cP hxb, List.any_append, List.any_cons, List.any_nil, Bool.or_false]; rw [g62]; simp [aQw, g65])) (bB rfl (bB rfl dZ))) (cK rfl (cK rfl (cK rfl (cK rfl (cK rfl (cK rfl gW)))))) ?_ ?_
    ·exact ⟨⟨by omega, by rw [cP hxb, List.map_append, List.map_append]; exact hR14⟩, M14.keep [true, true, true, false, false]⟩
    ·(show n - (k + 1) < n - k; omega)
   ·refine wq (aH (.bool (decide _)) rfl) rfl (wq (bQ false (.bool (decide _)) rfl rfl) rfl (wq (aJ (.bool (decide _)) rfl) rfl (aB (aC (aA (dH rfl rfl (wq (aX 3 bP M10 rfl rfl rfl) rfl ?_)))))))
    refine cR [.agg (List.toArray _)] [aF (wI xs cs xb)] rfl dK M10 rfl rfl rfl rfl (dD rfl) (by decide) (fun b15 w15 M15 => (dG 2 [aF (wI xs cs xb)] dK M15 rfl rfl rfl rfl rfl hq rfl (by simp [aF, Go.Bil.one]) (dV.ofMem 4 M15 rfl) (by omega) (fun A16 c16 e16 w16 M16 hR16 => ?_)))
    refine eI rfl rfl (aB (cT (aC (aA (wq (aY rfl rfl (by omega) (by omega)) rfl (aP rfl rfl ?_))))))
    refine aB ?_
    refine cD (k + 1, ⟨A16, q.n + 1, c16, e16⟩) (bB (bv rfl (by rw [cP hxb, List.any_append, List.any_cons, List.any_nil, Bool.or_false]; rw [g62]; simp [aQw, g65])) (bB rfl (bB rfl dZ))) (cK rfl (cK rfl (cK rfl (cK rfl (cK rfl (cK rfl gW)))))) ?_ ?_
    ·exact ⟨⟨by omega, by rw [cP hxb, List.map_append, List.map_append]; exact hR16⟩, M16.keep [true, true, true, false, false]⟩
    ·(show n - (k + 1) < n - k; omega)
 ·have hkn : k = n := by omega
  rw [List.take_of_length_le (by omega)] at hq
  refine cW (dE (dL (eS (aC (aE (aA (dH rfl rfl ?_)))))))
  refine wq (aH (.bool _) rfl) rfl (eI rfl rfl (wq (aJ (.bool _) rfl) rfl (aB (aC (aO (fY (.slice _ _ _) (.bool _) rfl rfl ?_))))))
  exact ⟨q, sL rfl (congrArg Value.bool (by rw [List.take_of_length_le (by omega)]; rfl)), hq, hM3.keep [false, false, true]⟩
set_option maxHeartbeats 4000000 in
theorem aWw (w : World) (A : Option Addr) (n c : Nat) (xs : List Body) (R : Rd w 10 A n (xs.map aF)) (hs : cU xs) (hb : ∀ b ∈ xs, Okb b) (hn : n ≤ 1048576) (B : Option Addr) (mc c' : Nat) (cs : List Con) (R' : Rd w 5 B mc (cs.map cI)) (hcs : ∀ c ∈ cs, OkC xs c) (hmc : mc ≤ 8589934592) :
  Calls Tryz.prog 146 #[.slice A n c, .slice B mc c'] w (fun ex w' => ∃ v, ex = .returned v ∧ (fun v w' => ∃ r : Row, v = .tuple #[.slice r.A r.n r.c, .bool (gU xs cs 4).2] ∧ bC 39 10 r.A r.n r.c (((gU xs cs 4).1).map aF) r.e ∧ Mem w [] [r.e] w') v w') := by
 have hlen : xs.length = n := by simpa using R.len
 have hbd := R.bound
 have hclen : cs.length = mc := by simpa using R'.len
 have hbd' := R'.bound
 refine aI #[.tmp 4, .tmp 5] 25 Tryz.func146 rfl Tryz.results146 Tryz.ntmps146 rfl ?_
 have M0 := Mem.refl w
 refine aE (aA (eI rfl rfl (wq (aJ (.bool false) rfl) rfl (aB (aC (aE (aA (wq (aJ (.bool false) rfl) rfl ?_))))))))
 have M1 := M0.dummy default
 refine aB (aC (aE (aE (aA (aP rfl rfl (aB (aC (aQ (dS (σ := Nat × Row) [1, 4, 5] (fun (k, q) => [(0, .slice q.A q.n q.c), (6, .bool (gU xs cs k).2), (9, .int .i64 (k : Int))]) (fun (k, q) w' => (k ≤ 4 ∧ Rd w' 10 q.A q.n ((gU xs cs k).1.map aF) ∧ (0 < k → bC 39 10 q.A q.n q.c (((gU xs cs k).1).map aF) q.e)) ∧ Mem w [] [q.e] w') (fun (k, q) => 4 - k) (0, ⟨A, n, c, (none, default)⟩) (bB rfl (bB (bv rfl rfl) (bB rfl dZ))) (⟨⟨by omega, R.mem M1, (fun h => absurd h (by omega))⟩, M1⟩) ?_)))))))))
 rintro ⟨k, q⟩ ρ2 w2 ⟨⟨hk, hRq, hq⟩, hM2⟩
 have hql : (gU xs cs k).1.length = q.n := by simpa using hRq.len
 have hsl := (iX xs cs k).len
 refine aE (aA (cY rfl rfl rfl rfl (aB (aC (aE ?_)))))
 refine aW rfl (fun h10 => ?_) (fun h10 => ?_)
 ·refine aL (aC (aE (aQ (aE (aA (dH rfl rfl (dH rfl rfl (bY bKo rfl rfl (aWm _ q.A q.n q.c (gU xs cs k).1 hRq ((iX xs cs k).sorted hs) (qS hb k) (by omega) B mc c' cs (R'.mem hM2) (fun c h => (iX xs cs k).okc (hcs c h)) hmc) ?_))))))))
  rintro v3 w3 ⟨r, rfl, hr, hM3⟩
  have M3 : Mem _ _ [_, _] _ := hM2.call0 hM3
  refine wq (aH (.tuple (List.toArray _)) rfl) rfl (wq (bN (.slice _ _ _) rfl rfl) rfl (wq (bN (.bool _) rfl rfl) rfl (eI rfl rfl (wq (aJ (.bool _) rfl) rfl (aB (aC (aA ?_)))))))
  refine dH rfl rfl (wq (aH (.bool _) rfl) rfl (wq (aH (.bool _) rfl) rfl ?_))
  refine jS 19 _ rfl (fun g19 => ?_) (fun g19 => ?_)
  ·refine aN rfl rfl (wq (bQ true (.bool true) rfl rfl) rfl (eI rfl rfl (wq (aJ (.bool true) rfl) rfl (aB (cT ?_)))))
   refine aC (aA (wq (aY rfl rfl (by omega) (by omega)) rfl (aP rfl rfl (aB ?_))))
   refine cD (k + 1, r) (bB rfl (bB (bv rfl (by show true = (_ || _); rw [g19, Bool.true_or])) (bB rfl dZ))) (cK rfl (cK rfl (cK rfl gW))) ?_ ?_
   ·exact ⟨⟨by omega, hr.rd M3 (aZ (i := 1) rfl), (fun _ => hr)⟩, M3.keep [false, true]⟩
   ·(show 4 - (k + 1) < 4 - k; omega)
  ·refine wq (aH (.bool _) rfl) rfl (wq (bQ false (.bool _) rfl rfl) rfl (eI rfl rfl (wq (aJ (.bool _) rfl) rfl (aB (cT ?_)))))
   refine aC (aA (wq (aY rfl rfl (by omega) (by omega)) rfl (aP rfl rfl (aB ?_))))
   refine cD (k + 1, r) (bB rfl (bB (bv rfl (by show _ = (_ || _); rw [g19, Bool.false_or])) (bB rfl dZ))) (cK rfl (cK rfl (cK rfl gW))) ?_ ?_
   ·exact ⟨⟨by omega, hr.rd M3 (aZ (i := 1) rfl), (fun _ => hr)⟩, M3.keep [false, true]⟩
   ·(show 4 - (k + 1) < 4 - k; omega)
 ·have hk4 : k = 4 := by omega
  rw [hk4] at hq
  refine cW (dE (dL (eS (aC (aE (aA (dH rfl rfl ?_)))))))
  refine wq (aH (.bool _) rfl) rfl (eI rfl rfl (wq (aJ (.bool _) rfl) rfl (aB (aC (aO (fY (.slice _ _ _) (.bool _) rfl rfl ?_))))))
  exact ⟨q, sL rfl (congrArg Value.bool (by rw [hk4])), hq (by omega), hM2⟩
set_option maxHeartbeats 4000000 in
theorem aCy (w : World) (c : Con) (a b : Body) (hc : Okn c) (ha : Okb a) (hb : Okb b) :
  Calls Tryz.prog 190 #[.agg (cI c).toArray, (.agg (aF a).toArray), (.agg (aF b).toArray)] w (fun ex w' => ∃ v, ex = .returned v ∧ (fun v w' => v = .int .i64 (oN c a b) ∧ Below w.heap.size w w') v w') := by
 have hdp := hc.d
 have hm1 := ha.m
 have hm2 := hb.m
 refine aI #[.tmp 6] 27 Tryz.func190 rfl Tryz.results190 Tryz.ntmps190 rfl ?_
 have M0 := Mem.refl w
 refine aE (aA (bJ (.agg (List.toArray _)) M0 rfl rfl rfl (fun b1 w1 M1 => (bJ (.agg (List.toArray _)) M1 rfl rfl rfl (fun b2 w2 M2 => (bJ (.agg (List.toArray _)) M2 rfl rfl rfl (fun b3 w3 M3 => (bH rfl rfl (aB (aC (aE (aA ?_))))))))))))
 refine wq (aD 4 aDf rfl) rfl (wq (aM 0 (.int _ _) aV M3 rfl rfl rfl) rfl (wq (bA dP Tryz.underlying2 rfl (fG _ (by omega) (by omega))) rfl (wq (fR rfl rfl (by omega) (by omega)) rfl (bH rfl rfl (aB (aC (aE (aE (aA ?_)))))))))
 refine aP rfl rfl (cY rfl rfl rfl rfl (wq (aH (.bool (decide _)) rfl) rfl ?_))
 refine dN 14 rfl (fun g14 => ?_) (fun g14 => ?_)
 ·refine aN rfl rfl (aN rfl rfl (aN rfl rfl (aN rfl rfl (aN rfl rfl (aN rfl rfl ?_)))))
  refine aN rfl rfl (aN rfl rfl (wq (bQ true (.bool true) rfl rfl) rfl (aB (aC (cE rfl (aE (aA ?_)))))))
  refine bH rfl rfl (aB (aC (aO (cO (cG (.int _ _) rfl ?_)))))
  exact ⟨iE (by unfold oN; rw [if_pos (by omega)]), M3.below⟩
 ·refine wq (aD 4 eG rfl) rfl (wq (aM 1 (.int _ _) aV M3 rfl rfl rfl) rfl (cY rfl rfl rfl rfl (wq (aH (.bool (decide _)) rfl) rfl ?_)))
  refine dN 18 rfl (fun g18 => ?_) (fun g18 => ?_)
  ·refine wq (aD 4 eG rfl) rfl (wq (aM 2 (.int _ _) aV M3 rfl rfl rfl) rfl (cY rfl rfl rfl rfl (wq (bQ true (.bool (decide _)) rfl rfl) rfl (wq (bQ false (.bool (decide _)) rfl rfl) rfl (aB (aC ?_))))))
   refine aW rfl (fun h23 => ?_) (fun h23 => ?_)
   ·refine aE (aA (bH rfl rfl (aB (aC (aO (cO (cG (.int _ _) rfl ?_)))))))
    exact ⟨iE (by unfold oN; rw [if_pos (by omega)]), M3.below⟩
   ·refine aL (aC (aE (aA (aP rfl rfl (wq (fC rfl rfl (by omega) (by omega)) rfl (wq (jT rfl rfl (by decide)) rfl (bH rfl rfl (aB (aC (aO ?_))))))))))
    refine cG (.int _ _) rfl ?_
    exact ⟨iE (by unfold oN; rw [if_neg (by omega)]; exact pS _), M3.below⟩
  ·refine aN rfl rfl (aN rfl rfl (aN rfl rfl (wq (bQ false (.bool false) rfl rfl) rfl (wq (bQ false (.bool false) rfl rfl) rfl (aB (aC ?_))))))
   refine cJ rfl (aL (aC (aE (aA (aP rfl rfl (wq (fC rfl rfl (by omega) (by omega)) rfl (wq (jT rfl rfl (by decide)) rfl (bH rfl rfl ?_))))))))
   refine aB (aC (aO (cG (.int _ _) rfl ?_)))
   exact ⟨iE (by unfold oN; rw [if_neg (by omega)]; exact pS _), M3.below⟩
set_option maxHeartbeats 4000000 in
theorem aIn (w : World) (c : Con) (a b : Body) (hc : Okn c) (ha : Okb a) (hb : Okb b) (hi : Bool) :
  Calls Tryz.prog 163 #[.agg (cI c).toArray, (.agg (aF a).toArray), (.agg (aF b).toArray), .bool hi] w (fun ex w' => ∃ v, ex = .returned v ∧ (fun v w' => v = .int .i64 (qD c a b (if hi = true then b.mass else a.mass)) ∧ Below w.heap.size w w') v w') := by
 have hdp := hc.d
 have hm1 := ha.m
 have hm2 := hb.m
 have hm0 : 0 ≤ (if hi = true then b.mass else a.mass) ∧ (if hi = true then b.mass else a.mass) ≤ 1048576 := by split <;> omega
 have hsr := aSi (a := a) (b := b) hc hm0
 have har := aBr (a := a) (b := b) hc
 refine aI #[.tmp 8] 36 Tryz.func163 rfl Tryz.results163 Tryz.ntmps163 rfl ?_
 have M0 := Mem.refl w
 refine aE (aA (bJ (.agg (List.toArray _)) M0 rfl rfl rfl (fun b1 w1 M1 => (bJ (.agg (List.toArray _)) M1 rfl rfl rfl (fun b2 w2 M2 => (bJ (.agg (List.toArray _)) M2 rfl rfl rfl (fun b3 w3 M3 => (bH rfl rfl (aB (aC (aE (aA ?_))))))))))))
 refine wq (aD 4 eG rfl) rfl (wq (aM 1 (.int _ _) aV M3 rfl rfl rfl) rfl (bH rfl rfl (aB (aC (aE (aE (aA (wq (aH (.bool _) rfl) rfl (aB (aC ?_))))))))))
 refine iD _ rfl (fun h14 => ?_) (fun h14 => ?_)
 ·refine aA (wq (aD 4 eG rfl) rfl (wq (aM 2 (.int _ _) aV M3 rfl rfl rfl) rfl (bH rfl rfl (aB (aC (aE (bR [(0, 1), (1, 1), (2, 1), (4, 0), (5, 0), (6, 0), (7, 1), (8, 0), (9, 0), (10, 1), (11, 0), (12, 0), (13, 0), (3, 2), (14, 2), (15, 0), (16, 0), (17, 0), (18, 0), (19, 0)] mixed rfl (by kernel_rfl) (fun w4 hb4 hh4 => ?_))))))))
  have M4 := M3.drew hb4 hh4
  refine bS rfl rfl rfl (aX 0 eV M4 rfl rfl rfl) (bS rfl rfl rfl (aX 1 bP M4 rfl rfl rfl) (bS rfl rfl rfl (aX 2 bP M4 rfl rfl rfl) (eB rfl rfl rfl (aU rfl rfl rfl (fun _ => bA dP Tryz.underlying2 rfl (fG _ (by omega) (by omega))) (dQ 23 (.int .i64 (if hi = true then b.mass else a.mass)) (iE (by rw [h14]; rfl)) ?_)))))
  refine aU rfl rfl rfl (fun _ => aD 4 eG rfl) (bS rfl rfl rfl (aM 1 (.int _ _) aV M4 rfl rfl rfl) (aU rfl rfl rfl (fun _ => bA dP Tryz.underlying2 rfl (fG _ (by omega) (by omega))) (aU rfl rfl rfl (fun _ => aD 4 eG rfl) (bS rfl rfl rfl (aM 2 (.int _ _) aV M4 rfl rfl rfl) ?_))))
  refine aU rfl rfl rfl (fun _ => bA dP Tryz.underlying2 rfl (fG _ (by omega) (by omega))) (aU rfl rfl rfl (fun _ => aY rfl rfl (by omega) (by omega)) (aU rfl rfl rfl (fun _ => pV rfl rfl ) (dU [false, false, true, true, true] rfl (by kernel_rfl) (bY bEo rfl rfl (aCy _ c a b hc ha hb) ?_))))
  rintro v5 w5 ⟨rfl, hb5⟩
  have M5 := M4.callB hb5
  refine aB (aC ⟨(eD (bL rfl (aM 2 (.int _ _) aV M5 rfl rfl rfl)) (eD (bL rfl (aM 1 (.int _ _) aV M5 rfl rfl rfl)) dT)), ?_⟩)
  refine dU [true, true] rfl (by kernel_rfl) (bY aJw rfl rfl (aJu _ (oN c a b) (if hi = true then b.mass else a.mass) (max 1 (a.mass + b.mass)) (by omega) hm0.1 (by omega) (by omega) (by omega) (by omega) (by omega)) ?_)
  rintro v6 w6 ⟨rfl, hb6⟩
  have M6 := M5.callB hb6
  refine aB (aC ⟨dT, ?_⟩)
  refine aU rfl rfl rfl (fun _ => aH (.tuple (List.toArray _)) rfl) (aU rfl rfl rfl (fun _ => bN (.int _ _) rfl rfl) (aU rfl rfl rfl (fun _ => bN (.int _ _) rfl rfl) (mG rfl rfl rfl (mG rfl rfl rfl (bX ?_)))))
  refine aC (aE (aA (aP rfl rfl (bH rfl rfl (aB (aC (aO (cG (.int _ _) rfl ?_))))))))
  exact ⟨rfl, M6.below⟩
 ·refine aL (aC (aE (bR [(0, 1), (1, 1), (2, 1), (4, 0), (5, 0), (6, 0), (7, 1), (8, 0), (9, 0), (10, 1), (11, 0), (12, 0), (13, 0), (3, 2), (14, 2), (15, 0), (16, 0), (17, 0), (18, 0), (19, 0)] mixed rfl (by kernel_rfl) (fun w7 hb7 hh7 => ?_))))
  have M7 := M3.drew hb7 hh7
  refine bS rfl rfl rfl (aX 0 eV M7 rfl rfl rfl) (bS rfl rfl rfl (aX 1 bP M7 rfl rfl rfl) (bS rfl rfl rfl (aX 2 bP M7 rfl rfl rfl) (eB rfl rfl rfl (aU rfl rfl rfl (fun _ => bA dP Tryz.underlying2 rfl (fG _ (by omega) (by omega))) (dQ 23 (.int .i64 (if hi = true then b.mass else a.mass)) (iE (by rw [h14]; rfl)) ?_)))))
  refine aU rfl rfl rfl (fun _ => aD 4 eG rfl) (bS rfl rfl rfl (aM 1 (.int _ _) aV M7 rfl rfl rfl) (aU rfl rfl rfl (fun _ => bA dP Tryz.underlying2 rfl (fG _ (by omega) (by omega))) (aU rfl rfl rfl (fun _ => aD 4 eG rfl) (bS rfl rfl rfl (aM 2 (.int _ _) aV M7 rfl rfl rfl) ?_))))
  refine aU rfl rfl rfl (fun _ => bA dP Tryz.underlying2 rfl (fG _ (by omega) (by omega))) (aU rfl rfl rfl (fun _ => aY rfl rfl (by omega) (by omega)) (aU rfl rfl rfl (fun _ => pV rfl rfl ) (dU [false, false, true, true, true] rfl (by kernel_rfl) (bY bEo rfl rfl (aCy _ c a b hc ha hb) ?_))))
  rintro v8 w8 ⟨rfl, hb8⟩
  have M8 := M7.callB hb8
  refine aB (aC ⟨(eD (bL rfl (aM 2 (.int _ _) aV M8 rfl rfl rfl)) (eD (bL rfl (aM 1 (.int _ _) aV M8 rfl rfl rfl)) dT)), ?_⟩)
  refine dU [true, true] rfl (by kernel_rfl) (bY aJw rfl rfl (aJu _ (oN c a b) (if hi = true then b.mass else a.mass) (max 1 (a.mass + b.mass)) (by omega) hm0.1 (by omega) (by omega) (by omega) (by omega) (by omega)) ?_)
  rintro v9 w9 ⟨rfl, hb9⟩
  have M9 := M8.callB hb9
  refine aB (aC ⟨dT, ?_⟩)
  refine aU rfl rfl rfl (fun _ => aH (.tuple (List.toArray _)) rfl) (aU rfl rfl rfl (fun _ => bN (.int _ _) rfl rfl) (aU rfl rfl rfl (fun _ => bN (.int _ _) rfl rfl) (mG rfl rfl rfl (mG rfl rfl rfl (bX ?_)))))
  refine aC (aE (aA (aP rfl rfl (bH rfl rfl (aB (aC (aO (cG (.int _ _) rfl ?_))))))))
  exact ⟨rfl, M9.below⟩
set_option maxHeartbeats 4000000 in
theorem aDc (w : World) (bo bk : Nat) (cn : Con) (q : Row) (l : List (Int × Int)) (hq : bC 177 2 q.A q.n q.c ((l).map cL) q.e) (p : Nat) (s z : Int) (f : Int × Int) (hp : l[p]? = some f) (hs : 0 ≤ s ∧ s ≤ 1073741824) (hz : z = 1 ∨ z = -1) (hc : Okn cn) (hf : (-1152921504606846976 ≤ f.1 ∧ f.1 ≤ 1152921504606846976) ∧ -1152921504606846976 ≤ f.2 ∧ f.2 ≤ 1152921504606846976) (hO : Own [(some bo, bc [.slice q.A q.n q.c] 127), q.e, (some bk, bc (cI cn) 211)] w) :
  Calls Tryz.prog 162 #[.int .i64 (p : Int), .int .i64 s, .int .i64 z, .pointer (some ⟨bo, 0, none⟩), .pointer (some ⟨bk, 0, none⟩)] w (fun ex w' => ∃ v, ex = .returned v ∧ (fun v w' => v = .tuple #[] ∧ ∃ e : eX, bC 177 2 q.A q.n q.c ((l.set p (aLn s z cn f)).map cL) e ∧ Mem w (cB [(some bo, bc [.slice q.A q.n q.c] 127), q.e, (some bk, bc (cI cn) 211)]) [(some bo, bc [.slice q.A q.n q.c] 127), e, (some bk, bc (cI cn) 211)] w') v w') := by
 have hcx := hc.x
 have hcy := hc.y
 have hl : l.length = q.n := by simpa using hq.1
 have hpl := (List.getElem?_eq_some_iff.1 hp).1
 have r1 := lP hs hc.x
 have r2 := lP hs hc.y
 have hp2 : (l.set p (f.1 + z * (s * cn.nx / 65536), f.2))[p]? = some (f.1 + z * (s * cn.nx / 65536), f.2) := by rw [List.getElem?_set_self hpl]
 have z1 : -1073741824 ≤ z * (s * cn.nx / 65536) ∧ z * (s * cn.nx / 65536) ≤ 1073741824 := by rcases hz with rfl | rfl <;> omega
 have z2 : -1073741824 ≤ z * (s * cn.ny / 65536) ∧ z * (s * cn.ny / 65536) ≤ 1073741824 := by rcases hz with rfl | rfl <;> omega
 refine aI #[] 42 Tryz.func162 rfl Tryz.results162 Tryz.ntmps162 rfl ?_
 have M0 := hO.mem
 refine aE (bR [(0, 1), (1, 0), (2, 1), (3, 1), (4, 1), (5, 0), (6, 0), (7, 0), (8, 0), (9, 1), (10, 0), (11, 0), (12, 0), (13, 0), (14, 0), (15, 1), (16, 1), (17, 2)] mixed rfl (by kernel_rfl) (fun w1 hb1 hh1 => ?_))
 have M1 := M0.drew hb1 hh1
 refine bS rfl rfl rfl (aM 0 (.slice _ _ _) yP M1 rfl rfl rfl) (eB rfl rfl rfl (bS rfl rfl rfl (bO (p) aDn rfl rfl rfl ((hq.rd M1 (aZ (i := 1) rfl)).below_len (aG cL hp)) ((hq.rd M1 (aZ (i := 1) rfl)).someK (aG cL hp))) (bS rfl rfl rfl (bG 0 aFa (hq.rd M1 (aZ (i := 1) rfl)) (Nat.lt_of_le_of_lt (Nat.zero_le _) ((hq.rd M1 (aZ (i := 1) rfl)).below_len (aG cL hp))) rfl) ?_)))
 refine bS rfl rfl rfl (dX (o := 0) (.int _ _) iZ (hq.rd M1 (aZ (i := 1) rfl)) (aG cL hp) rfl rfl) (eB rfl rfl rfl (eB rfl rfl rfl (aU rfl rfl rfl (fun _ => aD 2 gZ rfl) (aU rfl rfl rfl (fun _ => aD 0 cS rfl) (bS rfl rfl rfl (aM 2 (.int _ _) aV M1 rfl rfl rfl) ?_)))))
 refine aU rfl rfl rfl (fun _ => bA dP Tryz.underlying2 rfl (fG _ (by omega) (by omega))) (aU rfl rfl rfl (fun _ => fC rfl rfl (by omega) (by omega)) (aU rfl rfl rfl (fun _ => jT rfl rfl (by decide)) (dQ 20 (.int .i64 (s * cn.nx / 65536)) (iE (pS _)) (aU rfl rfl rfl (fun _ => fC rfl rfl (by omega) (by omega)) ?_))))
 refine aU rfl rfl rfl (fun _ => aY rfl rfl (by omega) (by omega)) (bS rfl rfl rfl (bO (p) aDn rfl rfl rfl ((hq.rd M1 (aZ (i := 1) rfl)).below_len (aG cL hp)) ((hq.rd M1 (aZ (i := 1) rfl)).someK (aG cL hp))) (bS rfl rfl rfl (bG 0 aFa (hq.rd M1 (aZ (i := 1) rfl)) (Nat.lt_of_le_of_lt (Nat.zero_le _) ((hq.rd M1 (aZ (i := 1) rfl)).below_len (aG cL hp))) rfl) ?_))
 refine dU [true, true, true, true, true, true, true] rfl (by kernel_rfl) (aJm (o := 0) 1 (.int _ _) iZ M1 rfl hq (aG cL hp) rfl rfl rfl rfl rfl (fun e2 w2 hR2 M2 => ?_))
 have hQ2 := hR2.mapSet (f := cL) (x := (f.1 + z * (s * cn.nx / 65536), f.2)) rfl
 refine aB (aC ⟨dT, ?_⟩)
 refine bX (aC (bR [(0, 1), (1, 0), (2, 1), (3, 1), (4, 1), (5, 0), (6, 0), (7, 0), (8, 0), (9, 1), (10, 0), (11, 0), (12, 0), (13, 0), (14, 0), (15, 1), (16, 1), (17, 2)] mixed rfl (by kernel_rfl) (fun w3 hb3 hh3 => ?_)))
 have M3 := M2.drew hb3 hh3
 refine bS rfl rfl rfl (aM 0 (.slice _ _ _) yP M3 rfl rfl rfl) (eB rfl rfl rfl (bS rfl rfl rfl (bO (p) aDn rfl rfl rfl ((hQ2.rd M3 (aZ (i := 1) rfl)).below_len (aG cL hp2)) ((hQ2.rd M3 (aZ (i := 1) rfl)).someK (aG cL hp2))) (bS rfl rfl rfl (bG 1 aFb (hQ2.rd M3 (aZ (i := 1) rfl)) (Nat.lt_of_le_of_lt (Nat.zero_le _) ((hQ2.rd M3 (aZ (i := 1) rfl)).below_len (aG cL hp2))) rfl) ?_)))
 refine bS rfl rfl rfl (dX (o := 1) (.int _ _) iZ (hQ2.rd M3 (aZ (i := 1) rfl)) (aG cL hp2) rfl rfl) (eB rfl rfl rfl (eB rfl rfl rfl (aU rfl rfl rfl (fun _ => aD 2 gZ rfl) (aU rfl rfl rfl (fun _ => aD 1 cN rfl) (bS rfl rfl rfl (aM 2 (.int _ _) aV M3 rfl rfl rfl) ?_)))))
 refine aU rfl rfl rfl (fun _ => bA dP Tryz.underlying2 rfl (fG _ (by omega) (by omega))) (aU rfl rfl rfl (fun _ => fC rfl rfl (by omega) (by omega)) (aU rfl rfl rfl (fun _ => jT rfl rfl (by decide)) (dQ 37 (.int .i64 (s * cn.ny / 65536)) (iE (pS _)) (aU rfl rfl rfl (fun _ => fC rfl rfl (by omega) (by omega)) ?_))))
 refine aU rfl rfl rfl (fun _ => aY rfl rfl (by omega) (by omega)) (bS rfl rfl rfl (bO (p) aDn rfl rfl rfl ((hQ2.rd M3 (aZ (i := 1) rfl)).below_len (aG cL hp2)) ((hQ2.rd M3 (aZ (i := 1) rfl)).someK (aG cL hp2))) (bS rfl rfl rfl (bG 1 aFb (hQ2.rd M3 (aZ (i := 1) rfl)) (Nat.lt_of_le_of_lt (Nat.zero_le _) ((hQ2.rd M3 (aZ (i := 1) rfl)).below_len (aG cL hp2))) rfl) ?_))
 refine dU [true, true, true, true, true, true, true] rfl (by kernel_rfl) (aJm (o := 1) 1 (.int _ _) iZ M3 rfl hQ2 (aG cL hp2) rfl rfl rfl rfl rfl (fun e4 w4 hR4 M4 => ?_))
 have hQ4 := hR4.mapSet (f := cL) (x := aLn s z cn f) rfl
 rw [List.set_set] at hQ4
 refine aB (aC ⟨dT, ?_⟩)
 refine bX (lB ?_)
 exact ⟨rfl, e4, hQ4, M4⟩
theorem Mem.swap2 {w0 w : World} {X : List Nat} {a b : eX} (M : Mem w0 X [a, b] w) : Mem w0 X [b, a] w := M.perm (List.Perm.swap b a [])
theorem aBp {xs : List Body} {cs : List Con} {n : Nat} (hs : cU xs) (hb : ∀ b ∈ xs, Okb b) (hcs : ∀ c ∈ cs, OkC xs c) (hn : cs.length = n) (hl : n ≤ 1073741824) (k : Nat) {b : Body} (h : b ∈ xs) : (-1152921504606846976 ≤ (jR xs (cs.take k) b).1 ∧ (jR xs (cs.take k) b).1 ≤ 1152921504606846976) ∧ -1152921504606846976 ≤ (jR xs (cs.take k) b).2 ∧ (jR xs (cs.take k) b).2 ≤ 1152921504606846976 := by
 have ht : (cs.take k).length ≤ cs.length := by rw [List.length_take]; omega
 have h1 := aLz (cs := cs.take k) (g := (·.nx)) hs hb (fun c h => hcs c (List.mem_of_mem_take h)) (fun c h => (hcs c (List.mem_of_mem_take h)).n.x) h
 have h2 := aLz (cs := cs.take k) (g := (·.ny)) hs hb (fun c h => hcs c (List.mem_of_mem_take h)) (fun c h => (hcs c (List.mem_of_mem_take h)).n.y) h
 unfold jR
 simp only
 omega
set_option maxHeartbeats 8000000 in
theorem aQz (w : World) (A : Option Addr) (n c : Nat) (xs : List Body) (R : Rd w 10 A n (xs.map aF)) (hs : cU xs) (hb : ∀ b ∈ xs, Okb b) (hn : n ≤ 1048576) (B : Option Addr) (mc c' : Nat) (cs : List Con) (R' : Rd w 5 B mc (cs.map cI)) (hcs : ∀ c ∈ cs, OkC xs c) (hmc : mc ≤ 1073741824) :
  Calls Tryz.prog 147 #[.slice A n c, .slice B mc c'] w (fun ex w' => ∃ v, ex = .returned v ∧ (fun v w' => ∃ r : Row, v = .slice r.A r.n r.c ∧ bC 177 2 r.A r.n r.c ((xs.map (jR xs cs)).map cL) r.e ∧ Mem w [] [r.e] w') v w') := by
 have hlen : xs.length = n := by simpa using R.len
 have hbd := R.bound
 have hclen : cs.length = mc := by simpa using R'.len
 have hbd' := R'.bound
 have hz0 : List.replicate n ([.int .i64 0, .int .i64 0] : List Value) = (xs.map (jR xs (cs.take 0))).map cL := by rw [bFm, aSh hlen ((0, 0) : Int × Int)]; exact congrArg (List.map cL) (List.map_congr_left (fun b _ => Prod.ext (uG xs cs (·.nx) b).symm (uG xs cs (·.ny) b).symm))
 refine aI #[.tmp 4] 67 Tryz.func147 rfl Tryz.results147 Tryz.ntmps147 rfl ?_
 have M0 := Mem.refl w
 refine aE (aA (eI rfl rfl (aB (aC (aE (aA (dH rfl rfl (wq (cZ Tryz.underlying29 rfl) rfl (mE (n) [.int .i64 0, .int .i64 0] aDn bHl rfl M0 rfl rfl rfl rfl rfl rfl (by omega) (by omega) (fun b1 w1 M1 => ?_))))))))))
 have hL15 := kB (T := 177) (sz := 2) (b := b1) (nn := n) (List.replicate n [.int .i64 0, .int .i64 0]) (fun l hl => by rw [List.eq_of_mem_replicate hl]; rfl) (by simp) (by omega)
 rw [hz0] at hL15
 rw [hz0] at M1
 refine aT bHh M1 rfl rfl (fun b2 w2 M2 => (dB 1 (.slice _ _ _) yP M2 rfl rfl rfl rfl rfl rfl (fun w3 M3 => (aB (aC (aE (aE (aA ?_))))))))
 have M4 : Mem _ _ [_, _] _ := Mem.swap2 M3
 refine dH rfl rfl (wq (cZ Tryz.underlying166 rfl) rfl (aP rfl rfl (aB (aC (aQ (dS (σ := Nat × eX) [0, 4, 5, 16, 17] (fun (k, e) => [(18, .int .i64 (k : Int))]) (fun (k, e) w' => (k ≤ mc ∧ bC 177 2 (some ⟨b1, 0, none⟩) n n ((xs.map (jR xs (cs.take k))).map cL) e) ∧ Mem w [] [(some b2, bc [.slice (some ⟨b1, 0, none⟩) n n] 127), e] w') (fun (k, e) => mc - k) (0, (some b1, bc ((xs.map (jR xs (cs.take 0))).map cL).flatten 177)) (bB rfl dZ) (⟨⟨by omega, hL15⟩, M4⟩) ?_))))))
 rintro ⟨k, e⟩ ρ5 w5 ⟨⟨hk, hq⟩, hM5⟩
 refine aE (aA (cY rfl rfl rfl rfl (aB (aC (aE ?_)))))
 refine aW rfl (fun h19 => ?_) (fun h19 => ?_)
 ·obtain ⟨cn, hcn⟩ := cV (xs := cs) (k := k) hclen (by omega)
  have hc := hcs cn (List.mem_of_getElem? hcn)
  obtain ⟨pa, xa, hxa, hka, hla, hba, hma⟩ := uP hs hc.l
  obtain ⟨pb, xb, hxb, hkb, hlb, hbb, hmb⟩ := uP hs hc.h
  have hoa := hb xa hma
  have hob := hb xb hmb
  have hne := hc.ne
  have ma := hoa.m
  have mb := hob.m
  have hpab : pa ≠ pb := fun g => by subst g; rw [hxa] at hxb; injection hxb with hxb; subst hxb; omega
  refine aL (aC (aE (aQ (aE (aA (wq (bO (k) sD rfl rfl rfl ((R'.mem hM5).below_len (aG cI hcn)) ((R'.mem hM5).someK (aG cI hcn))) rfl (wq (dI _ eV (R'.mem hM5) (aG cI hcn) rfl) rfl (aT mC hM5 rfl rfl (fun b6 w6 M6 => (bI 2 _ eV M6 rfl rfl rfl rfl rfl (aR rfl) rfl (fun w7 M7 => ?_)))))))))))
  refine aB (aC (aE (aA (dH rfl rfl (wq (aD 0 fL rfl) rfl (wq (aD 0 gE rfl) rfl (wq (aM 2 (.int _ _) bW M7 rfl rfl rfl) rfl (bY aIv rfl rfl (uH _ cn.low _ _ _ xs (R.mem M7) hs) ?_))))))))
  rintro v8 w8 ⟨rfl, hb8⟩
  have M8 := M7.callB hb8
  refine wq (aH (.tuple (List.toArray _)) rfl) rfl (wq (bN (.int _ _) rfl rfl) rfl (aK 28 (.int .i64 (pa : Int)) (iE (by rw [hla])) (wq (bN (.bool (decide _)) rfl rfl) rfl (bH rfl rfl (wq (aJ (.bool (decide _)) rfl) rfl ?_)))))
  refine aB (aC (aE (aA (dH rfl rfl (wq (aD 0 fL rfl) rfl (wq (aD 1 jQ rfl) rfl (wq (aM 2 (.int _ _) bW M8 rfl rfl rfl) rfl (bY aIv rfl rfl (uH _ cn.high _ _ _ xs (R.mem M8) hs) ?_))))))))
  rintro v9 w9 ⟨rfl, hb9⟩
  have M9 := M8.callB hb9
  refine wq (aH (.tuple (List.toArray _)) rfl) rfl (wq (bN (.int _ _) rfl rfl) rfl (aK 36 (.int .i64 (pb : Int)) (iE (by rw [hlb])) (wq (bN (.bool (decide _)) rfl rfl) rfl (bH rfl rfl (wq (aJ (.bool (decide _)) rfl) rfl ?_)))))
  refine aB (aC (aE (aA (wq (dR [] [.pointer _, .pointer _] rfl rfl) rfl (wq (aJ (.func _ _ _) rfl) rfl (aB (aC (aE (bR [(0, 0), (1, 0), (2, 1), (3, 0), (4, 0), (5, 1), (6, 1), (7, 0), (8, 0), (9, 1), (10, 1), (11, 2), (12, 2)] mixed rfl (by kernel_rfl) (fun w10 hb10 hh10 => ?_))))))))))
  have M10 := M9.drew hb10 hh10
  refine aU rfl rfl rfl (fun _ => aH (.func _ _ _) rfl) (eB rfl rfl rfl (bS rfl rfl rfl (aX 2 eV M10 rfl rfl rfl) (kN rfl rfl rfl (eB rfl rfl rfl (bS rfl rfl rfl (bO (pa) dK rfl rfl rfl ((R.mem M10).below_len (aG aF hxa)) ((R.mem M10).someK (aG aF hxa))) ?_)))))
  refine bS rfl rfl rfl (dI _ bP (R.mem M10) (aG aF hxa) rfl) (kN rfl rfl rfl (eB rfl rfl rfl (bS rfl rfl rfl (bO (pb) dK rfl rfl rfl ((R.mem M10).below_len (aG aF hxb)) ((R.mem M10).someK (aG aF hxb))) (bS rfl rfl rfl (dI _ bP (R.mem M10) (aG aF hxb) rfl) ?_))))
  refine dU [true, true, true, true, true] rfl (by kernel_rfl) (bY bBu rfl rfl (aIn _ cn xa xb hc.n hoa hob false) ?_)
  rintro v11 w11 ⟨rfl, hb11⟩
  have M11 := M10.callB hb11
  refine aB (aC ⟨dT, ?_⟩)
  refine dQ 50 (.int .i64 (qD cn xa xb xa.mass)) rfl (dU [] rfl (by kernel_rfl) (bY bBy rfl rfl (aDc _ b2 b6 cn ⟨some ⟨b1, 0, none⟩, n, n, e⟩ (xs.map (jR xs (cs.take k))) hq pa (qD cn xa xb xa.mass) (-1) (jR xs (cs.take k) xa) (aG _ hxa) (zF hc.n (by omega)) (.inr rfl) hc.n (aBp hs hb hcs hclen hmc k hma) (M11.ownSeg 0 3)) ?_))
  rintro v12 w12 ⟨rfl, e1, hq1, hM12⟩
  have M12 : Mem _ _ [_, _, _] _ := M11.seg 0 3 hM12
  refine aB (aC ⟨dT, ?_⟩)
  refine bX (aC (bR [(0, 0), (1, 0), (2, 1), (3, 0), (4, 0), (5, 1), (6, 1), (7, 0), (8, 0), (9, 1), (10, 1), (11, 2), (12, 2)] mixed rfl (by kernel_rfl) (fun w13 hb13 hh13 => ?_)))
  have M13 := M12.drew hb13 hh13
  refine aU rfl rfl rfl (fun _ => aH (.func _ _ _) rfl) (eB rfl rfl rfl (bS rfl rfl rfl (aX 2 eV M13 rfl rfl rfl) (kN rfl rfl rfl (eB rfl rfl rfl (bS rfl rfl rfl (bO (pa) dK rfl rfl rfl ((R.mem M13).below_len (aG aF hxa)) ((R.mem M13).someK (aG aF hxa))) ?_)))))
  refine bS rfl rfl rfl (dI _ bP (R.mem M13) (aG aF hxa) rfl) (kN rfl rfl rfl (eB rfl rfl rfl (bS rfl rfl rfl (bO (pb) dK rfl rfl rfl ((R.mem M13).below_len (aG aF hxb)) ((R.mem M13).someK (aG aF hxb))) (bS rfl rfl rfl (dI _ bP (R.mem M13) (aG aF hxb) rfl) ?_))))
  refine dU [true, true, true, true, true] rfl (by kernel_rfl) (bY bBu rfl rfl (aIn _ cn xa xb hc.n hoa hob true) ?_)
  rintro v14 w14 ⟨rfl, hb14⟩
  have M14 := M13.callB hb14
  refine aB (aC ⟨dT, ?_⟩)
  refine dQ 63 (.int .i64 (qD cn xa xb xb.mass)) rfl (dU [] rfl (by kernel_rfl) (bY bBy rfl rfl (aDc _ b2 b6 cn ⟨some ⟨b1, 0, none⟩, n, n, e1⟩ _ hq1 pb (qD cn xa xb xb.mass) (1) (jR xs (cs.take k) xb) (vT (aG _ hxb) hpab) (zF hc.n (by omega)) (.inl rfl) hc.n (aBp hs hb hcs hclen hmc k hmb) (M14.ownSeg 0 3)) ?_))
  rintro v15 w15 ⟨rfl, e2, hq2, hM15⟩
  have M15 : Mem _ _ [_, _, _] _ := M14.seg 0 3 hM15
  refine aB (aC ⟨dT, ?_⟩)
  refine bX (cT (aC (aA (wq (aY rfl rfl (by omega) (by omega)) rfl (aP rfl rfl (aB ?_))))))
  refine cD (k + 1, e2) (bB rfl dZ) (cK rfl (cK rfl (cK rfl (cK rfl (cK rfl gW))))) ?_ ?_
  ·exact ⟨⟨by omega, by rw [← aWd hcn, ← bGa hs hxa hxb hka hkb hc hba hbb]; exact hq2⟩, M15.keep [true, true, false]⟩
  ·(show mc - (k + 1) < mc - k; omega)
 ·have hkn : k = mc := by omega
  rw [List.take_of_length_le (by omega)] at hq
  refine cW (dE (dL (eS (aC (aE (aA (wq (aM 0 (.slice _ _ _) yP hM5 rfl rfl rfl) rfl ?_)))))))
  refine eI rfl rfl (aB (aC (aO (cG (.slice _ _ _) rfl ?_))))
  exact ⟨⟨(some ⟨b1, 0, none⟩), n, n, e⟩, rfl, hq, hM5.keep [false, true]⟩
end Go.Proofs.YtaoaknafiegfoaaGreatDoor
