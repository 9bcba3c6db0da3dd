/- Part of the proof of the laws of this seat: S20c, S20d, S20e, S20f, S20g, S20h. No conditions. -/
import Derived.Test.YtaoaknafiegfoaaGreatDoorK2
import Derived.Test.YtaoaknafiegfoaaGreatDoorK5
import Derived.Test.YtaoaknafiegfoaaGreatDoorK20
import Derived.Test.YtaoaknafiegfoaaGreatDoorK18
import Derived.Test.YtaoaknafiegfoaaGreatDoorK24
import Derived.Test.YtaoaknafiegfoaaGreatDoorK26
set_option linter.unusedVariables false
set_option linter.unusedSimpArgs false
set_option linter.unnecessarySimpa false
namespace Go.Proofs.YtaoaknafiegfoaaGreatDoor
open Go.Bil
open Go.RowKit (Below)
open Go.Proofs
set_option maxHeartbeats 8000000 in
theorem bHc (w : World) (bs : Nat) (rx ry : Row) (F G : Body → Int) (A : Option Addr) (n c : Nat) (xs : List Body) (R : Rd w 10 A n (xs.map aF)) (hs : cW xs) (hb : ∀ b ∈ xs, Okb b) (hrx : bC 2 1 rx.A rx.n rx.c ((xs.map F).map dE) rx.e) (hry : bC 2 1 ry.A ry.n ry.c ((xs.map G).map dE) ry.e) (hF : ∀ b ∈ xs, -1152921504606846976 ≤ F b ∧ F b ≤ 1152921504606846976) (hG : ∀ b ∈ xs, -1152921504606846976 ≤ G b ∧ G b ≤ 1152921504606846976) (cn : Con) (hc : OkC xs cn) (hO : Own [(some bs, bc [.slice A n c, .slice rx.A rx.n rx.c, .slice ry.A ry.n ry.c] 303), rx.e, ry.e] w) (hdA : 0 < n → ∀ q off, A = some ⟨q, off, none⟩ → q ∉ cE [(some bs, bc [.slice A n c, .slice rx.A rx.n rx.c, .slice ry.A ry.n ry.c] 303), rx.e, ry.e]) :
  Calls Tryz.prog 220 #[.pointer (some ⟨bs, 0, none⟩), .agg (cH cn).toArray] w (fun ex w' => ∃ v, ex = .returned v ∧ (fun v w' => v = .tuple #[] ∧ ∃ ex ey : eZ, bC 2 1 rx.A rx.n rx.c ((xs.map (aJx xs (·.nx) cn F)).map dE) ex ∧ bC 2 1 ry.A ry.n ry.c ((xs.map (aJx xs (·.ny) cn G)).map dE) ey ∧ Mem w (cE [(some bs, bc [.slice A n c, .slice rx.A rx.n rx.c, .slice ry.A ry.n ry.c] 303), rx.e, ry.e]) [(some bs, bc [.slice A n c, .slice rx.A rx.n rx.c, .slice ry.A ry.n ry.c] 303), ex, ey] w') v w') := by
 have hlen : xs.length = n := by simpa using R.len
 have hbd := R.bound
 have hlx : xs.length = rx.n := by simpa using hrx.1
 have hly : xs.length = ry.n := by simpa using hry.1
 obtain ⟨pa, xa, hxa, hka, hla, hba, hma⟩ := uA hs hc.l
 obtain ⟨pb, xb, hxb, hkb, hlb, hbb, hmb⟩ := uA hs hc.h
 have hoa := hb xa hma
 have hob := hb xb hmb
 have hne := hc.ne
 have hpl := (List.getElem?_eq_some_iff.1 hxa).1
 have hpl2 := (List.getElem?_eq_some_iff.1 hxb).1
 have hpab : pa ≠ pb := fun g => by subst g; rw [hxa] at hxb; injection hxb with hxb; subst hxb; omega
 have ma := hoa.m
 have mb := hob.m
 have hra := pS hc.n hoa hob (m := xa.mass) (by omega)
 have hrb := pS hc.n hoa hob (m := xb.mass) (by omega)
 have gax := (kK hra.2.2 hc.n.x).2.2
 have gay := (kK hra.2.2 hc.n.y).2.2
 have gbx := (kK hrb.2.2 hc.n.x).2.2
 have gby := (kK hrb.2.2 hc.n.y).2.2
 have fa := hF xa hma
 have fb := hF xb hmb
 have ga := hG xa hma
 have gb := hG xb hmb
 have hFa : (xs.map F)[pa]? = some (F xa) := by rw [List.getElem?_map, hxa]; rfl
 have hGa : (xs.map G)[pa]? = some (G xa) := by rw [List.getElem?_map, hxa]; rfl
 have hFb : ((xs.map F).set pa (F xa - nG (kP cn xa xb) xa.mass cn.nx))[pb]? = some (F xb) := wB (by rw [List.getElem?_map, hxb]; rfl) hpab
 have hGb : ((xs.map G).set pa (G xa - nG (kP cn xa xb) xa.mass cn.ny))[pb]? = some (G xb) := wB (by rw [List.getElem?_map, hxb]; rfl) hpab
 refine aI #[] 139 Tryz.func220 rfl Tryz.results220 Tryz.ntmps220 rfl ?_
 have M0 := hO.mem
 refine aE (aA (bK (.agg (List.toArray _)) M0 rfl rfl rfl (fun b1 w1 M1 => (aB (aC (aE (bQ [(0, 0), (1, 0), (2, 0), (3, 1), (4, 0), (5, 0), (6, 1), (7, 2), (8, 0), (9, 0), (10, 0), (11, 0), (12, 0)] mixed rfl (by kernel_rfl) (fun w2 hb2 hh2 => ?_))))))))
 have M2 := M1.drew hb2 hh2
 refine aV rfl rfl rfl (fun _ => aH (.pointer _) rfl) (aV rfl rfl rfl (fun _ => bE rfl) (aV rfl rfl rfl (fun _ => aD 0 qU rfl) (bS rfl rfl rfl (aM 0 (.slice _ _ _) fX M2 rfl rfl rfl) (aV rfl rfl rfl (fun _ => aD 0 fL rfl) (aV rfl rfl rfl (fun _ => aD 0 gC rfl) ?_)))))
 refine bS rfl rfl rfl (aM 3 (.int _ _) bW M2 rfl rfl rfl) (dT [true, true] rfl (by kernel_rfl) (bY aKk rfl rfl (uO _ cn.low _ _ _ xs (R.memY M2 hdA) hs) ?_))
 rintro v3 w3 ⟨rfl, hb3⟩
 have M3 := M2.callB hb3
 refine aB (aC ⟨dU, ?_⟩)
 refine aV rfl rfl rfl (fun _ => aH (.tuple (List.toArray _)) rfl) (aV rfl rfl rfl (fun _ => bN (.int _ _) rfl rfl) (dX 20 (.int .i64 (pa : Int)) (iE (by rw [hla])) (aV rfl rfl rfl (fun _ => bN (.bool (decide _)) rfl rfl) (mA rfl rfl rfl (aV rfl rfl rfl (fun _ => aJ (.bool (decide _)) rfl) ?_)))))
 refine bX (aC (aE (bQ [(0, 0), (1, 0), (2, 0), (3, 1), (4, 0), (5, 0), (6, 1), (7, 2), (8, 0), (9, 0), (10, 0), (11, 0), (12, 0)] mixed rfl (by kernel_rfl) (fun w4 hb4 hh4 => ?_))))
 have M4 := M3.drew hb4 hh4
 refine aV rfl rfl rfl (fun _ => aH (.pointer _) rfl) (aV rfl rfl rfl (fun _ => bE rfl) (aV rfl rfl rfl (fun _ => aD 0 qU rfl) (bS rfl rfl rfl (aM 0 (.slice _ _ _) fX M4 rfl rfl rfl) (aV rfl rfl rfl (fun _ => aD 0 fL rfl) (aV rfl rfl rfl (fun _ => aD 1 jS rfl) ?_)))))
 refine bS rfl rfl rfl (aM 3 (.int _ _) bW M4 rfl rfl rfl) (dT [true, true] rfl (by kernel_rfl) (bY aKk rfl rfl (uO _ cn.high _ _ _ xs (R.memY M4 hdA) hs) ?_))
 rintro v5 w5 ⟨rfl, hb5⟩
 have M5 := M4.callB hb5
 refine aB (aC ⟨dU, ?_⟩)
 refine aV rfl rfl rfl (fun _ => aH (.tuple (List.toArray _)) rfl) (aV rfl rfl rfl (fun _ => bN (.int _ _) rfl rfl) (dX 31 (.int .i64 (pb : Int)) (iE (by rw [hlb])) (aV rfl rfl rfl (fun _ => bN (.bool (decide _)) rfl rfl) (mA rfl rfl rfl (aV rfl rfl rfl (fun _ => aJ (.bool (decide _)) rfl) ?_)))))
 refine bX (aC (aE (bQ [(0, 1), (1, 0), (2, 0), (3, 0), (4, 1), (5, 0), (6, 1), (7, 1), (8, 0), (9, 0), (10, 0), (11, 1), (12, 0), (13, 1), (14, 1), (15, 2), (16, 0)] mixed rfl (by kernel_rfl) (fun w6 hb6 hh6 => ?_))))
 have M6 := M5.drew hb6 hh6
 refine bS rfl rfl rfl (aX 3 eQ M6 rfl rfl rfl) (aV rfl rfl rfl (fun _ => aH (.pointer _) rfl) (aV rfl rfl rfl (fun _ => bE rfl) (aV rfl rfl rfl (fun _ => aD 0 qU rfl) (bS rfl rfl rfl (aM 0 (.slice _ _ _) fX M6 rfl rfl rfl) (eF rfl rfl rfl ?_)))))
 refine bS rfl rfl rfl (bP (pa) dH rfl rfl rfl ((R.memY M6 hdA).below_len (aG aF hxa)) ((R.memY M6 hdA).someK (aG aF hxa))) (bS rfl rfl rfl (dN _ bO (R.memY M6 hdA) (aG aF hxa) rfl) (aV rfl rfl rfl (fun _ => aH (.pointer _) rfl) (aV rfl rfl rfl (fun _ => bE rfl) ?_)))
 refine aV rfl rfl rfl (fun _ => aD 0 qU rfl) (bS rfl rfl rfl (aM 0 (.slice _ _ _) fX M6 rfl rfl rfl) (eF rfl rfl rfl (bS rfl rfl rfl (bP (pb) dH rfl rfl rfl ((R.memY M6 hdA).below_len (aG aF hxb)) ((R.memY M6 hdA).someK (aG aF hxb))) (bS rfl rfl rfl (dN _ bO (R.memY M6 hdA) (aG aF hxb) rfl) ?_))))
 refine dT [true, true, true, true, true, true, true] rfl (by kernel_rfl) (bY bOo rfl rfl (aKw _ cn xa xb hc.n hoa hob) ?_)
 rintro v7 w7 ⟨rfl, hb7⟩
 have M7 := M6.callB hb7
 refine aB (aC ⟨dU, ?_⟩)
 refine mA rfl rfl rfl (bX (aC (aE (bQ [(0, 0), (1, 0), (2, 0), (3, 0), (4, 1), (5, 0), (6, 1), (7, 1), (8, 1), (9, 0), (10, 1), (11, 2), (12, 0), (13, 0), (14, 0), (15, 0), (16, 0)] mixed rfl (by kernel_rfl) (fun w8 hb8 hh8 => ?_)))))
 have M8 := M7.drew hb8 hh8
 refine eF rfl rfl rfl (aV rfl rfl rfl (fun _ => aH (.pointer _) rfl) (aV rfl rfl rfl (fun _ => bE rfl) (aV rfl rfl rfl (fun _ => aD 0 qU rfl) (bS rfl rfl rfl (aM 0 (.slice _ _ _) fX M8 rfl rfl rfl) (eF rfl rfl rfl ?_)))))
 refine bS rfl rfl rfl (bP (pa) dH rfl rfl rfl ((R.memY M8 hdA).below_len (aG aF hxa)) ((R.memY M8 hdA).someK (aG aF hxa))) (bS rfl rfl rfl (bB 4 eH (R.memY M8 hdA) (Nat.lt_of_le_of_lt (Nat.zero_le _) ((R.memY M8 hdA).below_len (aG aF hxa))) rfl) (bS rfl rfl rfl (dY (o := 4) (.int _ _) aT (R.memY M8 hdA) (aG aF hxa) rfl rfl) ?_))
 refine aV rfl rfl rfl (fun _ => aD 2 gX rfl) (bS rfl rfl rfl (qI 3 _ bL M8 rfl rfl rfl rfl) (dT [true, true, true, true, true] rfl (by kernel_rfl) (bY aZr rfl rfl (aDy _ (kP cn xa xb) xa.mass cn.nx cn.ny ⟨hra.1, hra.2.1⟩ (by omega) hra.2.2 hc.n.x hc.n.y) ?_)))
 rintro v9 w9 ⟨rfl, hb9⟩
 have M9 := M8.callB hb9
 refine aB (aC ⟨dU, ?_⟩)
 refine aV rfl rfl rfl (fun _ => aH (.tuple (List.toArray _)) rfl) (aV rfl rfl rfl (fun _ => bN (.int _ _) rfl rfl) (aV rfl rfl rfl (fun _ => bN (.int _ _) rfl rfl) (mA rfl rfl rfl (mA rfl rfl rfl (bX ?_)))))
 refine aC (aE (bQ [(0, 0), (1, 0), (2, 0), (3, 1), (4, 0), (5, 0), (6, 0), (7, 0), (8, 1), (9, 0), (10, 0), (11, 0), (12, 0), (13, 1), (14, 0), (15, 1), (16, 1), (17, 0), (18, 0), (19, 0), (20, 0), (21, 0), (22, 1), (23, 0), (24, 1), (25, 1), (26, 0), (27, 0), (28, 1), (29, 2), (30, 1), (31, 2)] mixed rfl (by kernel_rfl) (fun w10 hb10 hh10 => ?_)))
 have M10 := M9.drew hb10 hh10
 refine aV rfl rfl rfl (fun _ => aH (.pointer _) rfl) (aV rfl rfl rfl (fun _ => bE rfl) (aV rfl rfl rfl (fun _ => aD 1 qJ rfl) (bS rfl rfl rfl (aM 0 (.slice _ _ _) nS M10 rfl rfl rfl) (eF rfl rfl rfl (aV rfl rfl rfl (fun _ => aH (.pointer _) rfl) ?_)))))
 refine aV rfl rfl rfl (fun _ => bE rfl) (aV rfl rfl rfl (fun _ => aD 2 qP rfl) (bS rfl rfl rfl (aM 0 (.slice _ _ _) nS M10 rfl rfl rfl) (eF rfl rfl rfl (aV rfl rfl rfl (fun _ => aH (.pointer _) rfl) (aV rfl rfl rfl (fun _ => bE rfl) ?_)))))
 refine aV rfl rfl rfl (fun _ => aD 1 qJ rfl) (bS rfl rfl rfl (aM 0 (.slice _ _ _) nS M10 rfl rfl rfl) (eF rfl rfl rfl (bS rfl rfl rfl (bP (pa) pO rfl rfl rfl ((hrx.rd M10 (bH (i := 1) rfl)).below_len (aG dE hFa)) ((hrx.rd M10 (bH (i := 1) rfl)).someK (aG dE hFa))) ?_)))
 refine bS rfl rfl rfl (iV (.int _ _) iX (hrx.rd M10 (bH (i := 1) rfl)) (aG dE hFa) rfl) (eF rfl rfl rfl (aV rfl rfl rfl (fun _ => fU rfl rfl (by omega) (by omega)) (aV rfl rfl rfl (fun _ => aH (.pointer _) rfl) (aV rfl rfl rfl (fun _ => bE rfl) (aV rfl rfl rfl (fun _ => aD 2 qP rfl) ?_)))))
 refine bS rfl rfl rfl (aM 0 (.slice _ _ _) nS M10 rfl rfl rfl) (eF rfl rfl rfl (bS rfl rfl rfl (bP (pa) pO rfl rfl rfl ((hry.rd M10 (bH (i := 2) rfl)).below_len (aG dE hGa)) ((hry.rd M10 (bH (i := 2) rfl)).someK (aG dE hGa))) (bS rfl rfl rfl (iV (.int _ _) iX (hry.rd M10 (bH (i := 2) rfl)) (aG dE hGa) rfl) ?_)))
 refine eF rfl rfl rfl (aV rfl rfl rfl (fun _ => fU rfl rfl (by omega) (by omega)) (bS rfl rfl rfl (bP (pa) pO rfl rfl rfl ((hrx.rd M10 (bH (i := 1) rfl)).below_len (aG dE hFa)) ((hrx.rd M10 (bH (i := 1) rfl)).someK (aG dE hFa))) (dT [true, true, true, true, true, true, true, true, true] rfl (by kernel_rfl) ?_)))
 refine aBq 1 (.int _ _) iX M10 rfl hrx (aG dE hFa) rfl rfl rfl rfl (fun e11 w11 hR11 M11 => ?_)
 have hQ11 := hR11.mapSet (f := dE) (x := F xa - nG (kP cn xa xb) xa.mass cn.nx) rfl
 refine aB (aC ⟨dU, ?_⟩)
 refine bS rfl rfl rfl (bP (pa) pO rfl rfl rfl ((hry.rd M11 (bH (i := 2) rfl)).below_len (aG dE hGa)) ((hry.rd M11 (bH (i := 2) rfl)).someK (aG dE hGa))) (dT [true] rfl (by kernel_rfl) (aBq 2 (.int _ _) iX M11 rfl hry (aG dE hGa) rfl rfl rfl rfl (fun e12 w12 hR12 M12 => ?_)))
 have hQ12 := hR12.mapSet (f := dE) (x := G xa - nG (kP cn xa xb) xa.mass cn.ny) rfl
 refine aB (aC ⟨dU, ?_⟩)
 refine bX (aC (aE (bQ [(0, 0), (1, 0), (2, 0), (3, 0), (4, 1), (5, 0), (6, 1), (7, 1), (8, 1), (9, 0), (10, 1), (11, 2), (12, 0), (13, 0), (14, 0), (15, 0), (16, 0)] mixed rfl (by kernel_rfl) (fun w13 hb13 hh13 => ?_))))
 have M13 := M12.drew hb13 hh13
 refine eF rfl rfl rfl (aV rfl rfl rfl (fun _ => aH (.pointer _) rfl) (aV rfl rfl rfl (fun _ => bE rfl) (aV rfl rfl rfl (fun _ => aD 0 qU rfl) (bS rfl rfl rfl (aM 0 (.slice _ _ _) fX M13 rfl rfl rfl) (eF rfl rfl rfl ?_)))))
 refine bS rfl rfl rfl (bP (pb) dH rfl rfl rfl ((R.memY M13 hdA).below_len (aG aF hxb)) ((R.memY M13 hdA).someK (aG aF hxb))) (bS rfl rfl rfl (bB 4 eH (R.memY M13 hdA) (Nat.lt_of_le_of_lt (Nat.zero_le _) ((R.memY M13 hdA).below_len (aG aF hxb))) rfl) (bS rfl rfl rfl (dY (o := 4) (.int _ _) aT (R.memY M13 hdA) (aG aF hxb) rfl rfl) ?_))
 refine aV rfl rfl rfl (fun _ => aD 2 gX rfl) (bS rfl rfl rfl (qI 3 _ bL M13 rfl rfl rfl rfl) (dT [true, true, true, true, true] rfl (by kernel_rfl) (bY aZr rfl rfl (aDy _ (kP cn xa xb) xb.mass cn.nx cn.ny ⟨hrb.1, hrb.2.1⟩ (by omega) hrb.2.2 hc.n.x hc.n.y) ?_)))
 rintro v14 w14 ⟨rfl, hb14⟩
 have M14 := M13.callB hb14
 refine aB (aC ⟨dU, ?_⟩)
 refine aV rfl rfl rfl (fun _ => aH (.tuple (List.toArray _)) rfl) (aV rfl rfl rfl (fun _ => bN (.int _ _) rfl rfl) (aV rfl rfl rfl (fun _ => bN (.int _ _) rfl rfl) (mA rfl rfl rfl (mA rfl rfl rfl (bX ?_)))))
 refine aC (bQ [(0, 0), (1, 0), (2, 0), (3, 1), (4, 0), (5, 0), (6, 0), (7, 0), (8, 1), (9, 0), (10, 0), (11, 0), (12, 0), (13, 1), (14, 0), (15, 1), (16, 1), (17, 0), (18, 0), (19, 0), (20, 0), (21, 0), (22, 1), (23, 0), (24, 1), (25, 1), (26, 0), (27, 0), (28, 1), (29, 2), (30, 1), (31, 2)] mixed rfl (by kernel_rfl) (fun w15 hb15 hh15 => ?_))
 have M15 := M14.drew hb15 hh15
 refine aV rfl rfl rfl (fun _ => aH (.pointer _) rfl) (aV rfl rfl rfl (fun _ => bE rfl) (aV rfl rfl rfl (fun _ => aD 1 qJ rfl) (bS rfl rfl rfl (aM 0 (.slice _ _ _) nS M15 rfl rfl rfl) (eF rfl rfl rfl (aV rfl rfl rfl (fun _ => aH (.pointer _) rfl) ?_)))))
 refine aV rfl rfl rfl (fun _ => bE rfl) (aV rfl rfl rfl (fun _ => aD 2 qP rfl) (bS rfl rfl rfl (aM 0 (.slice _ _ _) nS M15 rfl rfl rfl) (eF rfl rfl rfl (aV rfl rfl rfl (fun _ => aH (.pointer _) rfl) (aV rfl rfl rfl (fun _ => bE rfl) ?_)))))
 refine aV rfl rfl rfl (fun _ => aD 1 qJ rfl) (bS rfl rfl rfl (aM 0 (.slice _ _ _) nS M15 rfl rfl rfl) (eF rfl rfl rfl (bS rfl rfl rfl (bP (pb) pO rfl rfl rfl ((hQ11.rd M15 (bH (i := 1) rfl)).below_len (aG dE hFb)) ((hQ11.rd M15 (bH (i := 1) rfl)).someK (aG dE hFb))) ?_)))
 refine bS rfl rfl rfl (iV (.int _ _) iX (hQ11.rd M15 (bH (i := 1) rfl)) (aG dE hFb) rfl) (eF rfl rfl rfl (aV rfl rfl rfl (fun _ => aY rfl rfl (by omega) (by omega)) (aV rfl rfl rfl (fun _ => aH (.pointer _) rfl) (aV rfl rfl rfl (fun _ => bE rfl) (aV rfl rfl rfl (fun _ => aD 2 qP rfl) ?_)))))
 refine bS rfl rfl rfl (aM 0 (.slice _ _ _) nS M15 rfl rfl rfl) (eF rfl rfl rfl (bS rfl rfl rfl (bP (pb) pO rfl rfl rfl ((hQ12.rd M15 (bH (i := 2) rfl)).below_len (aG dE hGb)) ((hQ12.rd M15 (bH (i := 2) rfl)).someK (aG dE hGb))) (bS rfl rfl rfl (iV (.int _ _) iX (hQ12.rd M15 (bH (i := 2) rfl)) (aG dE hGb) rfl) ?_)))
 refine eF rfl rfl rfl (aV rfl rfl rfl (fun _ => aY rfl rfl (by omega) (by omega)) (bS rfl rfl rfl (bP (pb) pO rfl rfl rfl ((hQ11.rd M15 (bH (i := 1) rfl)).below_len (aG dE hFb)) ((hQ11.rd M15 (bH (i := 1) rfl)).someK (aG dE hFb))) (dT [true, true, true, true, true, true, true, true, true] rfl (by kernel_rfl) ?_)))
 refine aBq 1 (.int _ _) iX M15 rfl hQ11 (aG dE hFb) rfl rfl rfl rfl (fun e16 w16 hR16 M16 => ?_)
 have hQ16 := hR16.mapSet (f := dE) (x := F xb + nG (kP cn xa xb) xb.mass cn.nx) rfl
 refine aB (aC ⟨dU, ?_⟩)
 refine bS rfl rfl rfl (bP (pb) pO rfl rfl rfl ((hQ12.rd M16 (bH (i := 2) rfl)).below_len (aG dE hGb)) ((hQ12.rd M16 (bH (i := 2) rfl)).someK (aG dE hGb))) (dT [true] rfl (by kernel_rfl) (aBq 2 (.int _ _) iX M16 rfl hQ12 (aG dE hGb) rfl rfl rfl rfl (fun e17 w17 hR17 M17 => ?_)))
 have hQ17 := hR17.mapSet (f := dE) (x := G xb + nG (kP cn xa xb) xb.mass cn.ny) rfl
 refine aB (aC ⟨dU, ?_⟩)
 refine bX (lD ?_)
 exact ⟨rfl, e16, e17, by rw [← aTn hs hxa hxb hka hkb hc hba hbb]; exact hQ16, by rw [← aTn hs hxa hxb hka hkb hc hba hbb]; exact hQ17, M17.keep [true, true, true, false]⟩
set_option maxHeartbeats 4000000 in
theorem aNp (w : World) (bs : Nat) (rx ry : Row) (A : Option Addr) (n c : Nat) (xs : List Body) (R : Rd w 10 A n (xs.map aF)) (hs : cW xs) (hb : ∀ b ∈ xs, Okb b) (B : Option Addr) (mc c' : Nat) (cs : List Con) (R' : Rd w 5 B mc (cs.map cH)) (hcs : ∀ c ∈ cs, OkC xs c) (hmc : mc ≤ 8589934592) (hrx : bC 2 1 rx.A rx.n rx.c ((xs.map (fun b => gW xs (cs.take 0) (·.nx) b)).map dE) rx.e) (hry : bC 2 1 ry.A ry.n ry.c ((xs.map (fun b => gW xs (cs.take 0) (·.ny) b)).map dE) ry.e) (hO : Own [(some bs, bc [.slice A n c, .slice rx.A rx.n rx.c, .slice ry.A ry.n ry.c] 303), rx.e, ry.e] w) (hdA : 0 < n → ∀ q off, A = some ⟨q, off, none⟩ → q ∉ cE [(some bs, bc [.slice A n c, .slice rx.A rx.n rx.c, .slice ry.A ry.n ry.c] 303), rx.e, ry.e]) (hdB : 0 < mc → ∀ q off, B = some ⟨q, off, none⟩ → q ∉ cE [(some bs, bc [.slice A n c, .slice rx.A rx.n rx.c, .slice ry.A ry.n ry.c] 303), rx.e, ry.e]) :
  Calls Tryz.prog 219 #[.slice B mc c', .func (.func 220) #[.pointer (some ⟨bs, 0, none⟩)] #[]] w (fun ex w' => ∃ v, ex = .returned v ∧ (fun v w' => v = .tuple #[] ∧ ∃ ex ey : eZ, bC 2 1 rx.A rx.n rx.c ((xs.map (fun b => gW xs cs (·.nx) b)).map dE) ex ∧ bC 2 1 ry.A ry.n ry.c ((xs.map (fun b => gW xs cs (·.ny) b)).map dE) ey ∧ Mem w (cE [(some bs, bc [.slice A n c, .slice rx.A rx.n rx.c, .slice ry.A ry.n ry.c] 303), rx.e, ry.e]) [(some bs, bc [.slice A n c, .slice rx.A rx.n rx.c, .slice ry.A ry.n ry.c] 303), ex, ey] w') v w') := by
 have hlen : xs.length = n := by simpa using R.len
 have hbd := R.bound
 have hclen : cs.length = mc := by simpa using R'.len
 have hbd' := R'.bound
 refine aI #[] 16 Tryz.func219 rfl Tryz.results219 Tryz.ntmps219 rfl ?_
 have M0 := hO.mem
 refine aE (aA (dO rfl rfl (wq (dC Tryz.underlying166 rfl) rfl (aP rfl rfl (aB (aC (aQ (dS (σ := Nat × eZ × eZ) [1, 6, 7] (fun (k, ex, ey) => [(8, .int .i64 (k : Int))]) (fun (k, ex, ey) w' => (k ≤ mc ∧ bC 2 1 rx.A rx.n rx.c ((xs.map (fun b => gW xs (cs.take k) (·.nx) b)).map dE) ex ∧ bC 2 1 ry.A ry.n ry.c ((xs.map (fun b => gW xs (cs.take k) (·.ny) b)).map dE) ey) ∧ Mem w (cE [(some bs, bc [.slice A n c, .slice rx.A rx.n rx.c, .slice ry.A ry.n ry.c] 303), rx.e, ry.e]) [(some bs, bc [.slice A n c, .slice rx.A rx.n rx.c, .slice ry.A ry.n ry.c] 303), ex, ey] w') (fun (k, ex, ey) => mc - k) (0, rx.e, ry.e) (bA rfl eB) (⟨⟨by omega, hrx, hry⟩, M0⟩) ?_))))))))
 rintro ⟨k, ex, ey⟩ ρ1 w1 ⟨⟨hk, hqx, hqy⟩, hM1⟩
 refine aE (aA (cZ rfl rfl rfl rfl (aB (aC (aE ?_)))))
 refine aW rfl (fun h9 => ?_) (fun h9 => ?_)
 ·obtain ⟨cn, hcn⟩ := cS (xs := cs) (k := k) hclen (by omega)
  have hkx : ∀ b ∈ xs, -1152921504606846976 ≤ gW xs (cs.take k) (·.nx) b ∧ gW xs (cs.take k) (·.nx) b ≤ 1152921504606846976 := fun b hbm => by have := sY (cs := cs.take k) (g := (·.nx)) hs hb (fun c h => hcs c (List.mem_of_mem_take h)) (fun c h => (hcs c (List.mem_of_mem_take h)).n.x) hbm; have := List.length_take_le k cs; omega
  have hky : ∀ b ∈ xs, -1152921504606846976 ≤ gW xs (cs.take k) (·.ny) b ∧ gW xs (cs.take k) (·.ny) b ≤ 1152921504606846976 := fun b hbm => by have := sY (cs := cs.take k) (g := (·.ny)) hs hb (fun c h => hcs c (List.mem_of_mem_take h)) (fun c h => (hcs c (List.mem_of_mem_take h)).n.y) hbm; have := List.length_take_le k cs; omega
  refine aL (aC (aE (aQ (aE (aA (wq (bP (k) sK rfl rfl rfl ((R'.memY hM1 hdB).below_len (aG cH hcn)) ((R'.memY hM1 hdB).someK (aG cH hcn))) rfl (wq (dN _ eQ (R'.memY hM1 hdB) (aG cH hcn) rfl) rfl (aS lZ hM1 rfl rfl (fun b2 w2 M2 => ?_)))))))))
  refine bG 3 _ eQ M2 rfl rfl rfl rfl rfl (aR rfl) rfl (fun w3 M3 => (aB (aC (aA (wq (aH (.func _ _ _) rfl) rfl (wq (aX 3 eQ M3 rfl rfl rfl) rfl (bY bLs rfl rfl (bHc _ bs ⟨rx.A, rx.n, rx.c, ex⟩ ⟨ry.A, ry.n, ry.c, ey⟩ (fun b => gW xs (cs.take k) (·.nx) b) (fun b => gW xs (cs.take k) (·.ny) b) A n c xs (R.memY M3 hdA) hs hb hqx hqy hkx hky cn (hcs cn (List.mem_of_getElem? hcn)) (M3.ownSeg 0 3) (M3.away 0 3 R hdA)) ?_)))))))
  rintro v4 w4 ⟨rfl, ex2, ey2, hqx2, hqy2, hM4⟩
  have M4 : Mem _ _ [_, _, _, _] _ := M3.seg 0 3 hM4
  refine aB (cV (aC (aA (wq (aY rfl rfl (by omega) (by omega)) rfl (aP rfl rfl (aB ?_))))))
  refine cG (k + 1, ex2, ey2) (bA rfl eB) (cN rfl (cN rfl (cN rfl gV))) ?_ ?_
  ·exact ⟨⟨by omega, by rw [← aHw hcn]; exact hqx2, by rw [← aHw hcn]; exact hqy2⟩, M4.keep [true, true, true, false]⟩
  ·(show mc - (k + 1) < mc - k; omega)
 ·have hkn : k = mc := by omega
  rw [List.take_of_length_le (by omega)] at hqx hqy
  refine cX (dF (dK (eS (lD ?_))))
  exact ⟨rfl, ex, ey, hqx, hqy, hM1⟩
theorem Mem.rot3 {w0 w : World} {X : List Nat} {a b c : eZ} (M : Mem w0 X [a, b, c] w) : Mem w0 X [c, b, a] w := M.perm (List.reverse_perm [a, b, c]).symm
theorem Mem.rot3' {w0 w : World} {X : List Nat} {a b c : eZ} (M : Mem w0 X [a, b, c] w) : Mem w0 X [c, a, b] w := M.perm (List.perm_append_comm (l₁ := [a, b]) (l₂ := [c]))
theorem aSt {xs : List Body} {cs : List Con} {n : Nat} (hs : cW xs) (hb : ∀ b ∈ xs, Okb b) (hcs : ∀ c ∈ cs, OkC xs c) (hn : cs.length = n) (hl : n ≤ 8589934592) {b : Body} (h : b ∈ xs) : (-1152921504606846976 ≤ gW xs cs (·.nx) b ∧ gW xs cs (·.nx) b ≤ 1152921504606846976) ∧ -1152921504606846976 ≤ gW xs cs (·.ny) b ∧ gW xs cs (·.ny) b ≤ 1152921504606846976 := by
 have h1 := sY (cs := cs) (g := (·.nx)) hs hb hcs (fun c h => (hcs c h).n.x) h
 have h2 := sY (cs := cs) (g := (·.ny)) hs hb hcs (fun c h => (hcs c h).n.y) h
 omega
set_option maxHeartbeats 4000000 in
theorem bCv (w : World) (A : Option Addr) (n c : Nat) (xs : List Body) (R : Rd w 10 A n (xs.map aF)) (hs : cW xs) (hb : ∀ b ∈ xs, Okb b) (hn : n ≤ 1048576) (B : Option Addr) (mc c' : Nat) (cs : List Con) (R' : Rd w 5 B mc (cs.map cH)) (hcs : ∀ c ∈ cs, OkC xs c) (hmc : mc ≤ 8589934592) :
  Calls Tryz.prog 186 #[.slice A n c, .slice B mc c'] w (fun ex w' => ∃ v, ex = .returned v ∧ (fun v w' => ∃ rx ry : Row, v = .tuple #[.slice rx.A rx.n rx.c, .slice ry.A ry.n ry.c] ∧ bC 2 1 rx.A rx.n rx.c ((xs.map (fun b => gW xs cs (·.nx) b)).map dE) rx.e ∧ bC 2 1 ry.A ry.n ry.c ((xs.map (fun b => gW xs cs (·.ny) b)).map dE) ry.e ∧ Mem w [] [rx.e, ry.e] w') v w') := by
 have hlen : xs.length = n := by simpa using R.len
 have hbd := R.bound
 have hclen : cs.length = mc := by simpa using R'.len
 have hbd' := R'.bound
 have hz0 : ∀ g : Con → Int, List.replicate n ([.int .i64 0] : List Value) = (xs.map (fun b => gW xs (cs.take 0) g b)).map dE := fun g => by rw [bGr, aUf hlen (0 : Int)]; exact congrArg (List.map dE) (List.map_congr_left (fun b _ => (aIa xs cs g b).symm))
 refine aI #[.tmp 4, .tmp 5] 28 Tryz.func186 rfl Tryz.results186 Tryz.ntmps186 rfl ?_
 have M0 := Mem.refl w
 refine aE (aA (eM rfl rfl (eM rfl rfl (aB (aC (aE (aJm [(0, 0), (1, 0), (2, 0), (4, 0), (5, 0)] 3 6 [(6, 2), (7, 0), (8, 2), (9, 0)] [(3, 2), (7, 0), (8, 2), (9, 0)] mixed rfl (by kernel_rfl) (fun w1 hb1 hh1 => ?_))))))))
 have M1 := M0.drew hb1 hh1
 refine rT rfl rfl rfl (fun _ => aH (.slice _ _ _) rfl) (rT rfl rfl rfl (fun _ => aH (.slice _ _ _) rfl) (rT rfl rfl rfl (fun _ => dC Tryz.underlying29 rfl) (rT rfl rfl rfl (fun _ => aH (.slice _ _ _) rfl) (rT rfl rfl rfl (fun _ => dC Tryz.underlying29 rfl) ?_))))
 refine aCa ?_ ?_
 ·refine dT [] rfl (by kernel_rfl) (lY (n) [.int .i64 0] pO aDl rfl M1 rfl rfl rfl rfl rfl rfl (by omega) (by omega) (fun b2 w2 M2 => ?_))
  have hL10 := kH (T := 2) (sz := 1) (b := b2) (nn := n) (List.replicate n [.int .i64 0]) (fun l hl => by rw [List.eq_of_mem_replicate hl]; rfl) (by simp) (by omega)
  rw [hz0 (·.nx)] at hL10
  rw [hz0 (·.nx)] at M2
  refine aB (aC ⟨dU, ?_⟩)
  refine dT [] rfl (by kernel_rfl) (lY (n) [.int .i64 0] pO aDl rfl M2 rfl rfl rfl rfl rfl rfl (by omega) (by omega) (fun b3 w3 M3 => ?_))
  have hL13 := kH (T := 2) (sz := 1) (b := b3) (nn := n) (List.replicate n [.int .i64 0]) (fun l hl => by rw [List.eq_of_mem_replicate hl]; rfl) (by simp) (by omega)
  rw [hz0 (·.ny)] at hL13
  rw [hz0 (·.ny)] at M3
  refine aB (aC ⟨dU, ?_⟩)
  refine aV rfl rfl rfl (fun _ => cC [(0, .slice _ _ _), (1, .slice _ _ _), (2, .slice _ _ _)] _ aGu rfl rfl) (dT [] rfl (by kernel_rfl) (bK (.agg (List.toArray _)) M3 rfl rfl rfl (fun b4 w4 M4 => ?_)))
  refine aB (aC ⟨dU, ?_⟩)
  refine aV rfl rfl rfl (fun _ => aJ (.pointer _) rfl) (bX (aC (aE (aA (dO rfl rfl (wq (aH (.pointer _) rfl) rfl (wq (dR [.pointer _] [] rfl rfl) rfl ?_)))))))
  have M5 : Mem _ _ [_, _, _] _ := Mem.rot3' M4
  refine bY bEb rfl rfl (aNp _ b4 ⟨some ⟨b2, 0, none⟩, n, n, (some b2, bc ((xs.map (fun b => gW xs (cs.take 0) (·.nx) b)).map dE).flatten 2)⟩ ⟨some ⟨b3, 0, none⟩, n, n, (some b3, bc ((xs.map (fun b => gW xs (cs.take 0) (·.ny) b)).map dE).flatten 2)⟩ A n c xs (R.mem M5) hs hb B mc c' cs (R'.mem M5) hcs hmc hL10 hL13 (M5.ownSeg 0 3) (M5.away 0 3 R (by simp)) (M5.away 0 3 R' (by simp))) ?_
  rintro v6 w6 ⟨rfl, ex, ey, hqx, hqy, hM6⟩
  have M6 : Mem _ _ [_, _, _] _ := M5.seg 0 3 hM6
  refine aB (aC (aE (bQ [(0, 0), (1, 0), (2, 0), (3, 1), (4, 0), (5, 0), (6, 0), (7, 1), (8, 0), (9, 0)] mixed rfl (by kernel_rfl) (fun w7 hb7 hh7 => ?_))))
  have M7 := M6.drew hb7 hh7
  refine aV rfl rfl rfl (fun _ => aH (.pointer _) rfl) (aV rfl rfl rfl (fun _ => bE rfl) (aV rfl rfl rfl (fun _ => aD 1 qJ rfl) (bS rfl rfl rfl (aM 0 (.slice _ _ _) nS M7 rfl rfl rfl) (aV rfl rfl rfl (fun _ => aH (.pointer _) rfl) (aV rfl rfl rfl (fun _ => bE rfl) ?_)))))
  refine aV rfl rfl rfl (fun _ => aD 2 qP rfl) (bS rfl rfl rfl (aM 0 (.slice _ _ _) nS M7 rfl rfl rfl) (aV rfl rfl rfl (fun _ => aJ (.slice _ _ _) rfl) (aV rfl rfl rfl (fun _ => aJ (.slice _ _ _) rfl) (bX (aC (aO ?_))))))
  refine gA (.slice _ _ _) (.slice _ _ _) rfl rfl ?_
  exact ⟨⟨(some ⟨b2, 0, none⟩), n, n, ex⟩, ⟨(some ⟨b3, 0, none⟩), n, n, ey⟩, rfl, hqx, hqy, M7.keep [false, true, true]⟩
 ·refine dT [] rfl (by kernel_rfl) (lY (n) [.int .i64 0] pO aDl rfl M1 rfl rfl rfl rfl rfl rfl (by omega) (by omega) (fun b8 w8 M8 => ?_))
  have hL13 := kH (T := 2) (sz := 1) (b := b8) (nn := n) (List.replicate n [.int .i64 0]) (fun l hl => by rw [List.eq_of_mem_replicate hl]; rfl) (by simp) (by omega)
  rw [hz0 (·.ny)] at hL13
  rw [hz0 (·.ny)] at M8
  refine aB (aC ⟨dU, ?_⟩)
  refine dT [] rfl (by kernel_rfl) (lY (n) [.int .i64 0] pO aDl rfl M8 rfl rfl rfl rfl rfl rfl (by omega) (by omega) (fun b9 w9 M9 => ?_))
  have hL10 := kH (T := 2) (sz := 1) (b := b9) (nn := n) (List.replicate n [.int .i64 0]) (fun l hl => by rw [List.eq_of_mem_replicate hl]; rfl) (by simp) (by omega)
  rw [hz0 (·.nx)] at hL10
  rw [hz0 (·.nx)] at M9
  refine aB (aC ⟨dU, ?_⟩)
  refine aV rfl rfl rfl (fun _ => cC [(0, .slice _ _ _), (1, .slice _ _ _), (2, .slice _ _ _)] _ aGu rfl rfl) (dT [] rfl (by kernel_rfl) (bK (.agg (List.toArray _)) M9 rfl rfl rfl (fun b10 w10 M10 => ?_)))
  refine aB (aC ⟨dU, ?_⟩)
  refine aV rfl rfl rfl (fun _ => aJ (.pointer _) rfl) (bX (aC (aE (aA (dO rfl rfl (wq (aH (.pointer _) rfl) rfl (wq (dR [.pointer _] [] rfl rfl) rfl ?_)))))))
  have M11 : Mem _ _ [_, _, _] _ := Mem.rot3 M10
  refine bY bEb rfl rfl (aNp _ b10 ⟨some ⟨b9, 0, none⟩, n, n, (some b9, bc ((xs.map (fun b => gW xs (cs.take 0) (·.nx) b)).map dE).flatten 2)⟩ ⟨some ⟨b8, 0, none⟩, n, n, (some b8, bc ((xs.map (fun b => gW xs (cs.take 0) (·.ny) b)).map dE).flatten 2)⟩ A n c xs (R.mem M11) hs hb B mc c' cs (R'.mem M11) hcs hmc hL10 hL13 (M11.ownSeg 0 3) (M11.away 0 3 R (by simp)) (M11.away 0 3 R' (by simp))) ?_
  rintro v12 w12 ⟨rfl, ex, ey, hqx, hqy, hM12⟩
  have M12 : Mem _ _ [_, _, _] _ := M11.seg 0 3 hM12
  refine aB (aC (aE (bQ [(0, 0), (1, 0), (2, 0), (3, 1), (4, 0), (5, 0), (6, 0), (7, 1), (8, 0), (9, 0)] mixed rfl (by kernel_rfl) (fun w13 hb13 hh13 => ?_))))
  have M13 := M12.drew hb13 hh13
  refine aV rfl rfl rfl (fun _ => aH (.pointer _) rfl) (aV rfl rfl rfl (fun _ => bE rfl) (aV rfl rfl rfl (fun _ => aD 1 qJ rfl) (bS rfl rfl rfl (aM 0 (.slice _ _ _) nS M13 rfl rfl rfl) (aV rfl rfl rfl (fun _ => aH (.pointer _) rfl) (aV rfl rfl rfl (fun _ => bE rfl) ?_)))))
  refine aV rfl rfl rfl (fun _ => aD 2 qP rfl) (bS rfl rfl rfl (aM 0 (.slice _ _ _) nS M13 rfl rfl rfl) (aV rfl rfl rfl (fun _ => aJ (.slice _ _ _) rfl) (aV rfl rfl rfl (fun _ => aJ (.slice _ _ _) rfl) (bX (aC (aO ?_))))))
  refine gA (.slice _ _ _) (.slice _ _ _) rfl rfl ?_
  exact ⟨⟨(some ⟨b9, 0, none⟩), n, n, ex⟩, ⟨(some ⟨b8, 0, none⟩), n, n, ey⟩, rfl, hqx, hqy, M13.keep [false, true, true]⟩
set_option maxHeartbeats 8000000 in
theorem aVc (w : World) (A : Option Addr) (n c : Nat) (xs : List Body) (R : Rd w 10 A n (xs.map aF)) (hs : cW xs) (hb : ∀ b ∈ xs, Okb b) (hn : n ≤ 1048576) (B : Option Addr) (mc c' : Nat) (cs : List Con) (R' : Rd w 5 B mc (cs.map cH)) (hcs : ∀ c ∈ cs, OkC xs c) (hmc : mc ≤ 8589934592) :
  Calls Tryz.prog 160 #[.slice A n c, .slice B mc c'] w (fun ex w' => ∃ v, ex = .returned v ∧ (fun v w' => ∃ r : Row, v = .tuple #[.slice r.A r.n r.c, .bool (aRo xs cs)] ∧ bC 39 10 r.A r.n r.c ((aEp xs cs).map aF) r.e ∧ Mem w [] [r.e] w') v w') := by
 have hlen : xs.length = n := by simpa using R.len
 have hbd := R.bound
 have hclen : cs.length = mc := by simpa using R'.len
 have hbd' := R'.bound
 refine aI #[.tmp 4, .tmp 5] 75 Tryz.func160 rfl Tryz.results160 Tryz.ntmps160 rfl ?_
 have M0 := Mem.refl w
 refine aE (aA (eM rfl rfl (wq (aJ (.bool false) rfl) rfl (aB (aC (aE (aA (dO rfl rfl (dO rfl rfl ?_)))))))))
 refine bY bKk rfl rfl (bCv _ A n c xs (R.mem M0) hs hb hn B mc c' cs (R'.mem M0) hcs hmc) ?_
 rintro v1 w1 ⟨rx, ry, rfl, hrx, hry, hM1⟩
 have M1 : Mem _ _ [_, _] _ := M0.call0 hM1
 have hrxn : xs.length = rx.n := by simpa using hrx.1
 have hryn : xs.length = ry.n := by simpa using hry.1
 refine wq (aH (.tuple (List.toArray _)) rfl) rfl (wq (bN (.slice _ _ _) rfl rfl) rfl (wq (bN (.slice _ _ _) rfl rfl) rfl (eM rfl rfl (eM rfl rfl (aB (aC (aE (aA ?_))))))))
 refine wq (aJ (.bool false) rfl) rfl (aB (aC (aE (aA (eM rfl rfl ?_)))))
 have M2 := M1.dummy default
 refine aB (aC (aE (aE (aA (dO rfl rfl (wq (dC Tryz.underlying29 rfl) rfl (aP rfl rfl (aB (aC (aQ (dS (σ := Nat × Row) [4, 5, 6, 7, 22, 23] (fun (k, q) => [(8, .bool ((xs.take k).any (aPn xs cs))), (9, .slice q.A q.n q.c), (24, .int .i64 (k : Int))]) (fun (k, q) w' => (k ≤ n ∧ bC 39 10 q.A q.n q.c (((xs.take k).map (vX xs cs)).map aF) q.e) ∧ Mem w [] [rx.e, ry.e, q.e] w') (fun (k, q) => n - k) (0, gT) (bA (bv rfl rfl) (bA rfl (bA rfl eB))) (⟨⟨by omega, bC.nil _ _ _⟩, M2⟩) ?_)))))))))))
 rintro ⟨k, q⟩ ρ3 w3 ⟨⟨hk, hq⟩, hM3⟩
 have htl := List.length_take_le k xs
 have hqn : (xs.take k).length = q.n := by simpa using hq.1
 refine aE (aA (cZ rfl rfl rfl rfl (aB (aC (aE ?_)))))
 refine aW rfl (fun h25 => ?_) (fun h25 => ?_)
 ·obtain ⟨xb, hxb⟩ := cS (xs := xs) (k := k) hlen (by omega)
  have hxm := List.mem_of_getElem? hxb
  have hsb := aSt hs hb hcs hclen hmc hxm
  have hvb := (hb xb hxm).v
  have hlx := eP (xb.vx + gW xs cs (·.nx) xb) (l := 16777216) (by decide)
  have hly := eP (xb.vy + gW xs cs (·.ny) xb) (l := 16777216) (by decide)
  refine aL (aC (aE (aQ (aE (aA (aP rfl rfl (wq (bP (k) dH rfl rfl rfl ((R.mem hM3).below_len (aG aF hxb)) ((R.mem hM3).someK (aG aF hxb))) rfl (wq (dN _ bO (R.mem hM3) (aG aF hxb) rfl) rfl (aS fN hM3 rfl rfl (fun b4 w4 M4 => (bI rfl rfl ?_)))))))))))
  refine bG 3 _ bO M4 rfl rfl rfl rfl rfl (aR rfl) rfl (fun w5 M5 => (aB (aC (aE (bQ [(0, 0), (1, 0), (2, 1), (3, 0), (4, 0), (5, 0), (6, 1), (7, 1), (8, 0), (9, 2), (10, 0), (11, 0), (12, 0), (13, 0), (14, 0)] mixed rfl (by kernel_rfl) (fun w6 hb6 hh6 => ?_))))))
  have M6 := M5.drew hb6 hh6
  refine aV rfl rfl rfl (fun _ => aD 8 dV rfl) (aV rfl rfl rfl (fun _ => aD 0 cR rfl) (bS rfl rfl rfl (aM 3 (.int _ _) aT M6 rfl rfl rfl) (aV rfl rfl rfl (fun _ => aZ dQ Tryz.underlying2 rfl (fH _ (by omega) (by omega))) (jP rfl rfl rfl (eF rfl rfl rfl ?_)))))
  refine bS rfl rfl rfl (bP (k) pO rfl rfl rfl ((hrx.rd M6 (bH (i := 0) rfl)).below_len (aG dE (aG _ hxb))) ((hrx.rd M6 (bH (i := 0) rfl)).someK (aG dE (aG _ hxb)))) (bS rfl rfl rfl (iV (.int _ _) iX (hrx.rd M6 (bH (i := 0) rfl)) (aG dE (aG _ hxb)) rfl) ?_)
  refine aV rfl rfl rfl (fun _ => aY rfl rfl (by omega) (by omega)) (dT [true, true, true] rfl (by kernel_rfl) (bY aPq rfl rfl (aCw _ (xb.vx + gW xs cs (·.nx) xb) 16777216 ⟨by decide, by decide⟩) ?_))
  rintro v7 w7 ⟨rfl, hb7⟩
  have M7 := M6.callB hb7
  refine aB (aC ⟨dU, ?_⟩)
  refine aV rfl rfl rfl (fun _ => aH (.tuple (List.toArray _)) rfl) (aV rfl rfl rfl (fun _ => bN (.int _ _) rfl rfl) (aV rfl rfl rfl (fun _ => bN (.bool (decide _)) rfl rfl) (mA rfl rfl rfl (aV rfl rfl rfl (fun _ => aJ (.bool (decide _)) rfl) (bX ?_)))))
  refine aC (aE (bQ [(0, 0), (1, 0), (2, 1), (3, 0), (4, 0), (5, 0), (6, 1), (7, 1), (8, 0), (9, 2), (10, 0), (11, 0), (12, 0), (13, 0), (14, 0)] mixed rfl (by kernel_rfl) (fun w8 hb8 hh8 => ?_)))
  have M8 := M7.drew hb8 hh8
  refine aV rfl rfl rfl (fun _ => aD 8 dV rfl) (aV rfl rfl rfl (fun _ => aD 1 cO rfl) (bS rfl rfl rfl (aM 3 (.int _ _) aT M8 rfl rfl rfl) (aV rfl rfl rfl (fun _ => aZ dQ Tryz.underlying2 rfl (fH _ (by omega) (by omega))) (jP rfl rfl rfl (eF rfl rfl rfl ?_)))))
  refine bS rfl rfl rfl (bP (k) pO rfl rfl rfl ((hry.rd M8 (bH (i := 1) rfl)).below_len (aG dE (aG _ hxb))) ((hry.rd M8 (bH (i := 1) rfl)).someK (aG dE (aG _ hxb)))) (bS rfl rfl rfl (iV (.int _ _) iX (hry.rd M8 (bH (i := 1) rfl)) (aG dE (aG _ hxb)) rfl) ?_)
  refine aV rfl rfl rfl (fun _ => aY rfl rfl (by omega) (by omega)) (dT [true, true, true] rfl (by kernel_rfl) (bY aPq rfl rfl (aCw _ (xb.vy + gW xs cs (·.ny) xb) 16777216 ⟨by decide, by decide⟩) ?_))
  rintro v9 w9 ⟨rfl, hb9⟩
  have M9 := M8.callB hb9
  refine aB (aC ⟨dU, ?_⟩)
  refine aV rfl rfl rfl (fun _ => aH (.tuple (List.toArray _)) rfl) (aV rfl rfl rfl (fun _ => bN (.int _ _) rfl rfl) (aV rfl rfl rfl (fun _ => bN (.bool (decide _)) rfl rfl) (mA rfl rfl rfl (aV rfl rfl rfl (fun _ => aJ (.bool (decide _)) rfl) (bX ?_)))))
  refine aC (aE (aA (aP rfl rfl (wq (aZ lW Tryz.underlying21 rfl (iW _ (by omega) (by omega))) rfl (aP rfl rfl (wq (aZ lW Tryz.underlying21 rfl (iW _ (by omega) (by omega))) rfl (wq (cC [(0, .int _ _), (1, .int _ _)] _ eK rfl rfl) rfl ?_)))))))
  refine wq (aD 8 dV rfl) rfl (sO 3 _ bL M9 rfl rfl rfl rfl rfl (aR rfl) (Nat.le_of_ble_eq_true rfl) (fun w10 M10 => (aB (aC (aE (aA (wq (aH (.bool _) rfl) rfl (wq (aH (.bool _) rfl) rfl ?_))))))))
  refine jR 62 _ rfl (fun g62 => ?_) (fun g62 => ?_)
  ·refine aN rfl rfl (wq (bR true (.bool true) rfl rfl) rfl (wq (aH (.bool true) rfl) rfl (aN rfl rfl (wq (bR true (.bool true) rfl rfl) rfl (wq (aJ (.bool true) rfl) rfl ?_)))))
   refine aB (aC (aA (dO rfl rfl (wq (aX 3 bO M10 rfl rfl rfl) rfl (cT [.agg (List.toArray _)] [aF (vX xs cs xb)] rfl dH M10 rfl rfl rfl rfl (dG rfl) (by decide) (fun b11 w11 M11 => (dJ 2 [aF (vX xs cs xb)] dH M11 rfl rfl rfl rfl rfl hq rfl (by simp [aF, Go.Bil.one]) (dW.ofMem 4 M11 rfl) (by omega) (fun A12 c12 e12 w12 M12 hR12 => ?_))))))))
   refine eM rfl rfl (aB (cV (aC (aA (wq (aY rfl rfl (by omega) (by omega)) rfl (aP rfl rfl ?_))))))
   refine aB ?_
   refine cG (k + 1, ⟨A12, q.n + 1, c12, e12⟩) (bA (bv rfl (by rw [cP hxb, List.any_append, List.any_cons, List.any_nil, Bool.or_false]; rw [g62, Bool.true_or])) (bA rfl (bA rfl eB))) (cN rfl (cN rfl (cN rfl (cN rfl (cN rfl (cN rfl gV)))))) ?_ ?_
   ·exact ⟨⟨by omega, by rw [cP hxb, List.map_append, List.map_append]; exact hR12⟩, M12.keep [true, true, true, false, false]⟩
   ·(show n - (k + 1) < n - k; omega)
  ·refine wq (aH (.bool (decide _)) rfl) rfl (wq (bR false (.bool (decide _)) rfl rfl) rfl (wq (aH (.bool (decide _)) rfl) rfl ?_))
   refine dM 65 rfl (fun g65 => ?_) (fun g65 => ?_)
   ·refine aN rfl rfl (wq (bR true (.bool true) rfl rfl) rfl (wq (aJ (.bool true) rfl) rfl (aB (aC (aA (dO rfl rfl (wq (aX 3 bO M10 rfl rfl rfl) rfl ?_)))))))
    refine cT [.agg (List.toArray _)] [aF (vX xs cs xb)] rfl dH M10 rfl rfl rfl rfl (dG rfl) (by decide) (fun b13 w13 M13 => (dJ 2 [aF (vX xs cs xb)] dH M13 rfl rfl rfl rfl rfl hq rfl (by simp [aF, Go.Bil.one]) (dW.ofMem 4 M13 rfl) (by omega) (fun A14 c14 e14 w14 M14 hR14 => ?_)))
    refine eM rfl rfl (aB (cV (aC (aA (wq (aY rfl rfl (by omega) (by omega)) rfl (aP rfl rfl ?_))))))
    refine aB ?_
    refine cG (k + 1, ⟨A14, q.n + 1, c14, e14⟩) (bA (bv rfl (by rw [cP hxb, List.any_append, List.any_cons, List.any_nil, Bool.or_false]; rw [g62]; simp [aPn, g65])) (bA rfl (bA rfl eB))) (cN rfl (cN rfl (cN rfl (cN rfl (cN rfl (cN rfl gV)))))) ?_ ?_
    ·exact ⟨⟨by omega, by rw [cP hxb, List.map_append, List.map_append]; exact hR14⟩, M14.keep [true, true, true, false, false]⟩
    ·(show n - (k + 1) < n - k; omega)
   ·refine wq (aH (.bool (decide _)) rfl) rfl (wq (bR false (.bool (decide _)) rfl rfl) rfl (wq (aJ (.bool (decide _)) rfl) rfl (aB (aC (aA (dO rfl rfl (wq (aX 3 bO M10 rfl rfl rfl) rfl ?_)))))))
    refine cT [.agg (List.toArray _)] [aF (vX xs cs xb)] rfl dH M10 rfl rfl rfl rfl (dG rfl) (by decide) (fun b15 w15 M15 => (dJ 2 [aF (vX xs cs xb)] dH M15 rfl rfl rfl rfl rfl hq rfl (by simp [aF, Go.Bil.one]) (dW.ofMem 4 M15 rfl) (by omega) (fun A16 c16 e16 w16 M16 hR16 => ?_)))
    refine eM rfl rfl (aB (cV (aC (aA (wq (aY rfl rfl (by omega) (by omega)) rfl (aP rfl rfl ?_))))))
    refine aB ?_
    refine cG (k + 1, ⟨A16, q.n + 1, c16, e16⟩) (bA (bv rfl (by rw [cP hxb, List.any_append, List.any_cons, List.any_nil, Bool.or_false]; rw [g62]; simp [aPn, g65])) (bA rfl (bA rfl eB))) (cN rfl (cN rfl (cN rfl (cN rfl (cN rfl (cN rfl gV)))))) ?_ ?_
    ·exact ⟨⟨by omega, by rw [cP hxb, List.map_append, List.map_append]; exact hR16⟩, M16.keep [true, true, true, false, false]⟩
    ·(show n - (k + 1) < n - k; omega)
 ·have hkn : k = n := by omega
  rw [List.take_of_length_le (by omega)] at hq
  refine cX (dF (dK (eS (aC (aE (aA (dO rfl rfl ?_)))))))
  refine wq (aH (.bool _) rfl) rfl (eM rfl rfl (wq (aJ (.bool _) rfl) rfl (aB (aC (aO (gA (.slice _ _ _) (.bool _) rfl rfl ?_))))))
  exact ⟨q, tP rfl (congrArg Value.bool (by rw [List.take_of_length_le (by omega)]; rfl)), hq, hM3.keep [false, false, true]⟩
set_option maxHeartbeats 4000000 in
theorem aXx (w : World) (A : Option Addr) (n c : Nat) (xs : List Body) (R : Rd w 10 A n (xs.map aF)) (hs : cW xs) (hb : ∀ b ∈ xs, Okb b) (hn : n ≤ 1048576) (B : Option Addr) (mc c' : Nat) (cs : List Con) (R' : Rd w 5 B mc (cs.map cH)) (hcs : ∀ c ∈ cs, OkC xs c) (hmc : mc ≤ 8589934592) :
  Calls Tryz.prog 146 #[.slice A n c, .slice B mc c'] w (fun ex w' => ∃ v, ex = .returned v ∧ (fun v w' => ∃ r : Row, v = .tuple #[.slice r.A r.n r.c, .bool (gR xs cs 4).2] ∧ bC 39 10 r.A r.n r.c (((gR xs cs 4).1).map aF) r.e ∧ Mem w [] [r.e] w') v w') := by
 have hlen : xs.length = n := by simpa using R.len
 have hbd := R.bound
 have hclen : cs.length = mc := by simpa using R'.len
 have hbd' := R'.bound
 refine aI #[.tmp 4, .tmp 5] 25 Tryz.func146 rfl Tryz.results146 Tryz.ntmps146 rfl ?_
 have M0 := Mem.refl w
 refine aE (aA (eM rfl rfl (wq (aJ (.bool false) rfl) rfl (aB (aC (aE (aA (wq (aJ (.bool false) rfl) rfl ?_))))))))
 have M1 := M0.dummy default
 refine aB (aC (aE (aE (aA (aP rfl rfl (aB (aC (aQ (dS (σ := Nat × Row) [1, 4, 5] (fun (k, q) => [(0, .slice q.A q.n q.c), (6, .bool (gR xs cs k).2), (9, .int .i64 (k : Int))]) (fun (k, q) w' => (k ≤ 4 ∧ Rd w' 10 q.A q.n ((gR xs cs k).1.map aF) ∧ (0 < k → bC 39 10 q.A q.n q.c (((gR xs cs k).1).map aF) q.e)) ∧ Mem w [] [q.e] w') (fun (k, q) => 4 - k) (0, ⟨A, n, c, (none, default)⟩) (bA rfl (bA (bv rfl rfl) (bA rfl eB))) (⟨⟨by omega, R.mem M1, (fun h => absurd h (by omega))⟩, M1⟩) ?_)))))))))
 rintro ⟨k, q⟩ ρ2 w2 ⟨⟨hk, hRq, hq⟩, hM2⟩
 have hql : (gR xs cs k).1.length = q.n := by simpa using hRq.len
 have hsl := (iY xs cs k).len
 refine aE (aA (cZ rfl rfl rfl rfl (aB (aC (aE ?_)))))
 refine aW rfl (fun h10 => ?_) (fun h10 => ?_)
 ·refine aL (aC (aE (aQ (aE (aA (dO rfl rfl (dO rfl rfl (bY bOz rfl rfl (aVc _ q.A q.n q.c (gR xs cs k).1 hRq ((iY xs cs k).sorted hs) (qV hb k) (by omega) B mc c' cs (R'.mem hM2) (fun c h => (iY xs cs k).okc (hcs c h)) hmc) ?_))))))))
  rintro v3 w3 ⟨r, rfl, hr, hM3⟩
  have M3 : Mem _ _ [_, _] _ := hM2.call0 hM3
  refine wq (aH (.tuple (List.toArray _)) rfl) rfl (wq (bN (.slice _ _ _) rfl rfl) rfl (wq (bN (.bool _) rfl rfl) rfl (eM rfl rfl (wq (aJ (.bool _) rfl) rfl (aB (aC (aA ?_)))))))
  refine dO rfl rfl (wq (aH (.bool _) rfl) rfl (wq (aH (.bool _) rfl) rfl ?_))
  refine jR 19 _ rfl (fun g19 => ?_) (fun g19 => ?_)
  ·refine aN rfl rfl (wq (bR true (.bool true) rfl rfl) rfl (eM rfl rfl (wq (aJ (.bool true) rfl) rfl (aB (cV ?_)))))
   refine aC (aA (wq (aY rfl rfl (by omega) (by omega)) rfl (aP rfl rfl (aB ?_))))
   refine cG (k + 1, r) (bA rfl (bA (bv rfl (by show true = (_ || _); rw [g19, Bool.true_or])) (bA rfl eB))) (cN rfl (cN rfl (cN rfl gV))) ?_ ?_
   ·exact ⟨⟨by omega, hr.rd M3 (bH (i := 1) rfl), (fun _ => hr)⟩, M3.keep [false, true]⟩
   ·(show 4 - (k + 1) < 4 - k; omega)
  ·refine wq (aH (.bool _) rfl) rfl (wq (bR false (.bool _) rfl rfl) rfl (eM rfl rfl (wq (aJ (.bool _) rfl) rfl (aB (cV ?_)))))
   refine aC (aA (wq (aY rfl rfl (by omega) (by omega)) rfl (aP rfl rfl (aB ?_))))
   refine cG (k + 1, r) (bA rfl (bA (bv rfl (by show _ = (_ || _); rw [g19, Bool.false_or])) (bA rfl eB))) (cN rfl (cN rfl (cN rfl gV))) ?_ ?_
   ·exact ⟨⟨by omega, hr.rd M3 (bH (i := 1) rfl), (fun _ => hr)⟩, M3.keep [false, true]⟩
   ·(show 4 - (k + 1) < 4 - k; omega)
 ·have hk4 : k = 4 := by omega
  rw [hk4] at hq
  refine cX (dF (dK (eS (aC (aE (aA (dO rfl rfl ?_)))))))
  refine wq (aH (.bool _) rfl) rfl (eM rfl rfl (wq (aJ (.bool _) rfl) rfl (aB (aC (aO (gA (.slice _ _ _) (.bool _) rfl rfl ?_))))))
  exact ⟨q, tP rfl (congrArg Value.bool (by rw [hk4])), hq (by omega), hM2⟩
set_option maxHeartbeats 4000000 in
theorem aCr (w : World) (c : Con) (a b : Body) (hc : Okn c) (ha : Okb a) (hb : Okb b) :
  Calls Tryz.prog 190 #[.agg (cH c).toArray, (.agg (aF a).toArray), (.agg (aF b).toArray)] w (fun ex w' => ∃ v, ex = .returned v ∧ (fun v w' => v = .int .i64 (oY c a b) ∧ Below w.heap.size w w') v w') := by
 have hdp := hc.d
 have hm1 := ha.m
 have hm2 := hb.m
 refine aI #[.tmp 6] 27 Tryz.func190 rfl Tryz.results190 Tryz.ntmps190 rfl ?_
 have M0 := Mem.refl w
 refine aE (aA (bK (.agg (List.toArray _)) M0 rfl rfl rfl (fun b1 w1 M1 => (bK (.agg (List.toArray _)) M1 rfl rfl rfl (fun b2 w2 M2 => (bK (.agg (List.toArray _)) M2 rfl rfl rfl (fun b3 w3 M3 => (bI rfl rfl (aB (aC (aE (aA ?_))))))))))))
 refine wq (aD 4 aDh rfl) rfl (wq (aM 0 (.int _ _) aT M3 rfl rfl rfl) rfl (wq (aZ dQ Tryz.underlying2 rfl (fH _ (by omega) (by omega))) rfl (wq (fU rfl rfl (by omega) (by omega)) rfl (bI rfl rfl (aB (aC (aE (aE (aA ?_)))))))))
 refine aP rfl rfl (cZ rfl rfl rfl rfl (wq (aH (.bool (decide _)) rfl) rfl ?_))
 refine dM 14 rfl (fun g14 => ?_) (fun g14 => ?_)
 ·refine aN rfl rfl (aN rfl rfl (aN rfl rfl (aN rfl rfl (aN rfl rfl (aN rfl rfl ?_)))))
  refine aN rfl rfl (aN rfl rfl (wq (bR true (.bool true) rfl rfl) rfl (aB (aC (cF rfl (aE (aA ?_)))))))
  refine bI rfl rfl (aB (aC (aO (cM (cD (.int _ _) rfl ?_)))))
  exact ⟨iE (by unfold oY; rw [if_pos (by omega)]), M3.below⟩
 ·refine wq (aD 4 eH rfl) rfl (wq (aM 1 (.int _ _) aT M3 rfl rfl rfl) rfl (cZ rfl rfl rfl rfl (wq (aH (.bool (decide _)) rfl) rfl ?_)))
  refine dM 18 rfl (fun g18 => ?_) (fun g18 => ?_)
  ·refine wq (aD 4 eH rfl) rfl (wq (aM 2 (.int _ _) aT M3 rfl rfl rfl) rfl (cZ rfl rfl rfl rfl (wq (bR true (.bool (decide _)) rfl rfl) rfl (wq (bR false (.bool (decide _)) rfl rfl) rfl (aB (aC ?_))))))
   refine aW rfl (fun h23 => ?_) (fun h23 => ?_)
   ·refine aE (aA (bI rfl rfl (aB (aC (aO (cM (cD (.int _ _) rfl ?_)))))))
    exact ⟨iE (by unfold oY; rw [if_pos (by omega)]), M3.below⟩
   ·refine aL (aC (aE (aA (aP rfl rfl (wq (fB rfl rfl (by omega) (by omega)) rfl (wq (jQ rfl rfl (by decide)) rfl (bI rfl rfl (aB (aC (aO ?_))))))))))
    refine cD (.int _ _) rfl ?_
    exact ⟨iE (by unfold oY; rw [if_neg (by omega)]; exact pL _), M3.below⟩
  ·refine aN rfl rfl (aN rfl rfl (aN rfl rfl (wq (bR false (.bool false) rfl rfl) rfl (wq (bR false (.bool false) rfl rfl) rfl (aB (aC ?_))))))
   refine cJ rfl (aL (aC (aE (aA (aP rfl rfl (wq (fB rfl rfl (by omega) (by omega)) rfl (wq (jQ rfl rfl (by decide)) rfl (bI rfl rfl ?_))))))))
   refine aB (aC (aO (cD (.int _ _) rfl ?_)))
   exact ⟨iE (by unfold oY; rw [if_neg (by omega)]; exact pL _), M3.below⟩
set_option maxHeartbeats 4000000 in
theorem aHl (w : World) (c : Con) (a b : Body) (hc : Okn c) (ha : Okb a) (hb : Okb b) (hi : Bool) :
  Calls Tryz.prog 163 #[.agg (cH c).toArray, (.agg (aF a).toArray), (.agg (aF b).toArray), .bool hi] w (fun ex w' => ∃ v, ex = .returned v ∧ (fun v w' => v = .int .i64 (pY c a b (if hi = true then b.mass else a.mass)) ∧ Below w.heap.size w w') v w') := by
 have hdp := hc.d
 have hm1 := ha.m
 have hm2 := hb.m
 have hm0 : 0 ≤ (if hi = true then b.mass else a.mass) ∧ (if hi = true then b.mass else a.mass) ≤ 1048576 := by split <;> omega
 have hsr := aSr (a := a) (b := b) hc hm0
 have har := aCb (a := a) (b := b) hc
 refine aI #[.tmp 8] 36 Tryz.func163 rfl Tryz.results163 Tryz.ntmps163 rfl ?_
 have M0 := Mem.refl w
 refine aE (aA (bK (.agg (List.toArray _)) M0 rfl rfl rfl (fun b1 w1 M1 => (bK (.agg (List.toArray _)) M1 rfl rfl rfl (fun b2 w2 M2 => (bK (.agg (List.toArray _)) M2 rfl rfl rfl (fun b3 w3 M3 => (bI rfl rfl (aB (aC (aE (aA ?_))))))))))))
 refine wq (aD 4 eH rfl) rfl (wq (aM 1 (.int _ _) aT M3 rfl rfl rfl) rfl (bI rfl rfl (aB (aC (aE (aE (aA (wq (aH (.bool _) rfl) rfl (aB (aC ?_))))))))))
 refine iG _ rfl (fun h14 => ?_) (fun h14 => ?_)
 ·refine aA (wq (aD 4 eH rfl) rfl (wq (aM 2 (.int _ _) aT M3 rfl rfl rfl) rfl (bI rfl rfl (aB (aC (aE (bQ [(0, 1), (1, 1), (2, 1), (4, 0), (5, 0), (6, 0), (7, 1), (8, 0), (9, 0), (10, 1), (11, 0), (12, 0), (13, 0), (3, 2), (14, 2), (15, 0), (16, 0), (17, 0), (18, 0), (19, 0)] mixed rfl (by kernel_rfl) (fun w4 hb4 hh4 => ?_))))))))
  have M4 := M3.drew hb4 hh4
  refine bS rfl rfl rfl (aX 0 eQ M4 rfl rfl rfl) (bS rfl rfl rfl (aX 1 bO M4 rfl rfl rfl) (bS rfl rfl rfl (aX 2 bO M4 rfl rfl rfl) (eF rfl rfl rfl (aV rfl rfl rfl (fun _ => aZ dQ Tryz.underlying2 rfl (fH _ (by omega) (by omega))) (dX 23 (.int .i64 (if hi = true then b.mass else a.mass)) (iE (by rw [h14]; rfl)) ?_)))))
  refine aV rfl rfl rfl (fun _ => aD 4 eH rfl) (bS rfl rfl rfl (aM 1 (.int _ _) aT M4 rfl rfl rfl) (aV rfl rfl rfl (fun _ => aZ dQ Tryz.underlying2 rfl (fH _ (by omega) (by omega))) (aV rfl rfl rfl (fun _ => aD 4 eH rfl) (bS rfl rfl rfl (aM 2 (.int _ _) aT M4 rfl rfl rfl) ?_))))
  refine aV rfl rfl rfl (fun _ => aZ dQ Tryz.underlying2 rfl (fH _ (by omega) (by omega))) (aV rfl rfl rfl (fun _ => aY rfl rfl (by omega) (by omega)) (aV rfl rfl rfl (fun _ => qB rfl rfl ) (dT [false, false, true, true, true] rfl (by kernel_rfl) (bY aYv rfl rfl (aCr _ c a b hc ha hb) ?_))))
  rintro v5 w5 ⟨rfl, hb5⟩
  have M5 := M4.callB hb5
  refine aB (aC ⟨(dZ (bM rfl (aM 2 (.int _ _) aT M5 rfl rfl rfl)) (dZ (bM rfl (aM 1 (.int _ _) aT M5 rfl rfl rfl)) dU)), ?_⟩)
  refine dT [true, true] rfl (by kernel_rfl) (bY aJo rfl rfl (aIq _ (oY c a b) (if hi = true then b.mass else a.mass) (max 1 (a.mass + b.mass)) (by omega) hm0.1 (by omega) (by omega) (by omega) (by omega) (by omega)) ?_)
  rintro v6 w6 ⟨rfl, hb6⟩
  have M6 := M5.callB hb6
  refine aB (aC ⟨dU, ?_⟩)
  refine aV rfl rfl rfl (fun _ => aH (.tuple (List.toArray _)) rfl) (aV rfl rfl rfl (fun _ => bN (.int _ _) rfl rfl) (aV rfl rfl rfl (fun _ => bN (.int _ _) rfl rfl) (mA rfl rfl rfl (mA rfl rfl rfl (bX ?_)))))
  refine aC (aE (aA (aP rfl rfl (bI rfl rfl (aB (aC (aO (cD (.int _ _) rfl ?_))))))))
  exact ⟨rfl, M6.below⟩
 ·refine aL (aC (aE (bQ [(0, 1), (1, 1), (2, 1), (4, 0), (5, 0), (6, 0), (7, 1), (8, 0), (9, 0), (10, 1), (11, 0), (12, 0), (13, 0), (3, 2), (14, 2), (15, 0), (16, 0), (17, 0), (18, 0), (19, 0)] mixed rfl (by kernel_rfl) (fun w7 hb7 hh7 => ?_))))
  have M7 := M3.drew hb7 hh7
  refine bS rfl rfl rfl (aX 0 eQ M7 rfl rfl rfl) (bS rfl rfl rfl (aX 1 bO M7 rfl rfl rfl) (bS rfl rfl rfl (aX 2 bO M7 rfl rfl rfl) (eF rfl rfl rfl (aV rfl rfl rfl (fun _ => aZ dQ Tryz.underlying2 rfl (fH _ (by omega) (by omega))) (dX 23 (.int .i64 (if hi = true then b.mass else a.mass)) (iE (by rw [h14]; rfl)) ?_)))))
  refine aV rfl rfl rfl (fun _ => aD 4 eH rfl) (bS rfl rfl rfl (aM 1 (.int _ _) aT M7 rfl rfl rfl) (aV rfl rfl rfl (fun _ => aZ dQ Tryz.underlying2 rfl (fH _ (by omega) (by omega))) (aV rfl rfl rfl (fun _ => aD 4 eH rfl) (bS rfl rfl rfl (aM 2 (.int _ _) aT M7 rfl rfl rfl) ?_))))
  refine aV rfl rfl rfl (fun _ => aZ dQ Tryz.underlying2 rfl (fH _ (by omega) (by omega))) (aV rfl rfl rfl (fun _ => aY rfl rfl (by omega) (by omega)) (aV rfl rfl rfl (fun _ => qB rfl rfl ) (dT [false, false, true, true, true] rfl (by kernel_rfl) (bY aYv rfl rfl (aCr _ c a b hc ha hb) ?_))))
  rintro v8 w8 ⟨rfl, hb8⟩
  have M8 := M7.callB hb8
  refine aB (aC ⟨(dZ (bM rfl (aM 2 (.int _ _) aT M8 rfl rfl rfl)) (dZ (bM rfl (aM 1 (.int _ _) aT M8 rfl rfl rfl)) dU)), ?_⟩)
  refine dT [true, true] rfl (by kernel_rfl) (bY aJo rfl rfl (aIq _ (oY c a b) (if hi = true then b.mass else a.mass) (max 1 (a.mass + b.mass)) (by omega) hm0.1 (by omega) (by omega) (by omega) (by omega) (by omega)) ?_)
  rintro v9 w9 ⟨rfl, hb9⟩
  have M9 := M8.callB hb9
  refine aB (aC ⟨dU, ?_⟩)
  refine aV rfl rfl rfl (fun _ => aH (.tuple (List.toArray _)) rfl) (aV rfl rfl rfl (fun _ => bN (.int _ _) rfl rfl) (aV rfl rfl rfl (fun _ => bN (.int _ _) rfl rfl) (mA rfl rfl rfl (mA rfl rfl rfl (bX ?_)))))
  refine aC (aE (aA (aP rfl rfl (bI rfl rfl (aB (aC (aO (cD (.int _ _) rfl ?_))))))))
  exact ⟨rfl, M9.below⟩
set_option maxHeartbeats 4000000 in
theorem aCx (w : World) (bo bk : Nat) (cn : Con) (q : Row) (l : List (Int × Int)) (hq : bC 177 2 q.A q.n q.c ((l).map cK) q.e) (p : Nat) (s z : Int) (f : Int × Int) (hp : l[p]? = some f) (hs : 0 ≤ s ∧ s ≤ 1073741824) (hz : z = 1 ∨ z = -1) (hc : Okn cn) (hf : (-1152921504606846976 ≤ f.1 ∧ f.1 ≤ 1152921504606846976) ∧ -1152921504606846976 ≤ f.2 ∧ f.2 ≤ 1152921504606846976) (hO : Own [(some bo, bc [.slice q.A q.n q.c] 127), q.e, (some bk, bc (cH cn) 211)] w) :
  Calls Tryz.prog 162 #[.int .i64 (p : Int), .int .i64 s, .int .i64 z, .pointer (some ⟨bo, 0, none⟩), .pointer (some ⟨bk, 0, none⟩)] w (fun ex w' => ∃ v, ex = .returned v ∧ (fun v w' => v = .tuple #[] ∧ ∃ e : eZ, bC 177 2 q.A q.n q.c ((l.set p (aLv s z cn f)).map cK) e ∧ Mem w (cE [(some bo, bc [.slice q.A q.n q.c] 127), q.e, (some bk, bc (cH cn) 211)]) [(some bo, bc [.slice q.A q.n q.c] 127), e, (some bk, bc (cH cn) 211)] w') v w') := by
 have hcx := hc.x
 have hcy := hc.y
 have hl : l.length = q.n := by simpa using hq.1
 have hpl := (List.getElem?_eq_some_iff.1 hp).1
 have r1 := lS hs hc.x
 have r2 := lS hs hc.y
 have hp2 : (l.set p (f.1 + z * (s * cn.nx / 65536), f.2))[p]? = some (f.1 + z * (s * cn.nx / 65536), f.2) := by rw [List.getElem?_set_self hpl]
 have z1 : -1073741824 ≤ z * (s * cn.nx / 65536) ∧ z * (s * cn.nx / 65536) ≤ 1073741824 := by rcases hz with rfl | rfl <;> omega
 have z2 : -1073741824 ≤ z * (s * cn.ny / 65536) ∧ z * (s * cn.ny / 65536) ≤ 1073741824 := by rcases hz with rfl | rfl <;> omega
 refine aI #[] 42 Tryz.func162 rfl Tryz.results162 Tryz.ntmps162 rfl ?_
 have M0 := hO.mem
 refine aE (bQ [(0, 1), (1, 0), (2, 1), (3, 1), (4, 1), (5, 0), (6, 0), (7, 0), (8, 0), (9, 1), (10, 0), (11, 0), (12, 0), (13, 0), (14, 0), (15, 1), (16, 1), (17, 2)] mixed rfl (by kernel_rfl) (fun w1 hb1 hh1 => ?_))
 have M1 := M0.drew hb1 hh1
 refine bS rfl rfl rfl (aM 0 (.slice _ _ _) yN M1 rfl rfl rfl) (eF rfl rfl rfl (bS rfl rfl rfl (bP (p) aCm rfl rfl rfl ((hq.rd M1 (bH (i := 1) rfl)).below_len (aG cK hp)) ((hq.rd M1 (bH (i := 1) rfl)).someK (aG cK hp))) (bS rfl rfl rfl (bB 0 aEm (hq.rd M1 (bH (i := 1) rfl)) (Nat.lt_of_le_of_lt (Nat.zero_le _) ((hq.rd M1 (bH (i := 1) rfl)).below_len (aG cK hp))) rfl) ?_)))
 refine bS rfl rfl rfl (dY (o := 0) (.int _ _) iX (hq.rd M1 (bH (i := 1) rfl)) (aG cK hp) rfl rfl) (eF rfl rfl rfl (eF rfl rfl rfl (aV rfl rfl rfl (fun _ => aD 2 gX rfl) (aV rfl rfl rfl (fun _ => aD 0 cR rfl) (bS rfl rfl rfl (aM 2 (.int _ _) aT M1 rfl rfl rfl) ?_)))))
 refine aV rfl rfl rfl (fun _ => aZ dQ Tryz.underlying2 rfl (fH _ (by omega) (by omega))) (aV rfl rfl rfl (fun _ => fB rfl rfl (by omega) (by omega)) (aV rfl rfl rfl (fun _ => jQ rfl rfl (by decide)) (dX 20 (.int .i64 (s * cn.nx / 65536)) (iE (pL _)) (aV rfl rfl rfl (fun _ => fB rfl rfl (by omega) (by omega)) ?_))))
 refine aV rfl rfl rfl (fun _ => aY rfl rfl (by omega) (by omega)) (bS rfl rfl rfl (bP (p) aCm rfl rfl rfl ((hq.rd M1 (bH (i := 1) rfl)).below_len (aG cK hp)) ((hq.rd M1 (bH (i := 1) rfl)).someK (aG cK hp))) (bS rfl rfl rfl (bB 0 aEm (hq.rd M1 (bH (i := 1) rfl)) (Nat.lt_of_le_of_lt (Nat.zero_le _) ((hq.rd M1 (bH (i := 1) rfl)).below_len (aG cK hp))) rfl) ?_))
 refine dT [true, true, true, true, true, true, true] rfl (by kernel_rfl) (aKz (o := 0) 1 (.int _ _) iX M1 rfl hq (aG cK hp) rfl rfl rfl rfl rfl (fun e2 w2 hR2 M2 => ?_))
 have hQ2 := hR2.mapSet (f := cK) (x := (f.1 + z * (s * cn.nx / 65536), f.2)) rfl
 refine aB (aC ⟨dU, ?_⟩)
 refine bX (aC (bQ [(0, 1), (1, 0), (2, 1), (3, 1), (4, 1), (5, 0), (6, 0), (7, 0), (8, 0), (9, 1), (10, 0), (11, 0), (12, 0), (13, 0), (14, 0), (15, 1), (16, 1), (17, 2)] mixed rfl (by kernel_rfl) (fun w3 hb3 hh3 => ?_)))
 have M3 := M2.drew hb3 hh3
 refine bS rfl rfl rfl (aM 0 (.slice _ _ _) yN M3 rfl rfl rfl) (eF rfl rfl rfl (bS rfl rfl rfl (bP (p) aCm rfl rfl rfl ((hQ2.rd M3 (bH (i := 1) rfl)).below_len (aG cK hp2)) ((hQ2.rd M3 (bH (i := 1) rfl)).someK (aG cK hp2))) (bS rfl rfl rfl (bB 1 aCs (hQ2.rd M3 (bH (i := 1) rfl)) (Nat.lt_of_le_of_lt (Nat.zero_le _) ((hQ2.rd M3 (bH (i := 1) rfl)).below_len (aG cK hp2))) rfl) ?_)))
 refine bS rfl rfl rfl (dY (o := 1) (.int _ _) iX (hQ2.rd M3 (bH (i := 1) rfl)) (aG cK hp2) rfl rfl) (eF rfl rfl rfl (eF rfl rfl rfl (aV rfl rfl rfl (fun _ => aD 2 gX rfl) (aV rfl rfl rfl (fun _ => aD 1 cO rfl) (bS rfl rfl rfl (aM 2 (.int _ _) aT M3 rfl rfl rfl) ?_)))))
 refine aV rfl rfl rfl (fun _ => aZ dQ Tryz.underlying2 rfl (fH _ (by omega) (by omega))) (aV rfl rfl rfl (fun _ => fB rfl rfl (by omega) (by omega)) (aV rfl rfl rfl (fun _ => jQ rfl rfl (by decide)) (dX 37 (.int .i64 (s * cn.ny / 65536)) (iE (pL _)) (aV rfl rfl rfl (fun _ => fB rfl rfl (by omega) (by omega)) ?_))))
 refine aV rfl rfl rfl (fun _ => aY rfl rfl (by omega) (by omega)) (bS rfl rfl rfl (bP (p) aCm rfl rfl rfl ((hQ2.rd M3 (bH (i := 1) rfl)).below_len (aG cK hp2)) ((hQ2.rd M3 (bH (i := 1) rfl)).someK (aG cK hp2))) (bS rfl rfl rfl (bB 1 aCs (hQ2.rd M3 (bH (i := 1) rfl)) (Nat.lt_of_le_of_lt (Nat.zero_le _) ((hQ2.rd M3 (bH (i := 1) rfl)).below_len (aG cK hp2))) rfl) ?_))
 refine dT [true, true, true, true, true, true, true] rfl (by kernel_rfl) (aKz (o := 1) 1 (.int _ _) iX M3 rfl hQ2 (aG cK hp2) rfl rfl rfl rfl rfl (fun e4 w4 hR4 M4 => ?_))
 have hQ4 := hR4.mapSet (f := cK) (x := aLv s z cn f) rfl
 rw [List.set_set] at hQ4
 refine aB (aC ⟨dU, ?_⟩)
 refine bX (lD ?_)
 exact ⟨rfl, e4, hQ4, M4⟩
theorem Mem.swap2 {w0 w : World} {X : List Nat} {a b : eZ} (M : Mem w0 X [a, b] w) : Mem w0 X [b, a] w := M.perm (List.Perm.swap b a [])
theorem aBy {xs : List Body} {cs : List Con} {n : Nat} (hs : cW xs) (hb : ∀ b ∈ xs, Okb b) (hcs : ∀ c ∈ cs, OkC xs c) (hn : cs.length = n) (hl : n ≤ 1073741824) (k : Nat) {b : Body} (h : b ∈ xs) : (-1152921504606846976 ≤ (jT xs (cs.take k) b).1 ∧ (jT xs (cs.take k) b).1 ≤ 1152921504606846976) ∧ -1152921504606846976 ≤ (jT xs (cs.take k) b).2 ∧ (jT xs (cs.take k) b).2 ≤ 1152921504606846976 := by
 have ht : (cs.take k).length ≤ cs.length := by rw [List.length_take]; omega
 have h1 := aLf (cs := cs.take k) (g := (·.nx)) hs hb (fun c h => hcs c (List.mem_of_mem_take h)) (fun c h => (hcs c (List.mem_of_mem_take h)).n.x) h
 have h2 := aLf (cs := cs.take k) (g := (·.ny)) hs hb (fun c h => hcs c (List.mem_of_mem_take h)) (fun c h => (hcs c (List.mem_of_mem_take h)).n.y) h
 unfold jT
 simp only
 omega
set_option maxHeartbeats 8000000 in
theorem aQl (w : World) (A : Option Addr) (n c : Nat) (xs : List Body) (R : Rd w 10 A n (xs.map aF)) (hs : cW xs) (hb : ∀ b ∈ xs, Okb b) (hn : n ≤ 1048576) (B : Option Addr) (mc c' : Nat) (cs : List Con) (R' : Rd w 5 B mc (cs.map cH)) (hcs : ∀ c ∈ cs, OkC xs c) (hmc : mc ≤ 1073741824) :
  Calls Tryz.prog 147 #[.slice A n c, .slice B mc c'] w (fun ex w' => ∃ v, ex = .returned v ∧ (fun v w' => ∃ r : Row, v = .slice r.A r.n r.c ∧ bC 177 2 r.A r.n r.c ((xs.map (jT xs cs)).map cK) r.e ∧ Mem w [] [r.e] w') v w') := by
 have hlen : xs.length = n := by simpa using R.len
 have hbd := R.bound
 have hclen : cs.length = mc := by simpa using R'.len
 have hbd' := R'.bound
 have hz0 : List.replicate n ([.int .i64 0, .int .i64 0] : List Value) = (xs.map (jT xs (cs.take 0))).map cK := by rw [bGs, aUf hlen ((0, 0) : Int × Int)]; exact congrArg (List.map cK) (List.map_congr_left (fun b _ => Prod.ext (uJ xs cs (·.nx) b).symm (uJ xs cs (·.ny) b).symm))
 refine aI #[.tmp 4] 67 Tryz.func147 rfl Tryz.results147 Tryz.ntmps147 rfl ?_
 have M0 := Mem.refl w
 refine aE (aA (eM rfl rfl (aB (aC (aE (aA (dO rfl rfl (wq (dC Tryz.underlying29 rfl) rfl (lY (n) [.int .i64 0, .int .i64 0] aCm bIi rfl M0 rfl rfl rfl rfl rfl rfl (by omega) (by omega) (fun b1 w1 M1 => ?_))))))))))
 have hL15 := kH (T := 177) (sz := 2) (b := b1) (nn := n) (List.replicate n [.int .i64 0, .int .i64 0]) (fun l hl => by rw [List.eq_of_mem_replicate hl]; rfl) (by simp) (by omega)
 rw [hz0] at hL15
 rw [hz0] at M1
 refine aS bIu M1 rfl rfl (fun b2 w2 M2 => (dD 1 (.slice _ _ _) yN M2 rfl rfl rfl rfl rfl rfl (fun w3 M3 => (aB (aC (aE (aE (aA ?_))))))))
 have M4 : Mem _ _ [_, _] _ := Mem.swap2 M3
 refine dO rfl rfl (wq (dC Tryz.underlying166 rfl) rfl (aP rfl rfl (aB (aC (aQ (dS (σ := Nat × eZ) [0, 4, 5, 16, 17] (fun (k, e) => [(18, .int .i64 (k : Int))]) (fun (k, e) w' => (k ≤ mc ∧ bC 177 2 (some ⟨b1, 0, none⟩) n n ((xs.map (jT xs (cs.take k))).map cK) e) ∧ Mem w [] [(some b2, bc [.slice (some ⟨b1, 0, none⟩) n n] 127), e] w') (fun (k, e) => mc - k) (0, (some b1, bc ((xs.map (jT xs (cs.take 0))).map cK).flatten 177)) (bA rfl eB) (⟨⟨by omega, hL15⟩, M4⟩) ?_))))))
 rintro ⟨k, e⟩ ρ5 w5 ⟨⟨hk, hq⟩, hM5⟩
 refine aE (aA (cZ rfl rfl rfl rfl (aB (aC (aE ?_)))))
 refine aW rfl (fun h19 => ?_) (fun h19 => ?_)
 ·obtain ⟨cn, hcn⟩ := cS (xs := cs) (k := k) hclen (by omega)
  have hc := hcs cn (List.mem_of_getElem? hcn)
  obtain ⟨pa, xa, hxa, hka, hla, hba, hma⟩ := uA hs hc.l
  obtain ⟨pb, xb, hxb, hkb, hlb, hbb, hmb⟩ := uA hs hc.h
  have hoa := hb xa hma
  have hob := hb xb hmb
  have hne := hc.ne
  have ma := hoa.m
  have mb := hob.m
  have hpab : pa ≠ pb := fun g => by subst g; rw [hxa] at hxb; injection hxb with hxb; subst hxb; omega
  refine aL (aC (aE (aQ (aE (aA (wq (bP (k) sK rfl rfl rfl ((R'.mem hM5).below_len (aG cH hcn)) ((R'.mem hM5).someK (aG cH hcn))) rfl (wq (dN _ eQ (R'.mem hM5) (aG cH hcn) rfl) rfl (aS lZ hM5 rfl rfl (fun b6 w6 M6 => (bG 2 _ eQ M6 rfl rfl rfl rfl rfl (aR rfl) rfl (fun w7 M7 => ?_)))))))))))
  refine aB (aC (aE (aA (dO rfl rfl (wq (aD 0 fL rfl) rfl (wq (aD 0 gC rfl) rfl (wq (aM 2 (.int _ _) bW M7 rfl rfl rfl) rfl (bY aKk rfl rfl (uO _ cn.low _ _ _ xs (R.mem M7) hs) ?_))))))))
  rintro v8 w8 ⟨rfl, hb8⟩
  have M8 := M7.callB hb8
  refine wq (aH (.tuple (List.toArray _)) rfl) rfl (wq (bN (.int _ _) rfl rfl) rfl (aK 28 (.int .i64 (pa : Int)) (iE (by rw [hla])) (wq (bN (.bool (decide _)) rfl rfl) rfl (bI rfl rfl (wq (aJ (.bool (decide _)) rfl) rfl ?_)))))
  refine aB (aC (aE (aA (dO rfl rfl (wq (aD 0 fL rfl) rfl (wq (aD 1 jS rfl) rfl (wq (aM 2 (.int _ _) bW M8 rfl rfl rfl) rfl (bY aKk rfl rfl (uO _ cn.high _ _ _ xs (R.mem M8) hs) ?_))))))))
  rintro v9 w9 ⟨rfl, hb9⟩
  have M9 := M8.callB hb9
  refine wq (aH (.tuple (List.toArray _)) rfl) rfl (wq (bN (.int _ _) rfl rfl) rfl (aK 36 (.int .i64 (pb : Int)) (iE (by rw [hlb])) (wq (bN (.bool (decide _)) rfl rfl) rfl (bI rfl rfl (wq (aJ (.bool (decide _)) rfl) rfl ?_)))))
  refine aB (aC (aE (aA (wq (dR [] [.pointer _, .pointer _] rfl rfl) rfl (wq (aJ (.func _ _ _) rfl) rfl (aB (aC (aE (bQ [(0, 0), (1, 0), (2, 1), (3, 0), (4, 0), (5, 1), (6, 1), (7, 0), (8, 0), (9, 1), (10, 1), (11, 2), (12, 2)] mixed rfl (by kernel_rfl) (fun w10 hb10 hh10 => ?_))))))))))
  have M10 := M9.drew hb10 hh10
  refine aV rfl rfl rfl (fun _ => aH (.func _ _ _) rfl) (eF rfl rfl rfl (bS rfl rfl rfl (aX 2 eQ M10 rfl rfl rfl) (jP rfl rfl rfl (eF rfl rfl rfl (bS rfl rfl rfl (bP (pa) dH rfl rfl rfl ((R.mem M10).below_len (aG aF hxa)) ((R.mem M10).someK (aG aF hxa))) ?_)))))
  refine bS rfl rfl rfl (dN _ bO (R.mem M10) (aG aF hxa) rfl) (jP rfl rfl rfl (eF rfl rfl rfl (bS rfl rfl rfl (bP (pb) dH rfl rfl rfl ((R.mem M10).below_len (aG aF hxb)) ((R.mem M10).someK (aG aF hxb))) (bS rfl rfl rfl (dN _ bO (R.mem M10) (aG aF hxb) rfl) ?_))))
  refine dT [true, true, true, true, true] rfl (by kernel_rfl) (bY bCp rfl rfl (aHl _ cn xa xb hc.n hoa hob false) ?_)
  rintro v11 w11 ⟨rfl, hb11⟩
  have M11 := M10.callB hb11
  refine aB (aC ⟨dU, ?_⟩)
  refine dX 50 (.int .i64 (pY cn xa xb xa.mass)) rfl (dT [] rfl (by kernel_rfl) (bY bCg rfl rfl (aCx _ b2 b6 cn ⟨some ⟨b1, 0, none⟩, n, n, e⟩ (xs.map (jT xs (cs.take k))) hq pa (pY cn xa xb xa.mass) (-1) (jT xs (cs.take k) xa) (aG _ hxa) (zI hc.n (by omega)) (.inr rfl) hc.n (aBy hs hb hcs hclen hmc k hma) (M11.ownSeg 0 3)) ?_))
  rintro v12 w12 ⟨rfl, e1, hq1, hM12⟩
  have M12 : Mem _ _ [_, _, _] _ := M11.seg 0 3 hM12
  refine aB (aC ⟨dU, ?_⟩)
  refine bX (aC (bQ [(0, 0), (1, 0), (2, 1), (3, 0), (4, 0), (5, 1), (6, 1), (7, 0), (8, 0), (9, 1), (10, 1), (11, 2), (12, 2)] mixed rfl (by kernel_rfl) (fun w13 hb13 hh13 => ?_)))
  have M13 := M12.drew hb13 hh13
  refine aV rfl rfl rfl (fun _ => aH (.func _ _ _) rfl) (eF rfl rfl rfl (bS rfl rfl rfl (aX 2 eQ M13 rfl rfl rfl) (jP rfl rfl rfl (eF rfl rfl rfl (bS rfl rfl rfl (bP (pa) dH rfl rfl rfl ((R.mem M13).below_len (aG aF hxa)) ((R.mem M13).someK (aG aF hxa))) ?_)))))
  refine bS rfl rfl rfl (dN _ bO (R.mem M13) (aG aF hxa) rfl) (jP rfl rfl rfl (eF rfl rfl rfl (bS rfl rfl rfl (bP (pb) dH rfl rfl rfl ((R.mem M13).below_len (aG aF hxb)) ((R.mem M13).someK (aG aF hxb))) (bS rfl rfl rfl (dN _ bO (R.mem M13) (aG aF hxb) rfl) ?_))))
  refine dT [true, true, true, true, true] rfl (by kernel_rfl) (bY bCp rfl rfl (aHl _ cn xa xb hc.n hoa hob true) ?_)
  rintro v14 w14 ⟨rfl, hb14⟩
  have M14 := M13.callB hb14
  refine aB (aC ⟨dU, ?_⟩)
  refine dX 63 (.int .i64 (pY cn xa xb xb.mass)) rfl (dT [] rfl (by kernel_rfl) (bY bCg rfl rfl (aCx _ b2 b6 cn ⟨some ⟨b1, 0, none⟩, n, n, e1⟩ _ hq1 pb (pY cn xa xb xb.mass) (1) (jT xs (cs.take k) xb) (wB (aG _ hxb) hpab) (zI hc.n (by omega)) (.inl rfl) hc.n (aBy hs hb hcs hclen hmc k hmb) (M14.ownSeg 0 3)) ?_))
  rintro v15 w15 ⟨rfl, e2, hq2, hM15⟩
  have M15 : Mem _ _ [_, _, _] _ := M14.seg 0 3 hM15
  refine aB (aC ⟨dU, ?_⟩)
  refine bX (cV (aC (aA (wq (aY rfl rfl (by omega) (by omega)) rfl (aP rfl rfl (aB ?_))))))
  refine cG (k + 1, e2) (bA rfl eB) (cN rfl (cN rfl (cN rfl (cN rfl (cN rfl gV))))) ?_ ?_
  ·exact ⟨⟨by omega, by rw [← aXk hcn, ← bGh hs hxa hxb hka hkb hc hba hbb]; exact hq2⟩, M15.keep [true, true, false]⟩
  ·(show mc - (k + 1) < mc - k; omega)
 ·have hkn : k = mc := by omega
  rw [List.take_of_length_le (by omega)] at hq
  refine cX (dF (dK (eS (aC (aE (aA (wq (aM 0 (.slice _ _ _) yN hM5 rfl rfl rfl) rfl ?_)))))))
  refine eM rfl rfl (aB (aC (aO (cD (.slice _ _ _) rfl ?_))))
  exact ⟨⟨(some ⟨b1, 0, none⟩), n, n, e⟩, rfl, hq, hM5.keep [false, true]⟩
end Go.Proofs.YtaoaknafiegfoaaGreatDoor
