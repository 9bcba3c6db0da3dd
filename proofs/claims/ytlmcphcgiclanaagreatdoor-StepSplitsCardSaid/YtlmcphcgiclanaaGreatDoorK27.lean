/- Part of the proof of the laws of this seat: S20c, S20d, S20e, S20f, S20g, S20h. No conditions. -/
import Derived.Test.YtlmcphcgiclanaaGreatDoorK5
import Derived.Test.YtlmcphcgiclanaaGreatDoorK20
import Derived.Test.YtlmcphcgiclanaaGreatDoorK18
import Derived.Test.YtlmcphcgiclanaaGreatDoorK24
import Derived.Test.YtlmcphcgiclanaaGreatDoorK26
set_option linter.unusedVariables false
set_option linter.unusedSimpArgs false
set_option linter.unnecessarySimpa false
namespace Go.Proofs.YtlmcphcgiclanaaGreatDoor
open Go.Bil
open Go.RowKit (Below)
open Go.Proofs
set_option maxHeartbeats 8000000 in
theorem aPv (w : World) (bs : Nat) (rx ry : Row) (F G : Body → Int) (A : Option Addr) (n c : Nat) (xs : List Body) (R : Rd w 10 A n (xs.map aI)) (hs : bM xs) (hb : ∀ b ∈ xs, Okb b) (hrx : aY 2 1 rx.A rx.n rx.c ((xs.map F).map bN) rx.e) (hry : aY 2 1 ry.A ry.n ry.c ((xs.map G).map bN) ry.e) (hF : ∀ b ∈ xs, -1152921504606846976 ≤ F b ∧ F b ≤ 1152921504606846976) (hG : ∀ b ∈ xs, -1152921504606846976 ≤ G b ∧ G b ≤ 1152921504606846976) (cn : Con) (hc : OkC xs cn) (hO : Own [(some bs, bc [.slice A n c, .slice rx.A rx.n rx.c, .slice ry.A ry.n ry.c] 246), rx.e, ry.e] w) (hdA : 0 < n → ∀ q off, A = some ⟨q, off, none⟩ → q ∉ bU [(some bs, bc [.slice A n c, .slice rx.A rx.n rx.c, .slice ry.A ry.n ry.c] 246), rx.e, ry.e]) :
    Calls Tryz.prog 177 #[.pointer (some ⟨bs, 0, none⟩), .agg (bY cn).toArray] w (fun ex w' => ∃ v, ex = .returned v ∧ (fun v w' => v = .tuple #[] ∧ ∃ ex ey : dM, aY 2 1 rx.A rx.n rx.c ((xs.map (zB xs (·.nx) cn F)).map bN) ex ∧ aY 2 1 ry.A ry.n ry.c ((xs.map (zB xs (·.ny) cn G)).map bN) ey ∧ Mem w (bU [(some bs, bc [.slice A n c, .slice rx.A rx.n rx.c, .slice ry.A ry.n ry.c] 246), rx.e, ry.e]) [(some bs, bc [.slice A n c, .slice rx.A rx.n rx.c, .slice ry.A ry.n ry.c] 246), ex, ey] w') v w') := by
  have hlen : xs.length = n := by simpa using R.len
  have hbd := R.bound
  have hlx : xs.length = rx.n := by simpa using hrx.1
  have hly : xs.length = ry.n := by simpa using hry.1
  obtain ⟨pa, xa, hxa, hka, hla, hba, hma⟩ := nJ hs hc.l
  obtain ⟨pb, xb, hxb, hkb, hlb, hbb, hmb⟩ := nJ hs hc.h
  have hoa := hb xa hma
  have hob := hb xb hmb
  have hne := hc.ne
  have hpl := (List.getElem?_eq_some_iff.1 hxa).1
  have hpl2 := (List.getElem?_eq_some_iff.1 hxb).1
  have hpab : pa ≠ pb := fun g => by subst g; rw [hxa] at hxb; injection hxb with hxb; subst hxb; omega
  have ma := hoa.m
  have mb := hob.m
  have hra := sI hc.n hoa hob (m := xa.mass) (by omega)
  have hrb := sI hc.n hoa hob (m := xb.mass) (by omega)
  have gax := (kJ hra.2.2 hc.n.x).2.2
  have gay := (kJ hra.2.2 hc.n.y).2.2
  have gbx := (kJ hrb.2.2 hc.n.x).2.2
  have gby := (kJ hrb.2.2 hc.n.y).2.2
  have fa := hF xa hma
  have fb := hF xb hmb
  have ga := hG xa hma
  have gb := hG xb hmb
  have hFa : (xs.map F)[pa]? = some (F xa) := by rw [List.getElem?_map, hxa]; rfl
  have hGa : (xs.map G)[pa]? = some (G xa) := by rw [List.getElem?_map, hxa]; rfl
  have hFb : ((xs.map F).set pa (F xa - mJ (jW cn xa xb) xa.mass cn.nx))[pb]? = some (F xb) := oH (by rw [List.getElem?_map, hxb]; rfl) hpab
  have hGb : ((xs.map G).set pa (G xa - mJ (jW cn xa xb) xa.mass cn.ny))[pb]? = some (G xb) := oH (by rw [List.getElem?_map, hxb]; rfl) hpab
  refine aJ #[] 139 Tryz.func177 rfl Tryz.results177 Tryz.ntmps177 rfl ?_
  have M0 := hO.mem
  refine aG (aB ?_)
  refine bK (.agg (List.toArray _)) M0 rfl rfl rfl (fun b1 w1 M1 => ?_)
  refine aE (aF (aG ?_))
  refine bZ [(0, 0), (1, 0), (2, 0), (3, 1), (4, 0), (5, 0), (6, 1), (7, 2), (8, 0), (9, 0), (10, 0), (11, 0), (12, 0)] mixed rfl (by kernel_rfl) (fun w2 hb2 hh2 => ?_)
  have M2 := M1.drew hb2 hh2
  refine aX rfl rfl rfl (fun _ => aC (.pointer _) rfl) ?_
  refine aX rfl rfl rfl (fun _ => aV rfl) ?_
  refine aX rfl rfl rfl (fun _ => aH 0 lE rfl) ?_
  refine cC rfl rfl rfl (aW 0 (.slice _ _ _) kA M2 rfl rfl rfl) ?_
  refine aX rfl rfl rfl (fun _ => aH 0 pN rfl) ?_
  refine aX rfl rfl rfl (fun _ => aH 0 lI rfl) ?_
  refine cC rfl rfl rfl (aW 3 (.int _ _) cV M2 rfl rfl rfl) ?_
  refine eD [true, true] rfl (by kernel_rfl) ?_
  refine aK xU rfl rfl rfl ?_
  refine (nG _ cn.low _ _ _ xs (R.memY M2 hdA) hs).mono ?_
  rintro _ w3 ⟨v3, rfl, ⟨rfl, hb3⟩⟩
  refine ⟨_, rfl, ?_⟩
  have M3 := M2.callB hb3
  refine aE (aF ⟨eF, ?_⟩)
  refine aX rfl rfl rfl (fun _ => aC (.tuple (List.toArray _)) rfl) ?_
  refine aX rfl rfl rfl (fun _ => bC (.int _ _) rfl rfl) ?_
  refine nS 20 (.int .i64 (pa : Int)) (iE (by rw [hla])) ?_
  refine aX rfl rfl rfl (fun _ => bC (.bool (decide _)) rfl rfl) ?_
  refine aX rfl rfl rfl (fun _ => aD (.int _ _) rfl) ?_
  refine aX rfl rfl rfl (fun _ => aD (.bool (decide _)) rfl) ?_
  refine cF ?_
  refine aF (aG ?_)
  refine bZ [(0, 0), (1, 0), (2, 0), (3, 1), (4, 0), (5, 0), (6, 1), (7, 2), (8, 0), (9, 0), (10, 0), (11, 0), (12, 0)] mixed rfl (by kernel_rfl) (fun w4 hb4 hh4 => ?_)
  have M4 := M3.drew hb4 hh4
  refine aX rfl rfl rfl (fun _ => aC (.pointer _) rfl) ?_
  refine aX rfl rfl rfl (fun _ => aV rfl) ?_
  refine aX rfl rfl rfl (fun _ => aH 0 lE rfl) ?_
  refine cC rfl rfl rfl (aW 0 (.slice _ _ _) kA M4 rfl rfl rfl) ?_
  refine aX rfl rfl rfl (fun _ => aH 0 pN rfl) ?_
  refine aX rfl rfl rfl (fun _ => aH 1 lG rfl) ?_
  refine cC rfl rfl rfl (aW 3 (.int _ _) cV M4 rfl rfl rfl) ?_
  refine eD [true, true] rfl (by kernel_rfl) ?_
  refine aK xU rfl rfl rfl ?_
  refine (nG _ cn.high _ _ _ xs (R.memY M4 hdA) hs).mono ?_
  rintro _ w5 ⟨v5, rfl, ⟨rfl, hb5⟩⟩
  refine ⟨_, rfl, ?_⟩
  have M5 := M4.callB hb5
  refine aE (aF ⟨eF, ?_⟩)
  refine aX rfl rfl rfl (fun _ => aC (.tuple (List.toArray _)) rfl) ?_
  refine aX rfl rfl rfl (fun _ => bC (.int _ _) rfl rfl) ?_
  refine nS 31 (.int .i64 (pb : Int)) (iE (by rw [hlb])) ?_
  refine aX rfl rfl rfl (fun _ => bC (.bool (decide _)) rfl rfl) ?_
  refine aX rfl rfl rfl (fun _ => aD (.int _ _) rfl) ?_
  refine aX rfl rfl rfl (fun _ => aD (.bool (decide _)) rfl) ?_
  refine cF ?_
  refine aF (aG ?_)
  refine bZ [(0, 1), (1, 0), (2, 0), (3, 0), (4, 1), (5, 0), (6, 1), (7, 1), (8, 0), (9, 0), (10, 0), (11, 1), (12, 0), (13, 1), (14, 1), (15, 2), (16, 0)] mixed rfl (by kernel_rfl) (fun w6 hb6 hh6 => ?_)
  have M6 := M5.drew hb6 hh6
  refine cC rfl rfl rfl (bB 3 fD M6 rfl rfl rfl) ?_
  refine aX rfl rfl rfl (fun _ => aC (.pointer _) rfl) ?_
  refine aX rfl rfl rfl (fun _ => aV rfl) ?_
  refine aX rfl rfl rfl (fun _ => aH 0 lE rfl) ?_
  refine cC rfl rfl rfl (aW 0 (.slice _ _ _) kA M6 rfl rfl rfl) ?_
  refine aX rfl rfl rfl (fun _ => aC (.int _ _) rfl) ?_
  refine cC rfl rfl rfl (bO (pa) dG rfl rfl rfl ((R.memY M6 hdA).below_len (aL aI hxa)) ((R.memY M6 hdA).someK (aL aI hxa))) ?_
  refine cC rfl rfl rfl (dK _ bX (R.memY M6 hdA) (aL aI hxa) rfl) ?_
  refine aX rfl rfl rfl (fun _ => aC (.pointer _) rfl) ?_
  refine aX rfl rfl rfl (fun _ => aV rfl) ?_
  refine aX rfl rfl rfl (fun _ => aH 0 lE rfl) ?_
  refine cC rfl rfl rfl (aW 0 (.slice _ _ _) kA M6 rfl rfl rfl) ?_
  refine aX rfl rfl rfl (fun _ => aC (.int _ _) rfl) ?_
  refine cC rfl rfl rfl (bO (pb) dG rfl rfl rfl ((R.memY M6 hdA).below_len (aL aI hxb)) ((R.memY M6 hdA).someK (aL aI hxb))) ?_
  refine cC rfl rfl rfl (dK _ bX (R.memY M6 hdA) (aL aI hxb) rfl) ?_
  refine eD [true, true, true, true, true, true, true] rfl (by kernel_rfl) ?_
  refine aK aTw rfl rfl rfl ?_
  refine (zM _ cn xa xb hc.n hoa hob).mono ?_
  rintro _ w7 ⟨v7, rfl, ⟨rfl, hb7⟩⟩
  refine ⟨_, rfl, ?_⟩
  have M7 := M6.callB hb7
  refine aE (aF ⟨eF, ?_⟩)
  refine aX rfl rfl rfl (fun _ => aD (.int _ _) rfl) ?_
  refine cF ?_
  refine aF (aG ?_)
  refine bZ [(0, 0), (1, 0), (2, 0), (3, 0), (4, 1), (5, 0), (6, 1), (7, 1), (8, 1), (9, 0), (10, 1), (11, 2), (12, 0), (13, 0), (14, 0), (15, 0), (16, 0)] mixed rfl (by kernel_rfl) (fun w8 hb8 hh8 => ?_)
  have M8 := M7.drew hb8 hh8
  refine aX rfl rfl rfl (fun _ => aC (.int _ _) rfl) ?_
  refine aX rfl rfl rfl (fun _ => aC (.pointer _) rfl) ?_
  refine aX rfl rfl rfl (fun _ => aV rfl) ?_
  refine aX rfl rfl rfl (fun _ => aH 0 lE rfl) ?_
  refine cC rfl rfl rfl (aW 0 (.slice _ _ _) kA M8 rfl rfl rfl) ?_
  refine aX rfl rfl rfl (fun _ => aC (.int _ _) rfl) ?_
  refine cC rfl rfl rfl (bO (pa) dG rfl rfl rfl ((R.memY M8 hdA).below_len (aL aI hxa)) ((R.memY M8 hdA).someK (aL aI hxa))) ?_
  refine cC rfl rfl rfl (bR 4 fE (R.memY M8 hdA) (Nat.lt_of_le_of_lt (Nat.zero_le _) ((R.memY M8 hdA).below_len (aL aI hxa))) rfl) ?_
  refine cC rfl rfl rfl (eV (o := 4) (.int _ _) bH (R.memY M8 hdA) (aL aI hxa) rfl rfl) ?_
  refine aX rfl rfl rfl (fun _ => aH 2 lB rfl) ?_
  refine cC rfl rfl rfl (tJ 3 _ bI M8 rfl rfl rfl rfl) ?_
  refine eD [true, true, true, true, true] rfl (by kernel_rfl) ?_
  refine aK aLv rfl rfl rfl ?_
  refine (tQ _ (jW cn xa xb) xa.mass cn.nx cn.ny ⟨hra.1, hra.2.1⟩ (by omega) hra.2.2 hc.n.x hc.n.y).mono ?_
  rintro _ w9 ⟨v9, rfl, ⟨rfl, hb9⟩⟩
  refine ⟨_, rfl, ?_⟩
  have M9 := M8.callB hb9
  refine aE (aF ⟨eF, ?_⟩)
  refine aX rfl rfl rfl (fun _ => aC (.tuple (List.toArray _)) rfl) ?_
  refine aX rfl rfl rfl (fun _ => bC (.int _ _) rfl rfl) ?_
  refine aX rfl rfl rfl (fun _ => bC (.int _ _) rfl rfl) ?_
  refine aX rfl rfl rfl (fun _ => aD (.int _ _) rfl) ?_
  refine aX rfl rfl rfl (fun _ => aD (.int _ _) rfl) ?_
  refine cF ?_
  refine aF (aG ?_)
  refine bZ [(0, 0), (1, 0), (2, 0), (3, 1), (4, 0), (5, 0), (6, 0), (7, 0), (8, 1), (9, 0), (10, 0), (11, 0), (12, 0), (13, 1), (14, 0), (15, 1), (16, 1), (17, 0), (18, 0), (19, 0), (20, 0), (21, 0), (22, 1), (23, 0), (24, 1), (25, 1), (26, 0), (27, 0), (28, 1), (29, 2), (30, 1), (31, 2)] mixed rfl (by kernel_rfl) (fun w10 hb10 hh10 => ?_)
  have M10 := M9.drew hb10 hh10
  refine aX rfl rfl rfl (fun _ => aC (.pointer _) rfl) ?_
  refine aX rfl rfl rfl (fun _ => aV rfl) ?_
  refine aX rfl rfl rfl (fun _ => aH 1 kX rfl) ?_
  refine cC rfl rfl rfl (aW 0 (.slice _ _ _) iR M10 rfl rfl rfl) ?_
  refine aX rfl rfl rfl (fun _ => aC (.int _ _) rfl) ?_
  refine aX rfl rfl rfl (fun _ => aC (.pointer _) rfl) ?_
  refine aX rfl rfl rfl (fun _ => aV rfl) ?_
  refine aX rfl rfl rfl (fun _ => aH 2 kZ rfl) ?_
  refine cC rfl rfl rfl (aW 0 (.slice _ _ _) iR M10 rfl rfl rfl) ?_
  refine aX rfl rfl rfl (fun _ => aC (.int _ _) rfl) ?_
  refine aX rfl rfl rfl (fun _ => aC (.pointer _) rfl) ?_
  refine aX rfl rfl rfl (fun _ => aV rfl) ?_
  refine aX rfl rfl rfl (fun _ => aH 1 kX rfl) ?_
  refine cC rfl rfl rfl (aW 0 (.slice _ _ _) iR M10 rfl rfl rfl) ?_
  refine aX rfl rfl rfl (fun _ => aC (.int _ _) rfl) ?_
  refine cC rfl rfl rfl (bO (pa) jZ rfl rfl rfl ((hrx.rd M10 (aP (i := 1) rfl)).below_len (aL bN hFa)) ((hrx.rd M10 (aP (i := 1) rfl)).someK (aL bN hFa))) ?_
  refine cC rfl rfl rfl (jM (.int _ _) jL (hrx.rd M10 (aP (i := 1) rfl)) (aL bN hFa) rfl) ?_
  refine aX rfl rfl rfl (fun _ => aC (.int _ _) rfl) ?_
  refine aX rfl rfl rfl (fun _ => mY rfl rfl (by omega) (by omega)) ?_
  refine aX rfl rfl rfl (fun _ => aC (.pointer _) rfl) ?_
  refine aX rfl rfl rfl (fun _ => aV rfl) ?_
  refine aX rfl rfl rfl (fun _ => aH 2 kZ rfl) ?_
  refine cC rfl rfl rfl (aW 0 (.slice _ _ _) iR M10 rfl rfl rfl) ?_
  refine aX rfl rfl rfl (fun _ => aC (.int _ _) rfl) ?_
  refine cC rfl rfl rfl (bO (pa) jZ rfl rfl rfl ((hry.rd M10 (aP (i := 2) rfl)).below_len (aL bN hGa)) ((hry.rd M10 (aP (i := 2) rfl)).someK (aL bN hGa))) ?_
  refine cC rfl rfl rfl (jM (.int _ _) jL (hry.rd M10 (aP (i := 2) rfl)) (aL bN hGa) rfl) ?_
  refine aX rfl rfl rfl (fun _ => aC (.int _ _) rfl) ?_
  refine aX rfl rfl rfl (fun _ => mY rfl rfl (by omega) (by omega)) ?_
  refine cC rfl rfl rfl (bO (pa) jZ rfl rfl rfl ((hrx.rd M10 (aP (i := 1) rfl)).below_len (aL bN hFa)) ((hrx.rd M10 (aP (i := 1) rfl)).someK (aL bN hFa))) ?_
  refine eD [true, true, true, true, true, true, true, true, true] rfl (by kernel_rfl) ?_
  refine sB 1 (.int _ _) jL M10 rfl hrx (aL bN hFa) rfl rfl rfl rfl (fun e11 w11 hR11 M11 => ?_)
  have hQ11 := hR11.mapSet (f := bN) (x := F xa - mJ (jW cn xa xb) xa.mass cn.nx) rfl
  refine aE (aF ⟨eF, ?_⟩)
  refine cC rfl rfl rfl (bO (pa) jZ rfl rfl rfl ((hry.rd M11 (aP (i := 2) rfl)).below_len (aL bN hGa)) ((hry.rd M11 (aP (i := 2) rfl)).someK (aL bN hGa))) ?_
  refine eD [true] rfl (by kernel_rfl) ?_
  refine sB 2 (.int _ _) jL M11 rfl hry (aL bN hGa) rfl rfl rfl rfl (fun e12 w12 hR12 M12 => ?_)
  have hQ12 := hR12.mapSet (f := bN) (x := G xa - mJ (jW cn xa xb) xa.mass cn.ny) rfl
  refine aE (aF ⟨eF, ?_⟩)
  refine cF ?_
  refine aF (aG ?_)
  refine bZ [(0, 0), (1, 0), (2, 0), (3, 0), (4, 1), (5, 0), (6, 1), (7, 1), (8, 1), (9, 0), (10, 1), (11, 2), (12, 0), (13, 0), (14, 0), (15, 0), (16, 0)] mixed rfl (by kernel_rfl) (fun w13 hb13 hh13 => ?_)
  have M13 := M12.drew hb13 hh13
  refine aX rfl rfl rfl (fun _ => aC (.int _ _) rfl) ?_
  refine aX rfl rfl rfl (fun _ => aC (.pointer _) rfl) ?_
  refine aX rfl rfl rfl (fun _ => aV rfl) ?_
  refine aX rfl rfl rfl (fun _ => aH 0 lE rfl) ?_
  refine cC rfl rfl rfl (aW 0 (.slice _ _ _) kA M13 rfl rfl rfl) ?_
  refine aX rfl rfl rfl (fun _ => aC (.int _ _) rfl) ?_
  refine cC rfl rfl rfl (bO (pb) dG rfl rfl rfl ((R.memY M13 hdA).below_len (aL aI hxb)) ((R.memY M13 hdA).someK (aL aI hxb))) ?_
  refine cC rfl rfl rfl (bR 4 fE (R.memY M13 hdA) (Nat.lt_of_le_of_lt (Nat.zero_le _) ((R.memY M13 hdA).below_len (aL aI hxb))) rfl) ?_
  refine cC rfl rfl rfl (eV (o := 4) (.int _ _) bH (R.memY M13 hdA) (aL aI hxb) rfl rfl) ?_
  refine aX rfl rfl rfl (fun _ => aH 2 lB rfl) ?_
  refine cC rfl rfl rfl (tJ 3 _ bI M13 rfl rfl rfl rfl) ?_
  refine eD [true, true, true, true, true] rfl (by kernel_rfl) ?_
  refine aK aLv rfl rfl rfl ?_
  refine (tQ _ (jW cn xa xb) xb.mass cn.nx cn.ny ⟨hrb.1, hrb.2.1⟩ (by omega) hrb.2.2 hc.n.x hc.n.y).mono ?_
  rintro _ w14 ⟨v14, rfl, ⟨rfl, hb14⟩⟩
  refine ⟨_, rfl, ?_⟩
  have M14 := M13.callB hb14
  refine aE (aF ⟨eF, ?_⟩)
  refine aX rfl rfl rfl (fun _ => aC (.tuple (List.toArray _)) rfl) ?_
  refine aX rfl rfl rfl (fun _ => bC (.int _ _) rfl rfl) ?_
  refine aX rfl rfl rfl (fun _ => bC (.int _ _) rfl rfl) ?_
  refine aX rfl rfl rfl (fun _ => aD (.int _ _) rfl) ?_
  refine aX rfl rfl rfl (fun _ => aD (.int _ _) rfl) ?_
  refine cF ?_
  refine aF ?_
  refine bZ [(0, 0), (1, 0), (2, 0), (3, 1), (4, 0), (5, 0), (6, 0), (7, 0), (8, 1), (9, 0), (10, 0), (11, 0), (12, 0), (13, 1), (14, 0), (15, 1), (16, 1), (17, 0), (18, 0), (19, 0), (20, 0), (21, 0), (22, 1), (23, 0), (24, 1), (25, 1), (26, 0), (27, 0), (28, 1), (29, 2), (30, 1), (31, 2)] mixed rfl (by kernel_rfl) (fun w15 hb15 hh15 => ?_)
  have M15 := M14.drew hb15 hh15
  refine aX rfl rfl rfl (fun _ => aC (.pointer _) rfl) ?_
  refine aX rfl rfl rfl (fun _ => aV rfl) ?_
  refine aX rfl rfl rfl (fun _ => aH 1 kX rfl) ?_
  refine cC rfl rfl rfl (aW 0 (.slice _ _ _) iR M15 rfl rfl rfl) ?_
  refine aX rfl rfl rfl (fun _ => aC (.int _ _) rfl) ?_
  refine aX rfl rfl rfl (fun _ => aC (.pointer _) rfl) ?_
  refine aX rfl rfl rfl (fun _ => aV rfl) ?_
  refine aX rfl rfl rfl (fun _ => aH 2 kZ rfl) ?_
  refine cC rfl rfl rfl (aW 0 (.slice _ _ _) iR M15 rfl rfl rfl) ?_
  refine aX rfl rfl rfl (fun _ => aC (.int _ _) rfl) ?_
  refine aX rfl rfl rfl (fun _ => aC (.pointer _) rfl) ?_
  refine aX rfl rfl rfl (fun _ => aV rfl) ?_
  refine aX rfl rfl rfl (fun _ => aH 1 kX rfl) ?_
  refine cC rfl rfl rfl (aW 0 (.slice _ _ _) iR M15 rfl rfl rfl) ?_
  refine aX rfl rfl rfl (fun _ => aC (.int _ _) rfl) ?_
  refine cC rfl rfl rfl (bO (pb) jZ rfl rfl rfl ((hQ11.rd M15 (aP (i := 1) rfl)).below_len (aL bN hFb)) ((hQ11.rd M15 (aP (i := 1) rfl)).someK (aL bN hFb))) ?_
  refine cC rfl rfl rfl (jM (.int _ _) jL (hQ11.rd M15 (aP (i := 1) rfl)) (aL bN hFb) rfl) ?_
  refine aX rfl rfl rfl (fun _ => aC (.int _ _) rfl) ?_
  refine aX rfl rfl rfl (fun _ => bW rfl rfl (by omega) (by omega)) ?_
  refine aX rfl rfl rfl (fun _ => aC (.pointer _) rfl) ?_
  refine aX rfl rfl rfl (fun _ => aV rfl) ?_
  refine aX rfl rfl rfl (fun _ => aH 2 kZ rfl) ?_
  refine cC rfl rfl rfl (aW 0 (.slice _ _ _) iR M15 rfl rfl rfl) ?_
  refine aX rfl rfl rfl (fun _ => aC (.int _ _) rfl) ?_
  refine cC rfl rfl rfl (bO (pb) jZ rfl rfl rfl ((hQ12.rd M15 (aP (i := 2) rfl)).below_len (aL bN hGb)) ((hQ12.rd M15 (aP (i := 2) rfl)).someK (aL bN hGb))) ?_
  refine cC rfl rfl rfl (jM (.int _ _) jL (hQ12.rd M15 (aP (i := 2) rfl)) (aL bN hGb) rfl) ?_
  refine aX rfl rfl rfl (fun _ => aC (.int _ _) rfl) ?_
  refine aX rfl rfl rfl (fun _ => bW rfl rfl (by omega) (by omega)) ?_
  refine cC rfl rfl rfl (bO (pb) jZ rfl rfl rfl ((hQ11.rd M15 (aP (i := 1) rfl)).below_len (aL bN hFb)) ((hQ11.rd M15 (aP (i := 1) rfl)).someK (aL bN hFb))) ?_
  refine eD [true, true, true, true, true, true, true, true, true] rfl (by kernel_rfl) ?_
  refine sB 1 (.int _ _) jL M15 rfl hQ11 (aL bN hFb) rfl rfl rfl rfl (fun e16 w16 hR16 M16 => ?_)
  have hQ16 := hR16.mapSet (f := bN) (x := F xb + mJ (jW cn xa xb) xb.mass cn.nx) rfl
  refine aE (aF ⟨eF, ?_⟩)
  refine cC rfl rfl rfl (bO (pb) jZ rfl rfl rfl ((hQ12.rd M16 (aP (i := 2) rfl)).below_len (aL bN hGb)) ((hQ12.rd M16 (aP (i := 2) rfl)).someK (aL bN hGb))) ?_
  refine eD [true] rfl (by kernel_rfl) ?_
  refine sB 2 (.int _ _) jL M16 rfl hQ12 (aL bN hGb) rfl rfl rfl rfl (fun e17 w17 hR17 M17 => ?_)
  have hQ17 := hR17.mapSet (f := bN) (x := G xb + mJ (jW cn xa xb) xb.mass cn.ny) rfl
  refine aE (aF ⟨eF, ?_⟩)
  refine cF ?_
  refine gR ?_
  exact ⟨rfl, e16, e17, by rw [← aFc hs hxa hxb hka hkb hc hba hbb]; exact hQ16, by rw [← aFc hs hxa hxb hka hkb hc hba hbb]; exact hQ17, M17.keep [true, true, true, false]⟩
end Go.Proofs.YtlmcphcgiclanaaGreatDoor

namespace Go.Proofs.YtlmcphcgiclanaaGreatDoor
open Go.Bil
open Go.RowKit (Below)
open Go.Proofs
set_option maxHeartbeats 4000000 in
theorem aBc (w : World) (bs : Nat) (rx ry : Row) (A : Option Addr) (n c : Nat) (xs : List Body) (R : Rd w 10 A n (xs.map aI)) (hs : bM xs) (hb : ∀ b ∈ xs, Okb b) (B : Option Addr) (mc c' : Nat) (cs : List Con) (R' : Rd w 5 B mc (cs.map bY)) (hcs : ∀ c ∈ cs, OkC xs c) (hmc : mc ≤ 8589934592) (hrx : aY 2 1 rx.A rx.n rx.c ((xs.map (fun b => eN xs (cs.take 0) (·.nx) b)).map bN) rx.e) (hry : aY 2 1 ry.A ry.n ry.c ((xs.map (fun b => eN xs (cs.take 0) (·.ny) b)).map bN) ry.e) (hO : Own [(some bs, bc [.slice A n c, .slice rx.A rx.n rx.c, .slice ry.A ry.n ry.c] 246), rx.e, ry.e] w) (hdA : 0 < n → ∀ q off, A = some ⟨q, off, none⟩ → q ∉ bU [(some bs, bc [.slice A n c, .slice rx.A rx.n rx.c, .slice ry.A ry.n ry.c] 246), rx.e, ry.e]) (hdB : 0 < mc → ∀ q off, B = some ⟨q, off, none⟩ → q ∉ bU [(some bs, bc [.slice A n c, .slice rx.A rx.n rx.c, .slice ry.A ry.n ry.c] 246), rx.e, ry.e]) :
    Calls Tryz.prog 176 #[.slice B mc c', .func (.func 177) #[.pointer (some ⟨bs, 0, none⟩)] #[]] w (fun ex w' => ∃ v, ex = .returned v ∧ (fun v w' => v = .tuple #[] ∧ ∃ ex ey : dM, aY 2 1 rx.A rx.n rx.c ((xs.map (fun b => eN xs cs (·.nx) b)).map bN) ex ∧ aY 2 1 ry.A ry.n ry.c ((xs.map (fun b => eN xs cs (·.ny) b)).map bN) ey ∧ Mem w (bU [(some bs, bc [.slice A n c, .slice rx.A rx.n rx.c, .slice ry.A ry.n ry.c] 246), rx.e, ry.e]) [(some bs, bc [.slice A n c, .slice rx.A rx.n rx.c, .slice ry.A ry.n ry.c] 246), ex, ey] w') v w') := by
  have hlen : xs.length = n := by simpa using R.len
  have hbd := R.bound
  have hclen : cs.length = mc := by simpa using R'.len
  have hbd' := R'.bound
  refine aJ #[] 16 Tryz.func176 rfl Tryz.results176 Tryz.ntmps176 rfl ?_
  have M0 := hO.mem
  refine aG (aB ?_)
  refine aA (aC (.slice _ _ _) rfl) rfl rfl ?_
  refine aA (cR Tryz.underlying82 rfl) rfl rfl ?_
  refine aA (aC (.int _ _) rfl) rfl rfl ?_
  refine aE (aF (bA ?_))
  refine dJ (σ := Nat × dM × dM) [1, 6, 7] (fun (k, ex, ey) => [(8, .int .i64 (k : Int))]) (fun (k, ex, ey) w' => (k ≤ mc ∧ aY 2 1 rx.A rx.n rx.c ((xs.map (fun b => eN xs (cs.take k) (·.nx) b)).map bN) ex ∧ aY 2 1 ry.A ry.n ry.c ((xs.map (fun b => eN xs (cs.take k) (·.ny) b)).map bN) ey) ∧ Mem w (bU [(some bs, bc [.slice A n c, .slice rx.A rx.n rx.c, .slice ry.A ry.n ry.c] 246), rx.e, ry.e]) [(some bs, bc [.slice A n c, .slice rx.A rx.n rx.c, .slice ry.A ry.n ry.c] 246), ex, ey] w') (fun (k, ex, ey) => mc - k) (0, rx.e, ry.e) (bV rfl eX) (⟨⟨by omega, hrx, hry⟩, M0⟩) ?_
  rintro ⟨k, ex, ey⟩ ρ1 w1 ⟨⟨hk, hqx, hqy⟩, hM1⟩
  refine aG (aB ?_)
  refine aA (aO (.bool (decide _)) rfl rfl rfl) rfl rfl ?_
  refine aE (aF (aG ?_))
  refine aZ rfl (fun h9 => ?_) (fun h9 => ?_)
  · obtain ⟨cn, hcn⟩ := cN (xs := cs) (k := k) hclen (by omega)
    have hkx : ∀ b ∈ xs, -1152921504606846976 ≤ eN xs (cs.take k) (·.nx) b ∧ eN xs (cs.take k) (·.nx) b ≤ 1152921504606846976 := fun b hbm => by have := pI (cs := cs.take k) (g := (·.nx)) hs hb (fun c h => hcs c (List.mem_of_mem_take h)) (fun c h => (hcs c (List.mem_of_mem_take h)).n.x) hbm; have := List.length_take_le k cs; omega
    have hky : ∀ b ∈ xs, -1152921504606846976 ≤ eN xs (cs.take k) (·.ny) b ∧ eN xs (cs.take k) (·.ny) b ≤ 1152921504606846976 := fun b hbm => by have := pI (cs := cs.take k) (g := (·.ny)) hs hb (fun c h => hcs c (List.mem_of_mem_take h)) (fun c h => (hcs c (List.mem_of_mem_take h)).n.y) hbm; have := List.length_take_le k cs; omega
    refine aN (aF (aG (bA (aG (aB ?_)))))
    refine aA (bO (k) aIv rfl rfl rfl ((R'.memY hM1 hdB).below_len (aL bY hcn)) ((R'.memY hM1 hdB).someK (aL bY hcn))) rfl rfl ?_
    refine aA (dK _ fD (R'.memY hM1 hdB) (aL bY hcn) rfl) rfl rfl ?_
    refine aS pE hM1 rfl rfl (fun b2 w2 M2 => ?_)
    refine bJ 3 _ fD M2 rfl rfl rfl rfl rfl (aU rfl) rfl (fun w3 M3 => ?_)
    refine aE (aF (aB ?_))
    refine aA (aC (.func _ _ _) rfl) rfl rfl ?_
    refine aA (bB 3 fD M3 rfl rfl rfl) rfl rfl ?_
    refine aK aTl rfl rfl rfl ?_
    refine (aPv _ bs ⟨rx.A, rx.n, rx.c, ex⟩ ⟨ry.A, ry.n, ry.c, ey⟩ (fun b => eN xs (cs.take k) (·.nx) b) (fun b => eN xs (cs.take k) (·.ny) b) A n c xs (R.memY M3 hdA) hs hb hqx hqy hkx hky cn (hcs cn (List.mem_of_getElem? hcn)) (M3.ownSeg 0 3) (M3.away 0 3 R hdA)).mono ?_
    rintro _ w4 ⟨v4, rfl, ⟨rfl, ex2, ey2, hqx2, hqy2, hM4⟩⟩
    refine ⟨_, rfl, ?_⟩
    have M4 : Mem _ _ [_, _, _, _] _ := M3.seg 0 3 hM4
    refine aE ?_
    refine dL ?_
    refine aF (aB ?_)
    refine aA (bW rfl rfl (by omega) (by omega)) rfl rfl ?_
    refine aA (aC (.int _ _) rfl) rfl rfl ?_
    refine aE ?_
    refine cE (k + 1, ex2, ey2) (bV rfl eX) (cI rfl (cI rfl (cI rfl iO))) ?_ ?_
    · exact ⟨⟨by omega, by rw [← xI hcn]; exact hqx2, by rw [← xI hcn]; exact hqy2⟩, M4.keep [true, true, true, false]⟩
    · (show mc - (k + 1) < mc - k; omega)
  · have hkn : k = mc := by omega
    rw [List.take_of_length_le (by omega)] at hqx hqy
    refine cL ?_
    refine dD ?_
    refine cY ?_
    refine eM ?_
    refine gR ?_
    exact ⟨rfl, ex, ey, hqx, hqy, hM1⟩
end Go.Proofs.YtlmcphcgiclanaaGreatDoor

namespace Go.Proofs.YtlmcphcgiclanaaGreatDoor
open Go.Bil
open Go.RowKit (Below)
open Go.Proofs
theorem Mem.rot3 {w0 w : World} {X : List Nat} {a b c : dM} (M : Mem w0 X [a, b, c] w) : Mem w0 X [c, b, a] w := M.perm (List.reverse_perm [a, b, c]).symm
theorem Mem.rot3' {w0 w : World} {X : List Nat} {a b c : dM} (M : Mem w0 X [a, b, c] w) : Mem w0 X [c, a, b] w := M.perm (List.perm_append_comm (l₁ := [a, b]) (l₂ := [c]))
theorem aQw {xs : List Body} {cs : List Con} {n : Nat} (hs : bM xs) (hb : ∀ b ∈ xs, Okb b) (hcs : ∀ c ∈ cs, OkC xs c) (hn : cs.length = n) (hl : n ≤ 8589934592) {b : Body} (h : b ∈ xs) : (-1152921504606846976 ≤ eN xs cs (·.nx) b ∧ eN xs cs (·.nx) b ≤ 1152921504606846976) ∧ -1152921504606846976 ≤ eN xs cs (·.ny) b ∧ eN xs cs (·.ny) b ≤ 1152921504606846976 := by
  have h1 := pI (cs := cs) (g := (·.nx)) hs hb hcs (fun c h => (hcs c h).n.x) h
  have h2 := pI (cs := cs) (g := (·.ny)) hs hb hcs (fun c h => (hcs c h).n.y) h
  omega
set_option maxHeartbeats 4000000 in
theorem aLl (w : World) (A : Option Addr) (n c : Nat) (xs : List Body) (R : Rd w 10 A n (xs.map aI)) (hs : bM xs) (hb : ∀ b ∈ xs, Okb b) (hn : n ≤ 1048576) (B : Option Addr) (mc c' : Nat) (cs : List Con) (R' : Rd w 5 B mc (cs.map bY)) (hcs : ∀ c ∈ cs, OkC xs c) (hmc : mc ≤ 8589934592) :
    Calls Tryz.prog 138 #[.slice A n c, .slice B mc c'] w (fun ex w' => ∃ v, ex = .returned v ∧ (fun v w' => ∃ rx ry : Row, v = .tuple #[.slice rx.A rx.n rx.c, .slice ry.A ry.n ry.c] ∧ aY 2 1 rx.A rx.n rx.c ((xs.map (fun b => eN xs cs (·.nx) b)).map bN) rx.e ∧ aY 2 1 ry.A ry.n ry.c ((xs.map (fun b => eN xs cs (·.ny) b)).map bN) ry.e ∧ Mem w [] [rx.e, ry.e] w') v w') := by
  have hlen : xs.length = n := by simpa using R.len
  have hbd := R.bound
  have hclen : cs.length = mc := by simpa using R'.len
  have hbd' := R'.bound
  have hz0 : ∀ g : Con → Int, List.replicate n ([.int .i64 0] : List Value) = (xs.map (fun b => eN xs (cs.take 0) g b)).map bN := fun g => by rw [aPc, aFp hlen (0 : Int)]; exact congrArg (List.map bN) (List.map_congr_left (fun b _ => (aHr xs cs g b).symm))
  refine aJ #[.tmp 4, .tmp 5] 28 Tryz.func138 rfl Tryz.results138 Tryz.ntmps138 rfl ?_
  have M0 := Mem.refl w
  refine aG (aB ?_)
  refine aA (aD (.slice _ _ _) rfl) rfl rfl ?_
  refine aA (aD (.slice _ _ _) rfl) rfl rfl ?_
  refine aE (aF (aG ?_))
  refine aMy [(0, 0), (1, 0), (2, 0), (4, 0), (5, 0)] 3 6 [(6, 2), (7, 0), (8, 2), (9, 0)] [(3, 2), (7, 0), (8, 2), (9, 0)] mixed rfl (by kernel_rfl) (fun w1 hb1 hh1 => ?_)
  have M1 := M0.drew hb1 hh1
  refine qF rfl rfl rfl (fun _ => aC (.slice _ _ _) rfl) ?_
  refine qF rfl rfl rfl (fun _ => aC (.slice _ _ _) rfl) ?_
  refine qF rfl rfl rfl (fun _ => cR Tryz.underlying22 rfl) ?_
  refine qF rfl rfl rfl (fun _ => aC (.slice _ _ _) rfl) ?_
  refine qF rfl rfl rfl (fun _ => cR Tryz.underlying22 rfl) ?_
  refine aFk ?_ ?_
  · refine eD [] rfl (by kernel_rfl) ?_
    refine fU (n) [.int .i64 0] jZ uM rfl M1 rfl rfl rfl rfl rfl rfl (by omega) (by omega) (fun b2 w2 M2 => ?_)
    have hL10 := gW (T := 2) (sz := 1) (b := b2) (nn := n) (List.replicate n [.int .i64 0]) (fun l hl => by rw [List.eq_of_mem_replicate hl]; rfl) (by simp) (by omega)
    rw [hz0 (·.nx)] at hL10
    rw [hz0 (·.nx)] at M2
    refine aE (aF ⟨eF, ?_⟩)
    refine eD [] rfl (by kernel_rfl) ?_
    refine fU (n) [.int .i64 0] jZ uM rfl M2 rfl rfl rfl rfl rfl rfl (by omega) (by omega) (fun b3 w3 M3 => ?_)
    have hL13 := gW (T := 2) (sz := 1) (b := b3) (nn := n) (List.replicate n [.int .i64 0]) (fun l hl => by rw [List.eq_of_mem_replicate hl]; rfl) (by simp) (by omega)
    rw [hz0 (·.ny)] at hL13
    rw [hz0 (·.ny)] at M3
    refine aE (aF ⟨eF, ?_⟩)
    refine aX rfl rfl rfl (fun _ => cB [(0, .slice _ _ _), (1, .slice _ _ _), (2, .slice _ _ _)] _ wU rfl rfl) ?_
    refine eD [] rfl (by kernel_rfl) ?_
    refine bK (.agg (List.toArray _)) M3 rfl rfl rfl (fun b4 w4 M4 => ?_)
    refine aE (aF ⟨eF, ?_⟩)
    refine aX rfl rfl rfl (fun _ => aD (.pointer _) rfl) ?_
    refine cF ?_
    refine aF (aG (aB ?_))
    refine aA (aC (.slice _ _ _) rfl) rfl rfl ?_
    refine aA (aC (.pointer _) rfl) rfl rfl ?_
    refine aA (dC [.pointer _] [] rfl rfl) rfl rfl ?_
    have M5 : Mem _ _ [_, _, _] _ := Mem.rot3' M4
    refine aK aMj rfl rfl rfl ?_
    refine (aBc _ b4 ⟨some ⟨b2, 0, none⟩, n, n, (some b2, bc ((xs.map (fun b => eN xs (cs.take 0) (·.nx) b)).map bN).flatten 2)⟩ ⟨some ⟨b3, 0, none⟩, n, n, (some b3, bc ((xs.map (fun b => eN xs (cs.take 0) (·.ny) b)).map bN).flatten 2)⟩ A n c xs (R.mem M5) hs hb B mc c' cs (R'.mem M5) hcs hmc hL10 hL13 (M5.ownSeg 0 3) (M5.away 0 3 R (by simp)) (M5.away 0 3 R' (by simp))).mono ?_
    rintro _ w6 ⟨v6, rfl, ⟨rfl, ex, ey, hqx, hqy, hM6⟩⟩
    refine ⟨_, rfl, ?_⟩
    have M6 : Mem _ _ [_, _, _] _ := M5.seg 0 3 hM6
    refine aE (aF (aG ?_))
    refine bZ [(0, 0), (1, 0), (2, 0), (3, 1), (4, 0), (5, 0), (6, 0), (7, 1), (8, 0), (9, 0)] mixed rfl (by kernel_rfl) (fun w7 hb7 hh7 => ?_)
    have M7 := M6.drew hb7 hh7
    refine aX rfl rfl rfl (fun _ => aC (.pointer _) rfl) ?_
    refine aX rfl rfl rfl (fun _ => aV rfl) ?_
    refine aX rfl rfl rfl (fun _ => aH 1 kX rfl) ?_
    refine cC rfl rfl rfl (aW 0 (.slice _ _ _) iR M7 rfl rfl rfl) ?_
    refine aX rfl rfl rfl (fun _ => aC (.pointer _) rfl) ?_
    refine aX rfl rfl rfl (fun _ => aV rfl) ?_
    refine aX rfl rfl rfl (fun _ => aH 2 kZ rfl) ?_
    refine cC rfl rfl rfl (aW 0 (.slice _ _ _) iR M7 rfl rfl rfl) ?_
    refine aX rfl rfl rfl (fun _ => aD (.slice _ _ _) rfl) ?_
    refine aX rfl rfl rfl (fun _ => aD (.slice _ _ _) rfl) ?_
    refine cF ?_
    refine aF (aR ?_)
    refine fI (.slice _ _ _) (.slice _ _ _) rfl rfl ?_
    exact ⟨⟨(some ⟨b2, 0, none⟩), n, n, ex⟩, ⟨(some ⟨b3, 0, none⟩), n, n, ey⟩, rfl, hqx, hqy, M7.keep [false, true, true]⟩
  · refine eD [] rfl (by kernel_rfl) ?_
    refine fU (n) [.int .i64 0] jZ uM rfl M1 rfl rfl rfl rfl rfl rfl (by omega) (by omega) (fun b8 w8 M8 => ?_)
    have hL13 := gW (T := 2) (sz := 1) (b := b8) (nn := n) (List.replicate n [.int .i64 0]) (fun l hl => by rw [List.eq_of_mem_replicate hl]; rfl) (by simp) (by omega)
    rw [hz0 (·.ny)] at hL13
    rw [hz0 (·.ny)] at M8
    refine aE (aF ⟨eF, ?_⟩)
    refine eD [] rfl (by kernel_rfl) ?_
    refine fU (n) [.int .i64 0] jZ uM rfl M8 rfl rfl rfl rfl rfl rfl (by omega) (by omega) (fun b9 w9 M9 => ?_)
    have hL10 := gW (T := 2) (sz := 1) (b := b9) (nn := n) (List.replicate n [.int .i64 0]) (fun l hl => by rw [List.eq_of_mem_replicate hl]; rfl) (by simp) (by omega)
    rw [hz0 (·.nx)] at hL10
    rw [hz0 (·.nx)] at M9
    refine aE (aF ⟨eF, ?_⟩)
    refine aX rfl rfl rfl (fun _ => cB [(0, .slice _ _ _), (1, .slice _ _ _), (2, .slice _ _ _)] _ wU rfl rfl) ?_
    refine eD [] rfl (by kernel_rfl) ?_
    refine bK (.agg (List.toArray _)) M9 rfl rfl rfl (fun b10 w10 M10 => ?_)
    refine aE (aF ⟨eF, ?_⟩)
    refine aX rfl rfl rfl (fun _ => aD (.pointer _) rfl) ?_
    refine cF ?_
    refine aF (aG (aB ?_))
    refine aA (aC (.slice _ _ _) rfl) rfl rfl ?_
    refine aA (aC (.pointer _) rfl) rfl rfl ?_
    refine aA (dC [.pointer _] [] rfl rfl) rfl rfl ?_
    have M11 : Mem _ _ [_, _, _] _ := Mem.rot3 M10
    refine aK aMj rfl rfl rfl ?_
    refine (aBc _ b10 ⟨some ⟨b9, 0, none⟩, n, n, (some b9, bc ((xs.map (fun b => eN xs (cs.take 0) (·.nx) b)).map bN).flatten 2)⟩ ⟨some ⟨b8, 0, none⟩, n, n, (some b8, bc ((xs.map (fun b => eN xs (cs.take 0) (·.ny) b)).map bN).flatten 2)⟩ A n c xs (R.mem M11) hs hb B mc c' cs (R'.mem M11) hcs hmc hL10 hL13 (M11.ownSeg 0 3) (M11.away 0 3 R (by simp)) (M11.away 0 3 R' (by simp))).mono ?_
    rintro _ w12 ⟨v12, rfl, ⟨rfl, ex, ey, hqx, hqy, hM12⟩⟩
    refine ⟨_, rfl, ?_⟩
    have M12 : Mem _ _ [_, _, _] _ := M11.seg 0 3 hM12
    refine aE (aF (aG ?_))
    refine bZ [(0, 0), (1, 0), (2, 0), (3, 1), (4, 0), (5, 0), (6, 0), (7, 1), (8, 0), (9, 0)] mixed rfl (by kernel_rfl) (fun w13 hb13 hh13 => ?_)
    have M13 := M12.drew hb13 hh13
    refine aX rfl rfl rfl (fun _ => aC (.pointer _) rfl) ?_
    refine aX rfl rfl rfl (fun _ => aV rfl) ?_
    refine aX rfl rfl rfl (fun _ => aH 1 kX rfl) ?_
    refine cC rfl rfl rfl (aW 0 (.slice _ _ _) iR M13 rfl rfl rfl) ?_
    refine aX rfl rfl rfl (fun _ => aC (.pointer _) rfl) ?_
    refine aX rfl rfl rfl (fun _ => aV rfl) ?_
    refine aX rfl rfl rfl (fun _ => aH 2 kZ rfl) ?_
    refine cC rfl rfl rfl (aW 0 (.slice _ _ _) iR M13 rfl rfl rfl) ?_
    refine aX rfl rfl rfl (fun _ => aD (.slice _ _ _) rfl) ?_
    refine aX rfl rfl rfl (fun _ => aD (.slice _ _ _) rfl) ?_
    refine cF ?_
    refine aF (aR ?_)
    refine fI (.slice _ _ _) (.slice _ _ _) rfl rfl ?_
    exact ⟨⟨(some ⟨b9, 0, none⟩), n, n, ex⟩, ⟨(some ⟨b8, 0, none⟩), n, n, ey⟩, rfl, hqx, hqy, M13.keep [false, true, true]⟩
end Go.Proofs.YtlmcphcgiclanaaGreatDoor

namespace Go.Proofs.YtlmcphcgiclanaaGreatDoor
open Go.Bil
open Go.RowKit (Below)
open Go.Proofs
set_option maxHeartbeats 8000000 in
theorem aHj (w : World) (A : Option Addr) (n c : Nat) (xs : List Body) (R : Rd w 10 A n (xs.map aI)) (hs : bM xs) (hb : ∀ b ∈ xs, Okb b) (hn : n ≤ 1048576) (B : Option Addr) (mc c' : Nat) (cs : List Con) (R' : Rd w 5 B mc (cs.map bY)) (hcs : ∀ c ∈ cs, OkC xs c) (hmc : mc ≤ 8589934592) :
    Calls Tryz.prog 108 #[.slice A n c, .slice B mc c'] w (fun ex w' => ∃ v, ex = .returned v ∧ (fun v w' => ∃ r : Row, v = .tuple #[.slice r.A r.n r.c, .bool (aLf xs cs)] ∧ aY 40 10 r.A r.n r.c ((xT xs cs).map aI) r.e ∧ Mem w [] [r.e] w') v w') := by
  have hlen : xs.length = n := by simpa using R.len
  have hbd := R.bound
  have hclen : cs.length = mc := by simpa using R'.len
  have hbd' := R'.bound
  refine aJ #[.tmp 4, .tmp 5] 75 Tryz.func108 rfl Tryz.results108 Tryz.ntmps108 rfl ?_
  have M0 := Mem.refl w
  refine aG (aB ?_)
  refine aA (aD (.slice _ _ _) rfl) rfl rfl ?_
  refine aA (aD (.bool false) rfl) rfl rfl ?_
  refine aE (aF (aG (aB ?_)))
  refine aA (aC (.slice _ _ _) rfl) rfl rfl ?_
  refine aA (aC (.slice _ _ _) rfl) rfl rfl ?_
  refine aK aUx rfl rfl rfl ?_
  refine (aLl _ A n c xs (R.mem M0) hs hb hn B mc c' cs (R'.mem M0) hcs hmc).mono ?_
  rintro _ w1 ⟨v1, rfl, ⟨rx, ry, rfl, hrx, hry, hM1⟩⟩
  refine ⟨_, rfl, ?_⟩
  have M1 : Mem _ _ [_, _] _ := M0.call0 hM1
  have hrxn : xs.length = rx.n := by simpa using hrx.1
  have hryn : xs.length = ry.n := by simpa using hry.1
  refine aA (aC (.tuple (List.toArray _)) rfl) rfl rfl ?_
  refine aA (bC (.slice _ _ _) rfl rfl) rfl rfl ?_
  refine aA (bC (.slice _ _ _) rfl rfl) rfl rfl ?_
  refine aA (aD (.slice _ _ _) rfl) rfl rfl ?_
  refine aA (aD (.slice _ _ _) rfl) rfl rfl ?_
  refine aE (aF (aG (aB ?_)))
  refine aA (aD (.bool false) rfl) rfl rfl ?_
  refine aE (aF (aG (aB ?_)))
  refine aA (aD (.slice _ _ _) rfl) rfl rfl ?_
  have M2 := M1.dummy default
  refine aE (aF (aG (aG (aB ?_))))
  refine aA (aC (.slice _ _ _) rfl) rfl rfl ?_
  refine aA (cR Tryz.underlying22 rfl) rfl rfl ?_
  refine aA (aC (.int _ _) rfl) rfl rfl ?_
  refine aE (aF (bA ?_))
  refine dJ (σ := Nat × Row) [4, 5, 6, 7, 22, 23] (fun (k, q) => [(8, .bool ((xs.take k).any (aOz xs cs))), (9, .slice q.A q.n q.c), (24, .int .i64 (k : Int))]) (fun (k, q) w' => (k ≤ n ∧ aY 40 10 q.A q.n q.c (((xs.take k).map (aAu xs cs)).map aI) q.e) ∧ Mem w [] [rx.e, ry.e, q.e] w') (fun (k, q) => n - k) (0, gJ) (bV (bv rfl rfl) (bV rfl (bV rfl eX))) (⟨⟨by omega, aY.nil _ _ _⟩, M2⟩) ?_
  rintro ⟨k, q⟩ ρ3 w3 ⟨⟨hk, hq⟩, hM3⟩
  have htl := List.length_take_le k xs
  have hqn : (xs.take k).length = q.n := by simpa using hq.1
  refine aG (aB ?_)
  refine aA (aO (.bool (decide _)) rfl rfl rfl) rfl rfl ?_
  refine aE (aF (aG ?_))
  refine aZ rfl (fun h25 => ?_) (fun h25 => ?_)
  · obtain ⟨xb, hxb⟩ := cN (xs := xs) (k := k) hlen (by omega)
    have hxm := List.mem_of_getElem? hxb
    have hsb := aQw hs hb hcs hclen hmc hxm
    have hvb := (hb xb hxm).v
    have hlx := eP (xb.vx + eN xs cs (·.nx) xb) (l := 16777216) (by decide)
    have hly := eP (xb.vy + eN xs cs (·.ny) xb) (l := 16777216) (by decide)
    refine aN (aF (aG (bA (aG (aB ?_)))))
    refine aA (aC (.int _ _) rfl) rfl rfl ?_
    refine aA (bO (k) dG rfl rfl rfl ((R.mem hM3).below_len (aL aI hxb)) ((R.mem hM3).someK (aL aI hxb))) rfl rfl ?_
    refine aA (dK _ bX (R.mem hM3) (aL aI hxb) rfl) rfl rfl ?_
    refine aS lU hM3 rfl rfl (fun b4 w4 M4 => ?_)
    refine aA (aD (.int _ _) rfl) rfl rfl ?_
    refine bJ 3 _ bX M4 rfl rfl rfl rfl rfl (aU rfl) rfl (fun w5 M5 => ?_)
    refine aE (aF (aG ?_))
    refine bZ [(0, 0), (1, 0), (2, 1), (3, 0), (4, 0), (5, 0), (6, 1), (7, 1), (8, 0), (9, 2), (10, 0), (11, 0), (12, 0), (13, 0), (14, 0)] mixed rfl (by kernel_rfl) (fun w6 hb6 hh6 => ?_)
    have M6 := M5.drew hb6 hh6
    refine aX rfl rfl rfl (fun _ => aH 8 eO rfl) ?_
    refine aX rfl rfl rfl (fun _ => aH 0 dQ rfl) ?_
    refine cC rfl rfl rfl (aW 3 (.int _ _) bH M6 rfl rfl rfl) ?_
    refine aX rfl rfl rfl (fun _ => bQ fT Tryz.underlying2 rfl (jT _ (by omega) (by omega))) ?_
    refine aX rfl rfl rfl (fun _ => aC (.slice _ _ _) rfl) ?_
    refine aX rfl rfl rfl (fun _ => aC (.int _ _) rfl) ?_
    refine cC rfl rfl rfl (bO (k) jZ rfl rfl rfl ((hrx.rd M6 (aP (i := 0) rfl)).below_len (aL bN (aL _ hxb))) ((hrx.rd M6 (aP (i := 0) rfl)).someK (aL bN (aL _ hxb)))) ?_
    refine cC rfl rfl rfl (jM (.int _ _) jL (hrx.rd M6 (aP (i := 0) rfl)) (aL bN (aL _ hxb)) rfl) ?_
    refine aX rfl rfl rfl (fun _ => bW rfl rfl (by omega) (by omega)) ?_
    refine eD [true, true, true] rfl (by kernel_rfl) ?_
    refine aK aDa rfl rfl rfl ?_
    refine (uC _ (xb.vx + eN xs cs (·.nx) xb) 16777216 ⟨by decide, by decide⟩).mono ?_
    rintro _ w7 ⟨v7, rfl, ⟨rfl, hb7⟩⟩
    refine ⟨_, rfl, ?_⟩
    have M7 := M6.callB hb7
    refine aE (aF ⟨eF, ?_⟩)
    refine aX rfl rfl rfl (fun _ => aC (.tuple (List.toArray _)) rfl) ?_
    refine aX rfl rfl rfl (fun _ => bC (.int _ _) rfl rfl) ?_
    refine aX rfl rfl rfl (fun _ => bC (.bool (decide _)) rfl rfl) ?_
    refine aX rfl rfl rfl (fun _ => aD (.int _ _) rfl) ?_
    refine aX rfl rfl rfl (fun _ => aD (.bool (decide _)) rfl) ?_
    refine cF ?_
    refine aF (aG ?_)
    refine bZ [(0, 0), (1, 0), (2, 1), (3, 0), (4, 0), (5, 0), (6, 1), (7, 1), (8, 0), (9, 2), (10, 0), (11, 0), (12, 0), (13, 0), (14, 0)] mixed rfl (by kernel_rfl) (fun w8 hb8 hh8 => ?_)
    have M8 := M7.drew hb8 hh8
    refine aX rfl rfl rfl (fun _ => aH 8 eO rfl) ?_
    refine aX rfl rfl rfl (fun _ => aH 1 dI rfl) ?_
    refine cC rfl rfl rfl (aW 3 (.int _ _) bH M8 rfl rfl rfl) ?_
    refine aX rfl rfl rfl (fun _ => bQ fT Tryz.underlying2 rfl (jT _ (by omega) (by omega))) ?_
    refine aX rfl rfl rfl (fun _ => aC (.slice _ _ _) rfl) ?_
    refine aX rfl rfl rfl (fun _ => aC (.int _ _) rfl) ?_
    refine cC rfl rfl rfl (bO (k) jZ rfl rfl rfl ((hry.rd M8 (aP (i := 1) rfl)).below_len (aL bN (aL _ hxb))) ((hry.rd M8 (aP (i := 1) rfl)).someK (aL bN (aL _ hxb)))) ?_
    refine cC rfl rfl rfl (jM (.int _ _) jL (hry.rd M8 (aP (i := 1) rfl)) (aL bN (aL _ hxb)) rfl) ?_
    refine aX rfl rfl rfl (fun _ => bW rfl rfl (by omega) (by omega)) ?_
    refine eD [true, true, true] rfl (by kernel_rfl) ?_
    refine aK aDa rfl rfl rfl ?_
    refine (uC _ (xb.vy + eN xs cs (·.ny) xb) 16777216 ⟨by decide, by decide⟩).mono ?_
    rintro _ w9 ⟨v9, rfl, ⟨rfl, hb9⟩⟩
    refine ⟨_, rfl, ?_⟩
    have M9 := M8.callB hb9
    refine aE (aF ⟨eF, ?_⟩)
    refine aX rfl rfl rfl (fun _ => aC (.tuple (List.toArray _)) rfl) ?_
    refine aX rfl rfl rfl (fun _ => bC (.int _ _) rfl rfl) ?_
    refine aX rfl rfl rfl (fun _ => bC (.bool (decide _)) rfl rfl) ?_
    refine aX rfl rfl rfl (fun _ => aD (.int _ _) rfl) ?_
    refine aX rfl rfl rfl (fun _ => aD (.bool (decide _)) rfl) ?_
    refine cF ?_
    refine aF (aG (aB ?_))
    refine aA (aC (.int _ _) rfl) rfl rfl ?_
    refine aA (bQ us2 Tryz.underlying21 rfl (jX _ (by omega) (by omega))) rfl rfl ?_
    refine aA (aC (.int _ _) rfl) rfl rfl ?_
    refine aA (bQ us2 Tryz.underlying21 rfl (jX _ (by omega) (by omega))) rfl rfl ?_
    refine aA (cB [(0, .int _ _), (1, .int _ _)] _ dZ rfl rfl) rfl rfl ?_
    refine aA (aH 8 eO rfl) rfl rfl ?_
    refine yX 3 _ bI M9 rfl rfl rfl rfl rfl (aU rfl) (Nat.le_of_ble_eq_true rfl) (fun w10 M10 => ?_)
    refine aE (aF (aG (aB ?_)))
    refine aA (aC (.bool _) rfl) rfl rfl ?_
    refine aA (aC (.bool _) rfl) rfl rfl ?_
    refine iL 62 _ rfl (fun g62 => ?_) (fun g62 => ?_)
    · refine aT rfl rfl ?_
      refine aA (bL true (.bool true) rfl rfl) rfl rfl ?_
      refine aA (aC (.bool true) rfl) rfl rfl ?_
      refine aT rfl rfl ?_
      refine aA (bL true (.bool true) rfl rfl) rfl rfl ?_
      refine aA (aD (.bool true) rfl) rfl rfl ?_
      refine aE (aF (aB ?_))
      refine aA (aC (.slice _ _ _) rfl) rfl rfl ?_
      refine aA (bB 3 bX M10 rfl rfl rfl) rfl rfl ?_
      refine cM [.agg (List.toArray _)] [aI (aAu xs cs xb)] rfl dG M10 rfl rfl rfl rfl (cW rfl) (by decide) (fun b11 w11 M11 => ?_)
      refine dO 2 [aI (aAu xs cs xb)] dG M11 rfl rfl rfl rfl rfl hq rfl (by simp [aI, Go.Bil.one]) (cO.ofMem 4 M11 rfl) (by omega) (fun A12 c12 e12 w12 M12 hR12 => ?_)
      refine aA (aD (.slice _ _ _) rfl) rfl rfl ?_
      refine aE ?_
      refine dL ?_
      refine aF (aB ?_)
      refine aA (bW rfl rfl (by omega) (by omega)) rfl rfl ?_
      refine aA (aC (.int _ _) rfl) rfl rfl ?_
      refine aE ?_
      refine cE (k + 1, ⟨A12, q.n + 1, c12, e12⟩) (bV (bv rfl (by rw [cK hxb, List.any_append, List.any_cons, List.any_nil, Bool.or_false]; rw [g62, Bool.true_or])) (bV rfl (bV rfl eX))) (cI rfl (cI rfl (cI rfl (cI rfl (cI rfl (cI rfl iO)))))) ?_ ?_
      · exact ⟨⟨by omega, by rw [cK hxb, List.map_append, List.map_append]; exact hR12⟩, M12.keep [true, true, true, false, false]⟩
      · (show n - (k + 1) < n - k; omega)
    · refine aA (aC (.bool (decide _)) rfl) rfl rfl ?_
      refine aA (bL false (.bool (decide _)) rfl rfl) rfl rfl ?_
      refine aA (aC (.bool (decide _)) rfl) rfl rfl ?_
      refine dN 65 rfl (fun g65 => ?_) (fun g65 => ?_)
      · refine aT rfl rfl ?_
        refine aA (bL true (.bool true) rfl rfl) rfl rfl ?_
        refine aA (aD (.bool true) rfl) rfl rfl ?_
        refine aE (aF (aB ?_))
        refine aA (aC (.slice _ _ _) rfl) rfl rfl ?_
        refine aA (bB 3 bX M10 rfl rfl rfl) rfl rfl ?_
        refine cM [.agg (List.toArray _)] [aI (aAu xs cs xb)] rfl dG M10 rfl rfl rfl rfl (cW rfl) (by decide) (fun b13 w13 M13 => ?_)
        refine dO 2 [aI (aAu xs cs xb)] dG M13 rfl rfl rfl rfl rfl hq rfl (by simp [aI, Go.Bil.one]) (cO.ofMem 4 M13 rfl) (by omega) (fun A14 c14 e14 w14 M14 hR14 => ?_)
        refine aA (aD (.slice _ _ _) rfl) rfl rfl ?_
        refine aE ?_
        refine dL ?_
        refine aF (aB ?_)
        refine aA (bW rfl rfl (by omega) (by omega)) rfl rfl ?_
        refine aA (aC (.int _ _) rfl) rfl rfl ?_
        refine aE ?_
        refine cE (k + 1, ⟨A14, q.n + 1, c14, e14⟩) (bV (bv rfl (by rw [cK hxb, List.any_append, List.any_cons, List.any_nil, Bool.or_false]; rw [g62]; simp [aOz, g65])) (bV rfl (bV rfl eX))) (cI rfl (cI rfl (cI rfl (cI rfl (cI rfl (cI rfl iO)))))) ?_ ?_
        · exact ⟨⟨by omega, by rw [cK hxb, List.map_append, List.map_append]; exact hR14⟩, M14.keep [true, true, true, false, false]⟩
        · (show n - (k + 1) < n - k; omega)
      · refine aA (aC (.bool (decide _)) rfl) rfl rfl ?_
        refine aA (bL false (.bool (decide _)) rfl rfl) rfl rfl ?_
        refine aA (aD (.bool (decide _)) rfl) rfl rfl ?_
        refine aE (aF (aB ?_))
        refine aA (aC (.slice _ _ _) rfl) rfl rfl ?_
        refine aA (bB 3 bX M10 rfl rfl rfl) rfl rfl ?_
        refine cM [.agg (List.toArray _)] [aI (aAu xs cs xb)] rfl dG M10 rfl rfl rfl rfl (cW rfl) (by decide) (fun b15 w15 M15 => ?_)
        refine dO 2 [aI (aAu xs cs xb)] dG M15 rfl rfl rfl rfl rfl hq rfl (by simp [aI, Go.Bil.one]) (cO.ofMem 4 M15 rfl) (by omega) (fun A16 c16 e16 w16 M16 hR16 => ?_)
        refine aA (aD (.slice _ _ _) rfl) rfl rfl ?_
        refine aE ?_
        refine dL ?_
        refine aF (aB ?_)
        refine aA (bW rfl rfl (by omega) (by omega)) rfl rfl ?_
        refine aA (aC (.int _ _) rfl) rfl rfl ?_
        refine aE ?_
        refine cE (k + 1, ⟨A16, q.n + 1, c16, e16⟩) (bV (bv rfl (by rw [cK hxb, List.any_append, List.any_cons, List.any_nil, Bool.or_false]; rw [g62]; simp [aOz, g65])) (bV rfl (bV rfl eX))) (cI rfl (cI rfl (cI rfl (cI rfl (cI rfl (cI rfl iO)))))) ?_ ?_
        · exact ⟨⟨by omega, by rw [cK hxb, List.map_append, List.map_append]; exact hR16⟩, M16.keep [true, true, true, false, false]⟩
        · (show n - (k + 1) < n - k; omega)
  · have hkn : k = n := by omega
    rw [List.take_of_length_le (by omega)] at hq
    refine cL ?_
    refine dD ?_
    refine cY ?_
    refine eM ?_
    refine aF (aG (aB ?_))
    refine aA (aC (.slice _ _ _) rfl) rfl rfl ?_
    refine aA (aC (.bool _) rfl) rfl rfl ?_
    refine aA (aD (.slice _ _ _) rfl) rfl rfl ?_
    refine aA (aD (.bool _) rfl) rfl rfl ?_
    refine aE (aF (aR ?_))
    refine fI (.slice _ _ _) (.bool _) rfl rfl ?_
    exact ⟨q, rV rfl (congrArg Value.bool (by rw [List.take_of_length_le (by omega)]; rfl)), hq, hM3.keep [false, false, true]⟩
set_option maxHeartbeats 4000000 in
theorem aJa (w : World) (A : Option Addr) (n c : Nat) (xs : List Body) (R : Rd w 10 A n (xs.map aI)) (hs : bM xs) (hb : ∀ b ∈ xs, Okb b) (hn : n ≤ 1048576) (B : Option Addr) (mc c' : Nat) (cs : List Con) (R' : Rd w 5 B mc (cs.map bY)) (hcs : ∀ c ∈ cs, OkC xs c) (hmc : mc ≤ 8589934592) :
    Calls Tryz.prog 73 #[.slice A n c, .slice B mc c'] w (fun ex w' => ∃ v, ex = .returned v ∧ (fun v w' => ∃ r : Row, v = .tuple #[.slice r.A r.n r.c, .bool (fP xs cs 4).2] ∧ aY 40 10 r.A r.n r.c (((fP xs cs 4).1).map aI) r.e ∧ Mem w [] [r.e] w') v w') := by
  have hlen : xs.length = n := by simpa using R.len
  have hbd := R.bound
  have hclen : cs.length = mc := by simpa using R'.len
  have hbd' := R'.bound
  refine aJ #[.tmp 4, .tmp 5] 25 Tryz.func73 rfl Tryz.results73 Tryz.ntmps73 rfl ?_
  have M0 := Mem.refl w
  refine aG (aB ?_)
  refine aA (aD (.slice _ _ _) rfl) rfl rfl ?_
  refine aA (aD (.bool false) rfl) rfl rfl ?_
  refine aE (aF (aG (aB ?_)))
  refine aA (aD (.bool false) rfl) rfl rfl ?_
  have M1 := M0.dummy default
  refine aE (aF (aG (aG (aB ?_))))
  refine aA (aC (.int _ _) rfl) rfl rfl ?_
  refine aE (aF (bA ?_))
  refine dJ (σ := Nat × Row) [1, 4, 5] (fun (k, q) => [(0, .slice q.A q.n q.c), (6, .bool (fP xs cs k).2), (9, .int .i64 (k : Int))]) (fun (k, q) w' => (k ≤ 4 ∧ Rd w' 10 q.A q.n ((fP xs cs k).1.map aI) ∧ (0 < k → aY 40 10 q.A q.n q.c (((fP xs cs k).1).map aI) q.e)) ∧ Mem w [] [q.e] w') (fun (k, q) => 4 - k) (0, ⟨A, n, c, (none, default)⟩) (bV rfl (bV (bv rfl rfl) (bV rfl eX))) (⟨⟨by omega, R.mem M1, (fun h => absurd h (by omega))⟩, M1⟩) ?_
  rintro ⟨k, q⟩ ρ2 w2 ⟨⟨hk, hRq, hq⟩, hM2⟩
  have hql : (fP xs cs k).1.length = q.n := by simpa using hRq.len
  have hsl := (iB xs cs k).len
  refine aG (aB ?_)
  refine aA (aO (.bool (decide _)) rfl rfl rfl) rfl rfl ?_
  refine aE (aF (aG ?_))
  refine aZ rfl (fun h10 => ?_) (fun h10 => ?_)
  · refine aN (aF (aG (bA (aG (aB ?_)))))
    refine aA (aC (.slice _ _ _) rfl) rfl rfl ?_
    refine aA (aC (.slice _ _ _) rfl) rfl rfl ?_
    refine aK aVl rfl rfl rfl ?_
    refine (aHj _ q.A q.n q.c (fP xs cs k).1 hRq ((iB xs cs k).sorted hs) (oX hb k) (by omega) B mc c' cs (R'.mem hM2) (fun c h => (iB xs cs k).okc (hcs c h)) hmc).mono ?_
    rintro _ w3 ⟨v3, rfl, ⟨r, rfl, hr, hM3⟩⟩
    refine ⟨_, rfl, ?_⟩
    have M3 : Mem _ _ [_, _] _ := hM2.call0 hM3
    refine aA (aC (.tuple (List.toArray _)) rfl) rfl rfl ?_
    refine aA (bC (.slice _ _ _) rfl rfl) rfl rfl ?_
    refine aA (bC (.bool _) rfl rfl) rfl rfl ?_
    refine aA (aD (.slice _ _ _) rfl) rfl rfl ?_
    refine aA (aD (.bool _) rfl) rfl rfl ?_
    refine aE (aF (aB ?_))
    refine aA (aC (.slice _ _ _) rfl) rfl rfl ?_
    refine aA (aC (.bool _) rfl) rfl rfl ?_
    refine aA (aC (.bool _) rfl) rfl rfl ?_
    refine iL 19 _ rfl (fun g19 => ?_) (fun g19 => ?_)
    · refine aT rfl rfl ?_
      refine aA (bL true (.bool true) rfl rfl) rfl rfl ?_
      refine aA (aD (.slice _ _ _) rfl) rfl rfl ?_
      refine aA (aD (.bool true) rfl) rfl rfl ?_
      refine aE ?_
      refine dL ?_
      refine aF (aB ?_)
      refine aA (bW rfl rfl (by omega) (by omega)) rfl rfl ?_
      refine aA (aC (.int _ _) rfl) rfl rfl ?_
      refine aE ?_
      refine cE (k + 1, r) (bV rfl (bV (bv rfl (by show true = (_ || _); rw [g19, Bool.true_or])) (bV rfl eX))) (cI rfl (cI rfl (cI rfl iO))) ?_ ?_
      · exact ⟨⟨by omega, hr.rd M3 (aP (i := 1) rfl), (fun _ => hr)⟩, M3.keep [false, true]⟩
      · (show 4 - (k + 1) < 4 - k; omega)
    · refine aA (aC (.bool _) rfl) rfl rfl ?_
      refine aA (bL false (.bool _) rfl rfl) rfl rfl ?_
      refine aA (aD (.slice _ _ _) rfl) rfl rfl ?_
      refine aA (aD (.bool _) rfl) rfl rfl ?_
      refine aE ?_
      refine dL ?_
      refine aF (aB ?_)
      refine aA (bW rfl rfl (by omega) (by omega)) rfl rfl ?_
      refine aA (aC (.int _ _) rfl) rfl rfl ?_
      refine aE ?_
      refine cE (k + 1, r) (bV rfl (bV (bv rfl (by show _ = (_ || _); rw [g19, Bool.false_or])) (bV rfl eX))) (cI rfl (cI rfl (cI rfl iO))) ?_ ?_
      · exact ⟨⟨by omega, hr.rd M3 (aP (i := 1) rfl), (fun _ => hr)⟩, M3.keep [false, true]⟩
      · (show 4 - (k + 1) < 4 - k; omega)
  · have hk4 : k = 4 := by omega
    rw [hk4] at hq
    refine cL ?_
    refine dD ?_
    refine cY ?_
    refine eM ?_
    refine aF (aG (aB ?_))
    refine aA (aC (.slice _ _ _) rfl) rfl rfl ?_
    refine aA (aC (.bool _) rfl) rfl rfl ?_
    refine aA (aD (.slice _ _ _) rfl) rfl rfl ?_
    refine aA (aD (.bool _) rfl) rfl rfl ?_
    refine aE (aF (aR ?_))
    refine fI (.slice _ _ _) (.bool _) rfl rfl ?_
    exact ⟨q, rV rfl (congrArg Value.bool (by rw [hk4])), hq (by omega), hM2⟩
end Go.Proofs.YtlmcphcgiclanaaGreatDoor

namespace Go.Proofs.YtlmcphcgiclanaaGreatDoor
open Go.Bil
open Go.RowKit (Below)
open Go.Proofs
set_option maxHeartbeats 4000000 in
theorem tZ (w : World) (c : Con) (a b : Body) (hc : Okn c) (ha : Okb a) (hb : Okb b) :
    Calls Tryz.prog 142 #[.agg (bY c).toArray, (.agg (aI a).toArray), (.agg (aI b).toArray)] w (fun ex w' => ∃ v, ex = .returned v ∧ (fun v w' => v = .int .i64 (mH c a b) ∧ Below w.heap.size w w') v w') := by
  have hdp := hc.d
  have hm1 := ha.m
  have hm2 := hb.m
  refine aJ #[.tmp 6] 27 Tryz.func142 rfl Tryz.results142 Tryz.ntmps142 rfl ?_
  have M0 := Mem.refl w
  refine aG (aB ?_)
  refine bK (.agg (List.toArray _)) M0 rfl rfl rfl (fun b1 w1 M1 => ?_)
  refine bK (.agg (List.toArray _)) M1 rfl rfl rfl (fun b2 w2 M2 => ?_)
  refine bK (.agg (List.toArray _)) M2 rfl rfl rfl (fun b3 w3 M3 => ?_)
  refine aA (aD (.int _ _) rfl) rfl rfl ?_
  refine aE (aF (aG (aB ?_)))
  refine aA (aH 4 aLx rfl) rfl rfl ?_
  refine aA (aW 0 (.int _ _) bH M3 rfl rfl rfl) rfl rfl ?_
  refine aA (bQ fT Tryz.underlying2 rfl (jT _ (by omega) (by omega))) rfl rfl ?_
  refine aA (mY rfl rfl (by omega) (by omega)) rfl rfl ?_
  refine aA (aD (.int _ _) rfl) rfl rfl ?_
  refine aE (aF (aG (aG (aB ?_))))
  refine aA (aC (.int _ _) rfl) rfl rfl ?_
  refine aA (aO (.bool (decide _)) rfl rfl rfl) rfl rfl ?_
  refine aA (aC (.bool (decide _)) rfl) rfl rfl ?_
  refine dN 14 rfl (fun g14 => ?_) (fun g14 => ?_)
  · refine aT rfl rfl ?_
    refine aT rfl rfl ?_
    refine aT rfl rfl ?_
    refine aT rfl rfl ?_
    refine aT rfl rfl ?_
    refine aT rfl rfl ?_
    refine aT rfl rfl ?_
    refine aT rfl rfl ?_
    refine aA (bL true (.bool true) rfl rfl) rfl rfl ?_
    refine aE (aF ?_)
    refine dR rfl ?_
    refine aG (aB ?_)
    refine aA (aD (.int _ _) rfl) rfl rfl ?_
    refine aE (aF (aR (cP ?_)))
    refine cH (.int _ _) rfl ?_
    exact ⟨iE (by unfold mH; rw [if_pos (by omega)]), M3.below⟩
  · refine aA (aH 4 fE rfl) rfl rfl ?_
    refine aA (aW 1 (.int _ _) bH M3 rfl rfl rfl) rfl rfl ?_
    refine aA (aO (.bool (decide _)) rfl rfl rfl) rfl rfl ?_
    refine aA (aC (.bool (decide _)) rfl) rfl rfl ?_
    refine dN 18 rfl (fun g18 => ?_) (fun g18 => ?_)
    · refine aA (aH 4 fE rfl) rfl rfl ?_
      refine aA (aW 2 (.int _ _) bH M3 rfl rfl rfl) rfl rfl ?_
      refine aA (aO (.bool (decide _)) rfl rfl rfl) rfl rfl ?_
      refine aA (bL true (.bool (decide _)) rfl rfl) rfl rfl ?_
      refine aA (bL false (.bool (decide _)) rfl rfl) rfl rfl ?_
      refine aE (aF ?_)
      refine aZ rfl (fun h23 => ?_) (fun h23 => ?_)
      · refine aG (aB ?_)
        refine aA (aD (.int _ _) rfl) rfl rfl ?_
        refine aE (aF (aR (cP ?_)))
        refine cH (.int _ _) rfl ?_
        exact ⟨iE (by unfold mH; rw [if_pos (by omega)]), M3.below⟩
      · refine aN (aF (aG (aB ?_)))
        refine aA (aC (.int _ _) rfl) rfl rfl ?_
        refine aA (kH rfl rfl (by omega) (by omega)) rfl rfl ?_
        refine aA (gO rfl rfl (by decide)) rfl rfl ?_
        refine aA (aD (.int _ _) rfl) rfl rfl ?_
        refine aE (aF (aR ?_))
        refine cH (.int _ _) rfl ?_
        exact ⟨iE (by unfold mH; rw [if_neg (by omega)]; exact nP _), M3.below⟩
    · refine aT rfl rfl ?_
      refine aT rfl rfl ?_
      refine aT rfl rfl ?_
      refine aA (bL false (.bool false) rfl rfl) rfl rfl ?_
      refine aA (bL false (.bool false) rfl rfl) rfl rfl ?_
      refine aE (aF ?_)
      refine cJ rfl ?_
      refine aN (aF (aG (aB ?_)))
      refine aA (aC (.int _ _) rfl) rfl rfl ?_
      refine aA (kH rfl rfl (by omega) (by omega)) rfl rfl ?_
      refine aA (gO rfl rfl (by decide)) rfl rfl ?_
      refine aA (aD (.int _ _) rfl) rfl rfl ?_
      refine aE (aF (aR ?_))
      refine cH (.int _ _) rfl ?_
      exact ⟨iE (by unfold mH; rw [if_neg (by omega)]; exact nP _), M3.below⟩
set_option maxHeartbeats 4000000 in
theorem wH (w : World) (c : Con) (a b : Body) (hc : Okn c) (ha : Okb a) (hb : Okb b) (hi : Bool) :
    Calls Tryz.prog 111 #[.agg (bY c).toArray, (.agg (aI a).toArray), (.agg (aI b).toArray), .bool hi] w (fun ex w' => ∃ v, ex = .returned v ∧ (fun v w' => v = .int .i64 (mD c a b (if hi = true then b.mass else a.mass)) ∧ Below w.heap.size w w') v w') := by
  have hdp := hc.d
  have hm1 := ha.m
  have hm2 := hb.m
  have hm0 : 0 ≤ (if hi = true then b.mass else a.mass) ∧ (if hi = true then b.mass else a.mass) ≤ 1048576 := by split <;> omega
  have hsr := aPs (a := a) (b := b) hc hm0
  have har := yW (a := a) (b := b) hc
  refine aJ #[.tmp 8] 36 Tryz.func111 rfl Tryz.results111 Tryz.ntmps111 rfl ?_
  have M0 := Mem.refl w
  refine aG (aB ?_)
  refine bK (.agg (List.toArray _)) M0 rfl rfl rfl (fun b1 w1 M1 => ?_)
  refine bK (.agg (List.toArray _)) M1 rfl rfl rfl (fun b2 w2 M2 => ?_)
  refine bK (.agg (List.toArray _)) M2 rfl rfl rfl (fun b3 w3 M3 => ?_)
  refine aA (aD (.int _ _) rfl) rfl rfl ?_
  refine aE (aF (aG (aB ?_)))
  refine aA (aH 4 fE rfl) rfl rfl ?_
  refine aA (aW 1 (.int _ _) bH M3 rfl rfl rfl) rfl rfl ?_
  refine aA (aD (.int _ _) rfl) rfl rfl ?_
  refine aE (aF (aG (aG (aB ?_))))
  refine aA (aC (.bool _) rfl) rfl rfl ?_
  refine aE (aF ?_)
  refine iQ _ rfl (fun h14 => ?_) (fun h14 => ?_)
  · refine aB ?_
    refine aA (aH 4 fE rfl) rfl rfl ?_
    refine aA (aW 2 (.int _ _) bH M3 rfl rfl rfl) rfl rfl ?_
    refine aA (aD (.int _ _) rfl) rfl rfl ?_
    refine aE (aF (aG ?_))
    refine bZ [(0, 1), (1, 1), (2, 1), (4, 0), (5, 0), (6, 0), (7, 1), (8, 0), (9, 0), (10, 1), (11, 0), (12, 0), (13, 0), (3, 2), (14, 2), (15, 0), (16, 0), (17, 0), (18, 0), (19, 0)] mixed rfl (by kernel_rfl) (fun w4 hb4 hh4 => ?_)
    have M4 := M3.drew hb4 hh4
    refine cC rfl rfl rfl (bB 0 fD M4 rfl rfl rfl) ?_
    refine cC rfl rfl rfl (bB 1 bX M4 rfl rfl rfl) ?_
    refine cC rfl rfl rfl (bB 2 bX M4 rfl rfl rfl) ?_
    refine aX rfl rfl rfl (fun _ => aC (.int _ _) rfl) ?_
    refine aX rfl rfl rfl (fun _ => bQ fT Tryz.underlying2 rfl (jT _ (by omega) (by omega))) ?_
    refine nS 23 (.int .i64 (if hi = true then b.mass else a.mass)) (iE (by rw [h14]; rfl)) ?_
    refine aX rfl rfl rfl (fun _ => aH 4 fE rfl) ?_
    refine cC rfl rfl rfl (aW 1 (.int _ _) bH M4 rfl rfl rfl) ?_
    refine aX rfl rfl rfl (fun _ => bQ fT Tryz.underlying2 rfl (jT _ (by omega) (by omega))) ?_
    refine aX rfl rfl rfl (fun _ => aH 4 fE rfl) ?_
    refine cC rfl rfl rfl (aW 2 (.int _ _) bH M4 rfl rfl rfl) ?_
    refine aX rfl rfl rfl (fun _ => bQ fT Tryz.underlying2 rfl (jT _ (by omega) (by omega))) ?_
    refine aX rfl rfl rfl (fun _ => bW rfl rfl (by omega) (by omega)) ?_
    refine aX rfl rfl rfl (fun _ => kS rfl rfl ) ?_
    refine eD [false, false, true, true, true] rfl (by kernel_rfl) ?_
    refine aK aKv rfl rfl rfl ?_
    refine (tZ _ c a b hc ha hb).mono ?_
    rintro _ w5 ⟨v5, rfl, ⟨rfl, hb5⟩⟩
    refine ⟨_, rfl, ?_⟩
    have M5 := M4.callB hb5
    refine aE (aF ⟨(lF (dH rfl (aW 2 (.int _ _) bH M5 rfl rfl rfl)) (lF (dH rfl (aW 1 (.int _ _) bH M5 rfl rfl rfl)) eF)), ?_⟩)
    refine eD [true, true] rfl (by kernel_rfl) ?_
    refine aK zH rfl rfl rfl ?_
    refine (yF _ (mH c a b) (if hi = true then b.mass else a.mass) (max 1 (a.mass + b.mass)) (by omega) hm0.1 (by omega) (by omega) (by omega) (by omega) (by omega)).mono ?_
    rintro _ w6 ⟨v6, rfl, ⟨rfl, hb6⟩⟩
    refine ⟨_, rfl, ?_⟩
    have M6 := M5.callB hb6
    refine aE (aF ⟨eF, ?_⟩)
    refine aX rfl rfl rfl (fun _ => aC (.tuple (List.toArray _)) rfl) ?_
    refine aX rfl rfl rfl (fun _ => bC (.int _ _) rfl rfl) ?_
    refine aX rfl rfl rfl (fun _ => bC (.int _ _) rfl rfl) ?_
    refine aX rfl rfl rfl (fun _ => aD (.int _ _) rfl) ?_
    refine aX rfl rfl rfl (fun _ => aD (.int _ _) rfl) ?_
    refine cF ?_
    refine aF (aG (aB ?_))
    refine aA (aC (.int _ _) rfl) rfl rfl ?_
    refine aA (aD (.int _ _) rfl) rfl rfl ?_
    refine aE (aF (aR ?_))
    refine cH (.int _ _) rfl ?_
    exact ⟨rfl, M6.below⟩
  · refine aN (aF (aG ?_))
    refine bZ [(0, 1), (1, 1), (2, 1), (4, 0), (5, 0), (6, 0), (7, 1), (8, 0), (9, 0), (10, 1), (11, 0), (12, 0), (13, 0), (3, 2), (14, 2), (15, 0), (16, 0), (17, 0), (18, 0), (19, 0)] mixed rfl (by kernel_rfl) (fun w7 hb7 hh7 => ?_)
    have M7 := M3.drew hb7 hh7
    refine cC rfl rfl rfl (bB 0 fD M7 rfl rfl rfl) ?_
    refine cC rfl rfl rfl (bB 1 bX M7 rfl rfl rfl) ?_
    refine cC rfl rfl rfl (bB 2 bX M7 rfl rfl rfl) ?_
    refine aX rfl rfl rfl (fun _ => aC (.int _ _) rfl) ?_
    refine aX rfl rfl rfl (fun _ => bQ fT Tryz.underlying2 rfl (jT _ (by omega) (by omega))) ?_
    refine nS 23 (.int .i64 (if hi = true then b.mass else a.mass)) (iE (by rw [h14]; rfl)) ?_
    refine aX rfl rfl rfl (fun _ => aH 4 fE rfl) ?_
    refine cC rfl rfl rfl (aW 1 (.int _ _) bH M7 rfl rfl rfl) ?_
    refine aX rfl rfl rfl (fun _ => bQ fT Tryz.underlying2 rfl (jT _ (by omega) (by omega))) ?_
    refine aX rfl rfl rfl (fun _ => aH 4 fE rfl) ?_
    refine cC rfl rfl rfl (aW 2 (.int _ _) bH M7 rfl rfl rfl) ?_
    refine aX rfl rfl rfl (fun _ => bQ fT Tryz.underlying2 rfl (jT _ (by omega) (by omega))) ?_
    refine aX rfl rfl rfl (fun _ => bW rfl rfl (by omega) (by omega)) ?_
    refine aX rfl rfl rfl (fun _ => kS rfl rfl ) ?_
    refine eD [false, false, true, true, true] rfl (by kernel_rfl) ?_
    refine aK aKv rfl rfl rfl ?_
    refine (tZ _ c a b hc ha hb).mono ?_
    rintro _ w8 ⟨v8, rfl, ⟨rfl, hb8⟩⟩
    refine ⟨_, rfl, ?_⟩
    have M8 := M7.callB hb8
    refine aE (aF ⟨(lF (dH rfl (aW 2 (.int _ _) bH M8 rfl rfl rfl)) (lF (dH rfl (aW 1 (.int _ _) bH M8 rfl rfl rfl)) eF)), ?_⟩)
    refine eD [true, true] rfl (by kernel_rfl) ?_
    refine aK zH rfl rfl rfl ?_
    refine (yF _ (mH c a b) (if hi = true then b.mass else a.mass) (max 1 (a.mass + b.mass)) (by omega) hm0.1 (by omega) (by omega) (by omega) (by omega) (by omega)).mono ?_
    rintro _ w9 ⟨v9, rfl, ⟨rfl, hb9⟩⟩
    refine ⟨_, rfl, ?_⟩
    have M9 := M8.callB hb9
    refine aE (aF ⟨eF, ?_⟩)
    refine aX rfl rfl rfl (fun _ => aC (.tuple (List.toArray _)) rfl) ?_
    refine aX rfl rfl rfl (fun _ => bC (.int _ _) rfl rfl) ?_
    refine aX rfl rfl rfl (fun _ => bC (.int _ _) rfl rfl) ?_
    refine aX rfl rfl rfl (fun _ => aD (.int _ _) rfl) ?_
    refine aX rfl rfl rfl (fun _ => aD (.int _ _) rfl) ?_
    refine cF ?_
    refine aF (aG (aB ?_))
    refine aA (aC (.int _ _) rfl) rfl rfl ?_
    refine aA (aD (.int _ _) rfl) rfl rfl ?_
    refine aE (aF (aR ?_))
    refine cH (.int _ _) rfl ?_
    exact ⟨rfl, M9.below⟩
set_option maxHeartbeats 4000000 in
theorem vJ (w : World) (bo bk : Nat) (cn : Con) (q : Row) (l : List (Int × Int)) (hq : aY 135 2 q.A q.n q.c ((l).map bP) q.e) (p : Nat) (s z : Int) (f : Int × Int) (hp : l[p]? = some f) (hs : 0 ≤ s ∧ s ≤ 1073741824) (hz : z = 1 ∨ z = -1) (hc : Okn cn) (hf : (-1152921504606846976 ≤ f.1 ∧ f.1 ≤ 1152921504606846976) ∧ -1152921504606846976 ≤ f.2 ∧ f.2 ≤ 1152921504606846976) (hO : Own [(some bo, bc [.slice q.A q.n q.c] 97), q.e, (some bk, bc (bY cn) 121)] w) :
    Calls Tryz.prog 110 #[.int .i64 (p : Int), .int .i64 s, .int .i64 z, .pointer (some ⟨bo, 0, none⟩), .pointer (some ⟨bk, 0, none⟩)] w (fun ex w' => ∃ v, ex = .returned v ∧ (fun v w' => v = .tuple #[] ∧ ∃ e : dM, aY 135 2 q.A q.n q.c ((l.set p (aBd s z cn f)).map bP) e ∧ Mem w (bU [(some bo, bc [.slice q.A q.n q.c] 97), q.e, (some bk, bc (bY cn) 121)]) [(some bo, bc [.slice q.A q.n q.c] 97), e, (some bk, bc (bY cn) 121)] w') v w') := by
  have hcx := hc.x
  have hcy := hc.y
  have hl : l.length = q.n := by simpa using hq.1
  have hpl := (List.getElem?_eq_some_iff.1 hp).1
  have r1 := nR hs hc.x
  have r2 := nR hs hc.y
  have hp2 : (l.set p (f.1 + z * (s * cn.nx / 65536), f.2))[p]? = some (f.1 + z * (s * cn.nx / 65536), f.2) := by rw [List.getElem?_set_self hpl]
  have z1 : -1073741824 ≤ z * (s * cn.nx / 65536) ∧ z * (s * cn.nx / 65536) ≤ 1073741824 := by rcases hz with rfl | rfl <;> omega
  have z2 : -1073741824 ≤ z * (s * cn.ny / 65536) ∧ z * (s * cn.ny / 65536) ≤ 1073741824 := by rcases hz with rfl | rfl <;> omega
  refine aJ #[] 42 Tryz.func110 rfl Tryz.results110 Tryz.ntmps110 rfl ?_
  have M0 := hO.mem
  refine aG ?_
  refine bZ [(0, 1), (1, 0), (2, 1), (3, 1), (4, 1), (5, 0), (6, 0), (7, 0), (8, 0), (9, 1), (10, 0), (11, 0), (12, 0), (13, 0), (14, 0), (15, 1), (16, 1), (17, 2)] mixed rfl (by kernel_rfl) (fun w1 hb1 hh1 => ?_)
  have M1 := M0.drew hb1 hh1
  refine cC rfl rfl rfl (aW 0 (.slice _ _ _) wO M1 rfl rfl rfl) ?_
  refine aX rfl rfl rfl (fun _ => aC (.int _ _) rfl) ?_
  refine cC rfl rfl rfl (bO (p) aAe rfl rfl rfl ((hq.rd M1 (aP (i := 1) rfl)).below_len (aL bP hp)) ((hq.rd M1 (aP (i := 1) rfl)).someK (aL bP hp))) ?_
  refine cC rfl rfl rfl (bR 0 tT (hq.rd M1 (aP (i := 1) rfl)) (Nat.lt_of_le_of_lt (Nat.zero_le _) ((hq.rd M1 (aP (i := 1) rfl)).below_len (aL bP hp))) rfl) ?_
  refine cC rfl rfl rfl (eV (o := 0) (.int _ _) jL (hq.rd M1 (aP (i := 1) rfl)) (aL bP hp) rfl rfl) ?_
  refine aX rfl rfl rfl (fun _ => aC (.int _ _) rfl) ?_
  refine aX rfl rfl rfl (fun _ => aC (.int _ _) rfl) ?_
  refine aX rfl rfl rfl (fun _ => aH 2 lB rfl) ?_
  refine aX rfl rfl rfl (fun _ => aH 0 dQ rfl) ?_
  refine cC rfl rfl rfl (aW 2 (.int _ _) bH M1 rfl rfl rfl) ?_
  refine aX rfl rfl rfl (fun _ => bQ fT Tryz.underlying2 rfl (jT _ (by omega) (by omega))) ?_
  refine aX rfl rfl rfl (fun _ => kH rfl rfl (by omega) (by omega)) ?_
  refine aX rfl rfl rfl (fun _ => gO rfl rfl (by decide)) ?_
  refine nS 20 (.int .i64 (s * cn.nx / 65536)) (iE (nP _)) ?_
  refine aX rfl rfl rfl (fun _ => kH rfl rfl (by omega) (by omega)) ?_
  refine aX rfl rfl rfl (fun _ => bW rfl rfl (by omega) (by omega)) ?_
  refine cC rfl rfl rfl (bO (p) aAe rfl rfl rfl ((hq.rd M1 (aP (i := 1) rfl)).below_len (aL bP hp)) ((hq.rd M1 (aP (i := 1) rfl)).someK (aL bP hp))) ?_
  refine cC rfl rfl rfl (bR 0 tT (hq.rd M1 (aP (i := 1) rfl)) (Nat.lt_of_le_of_lt (Nat.zero_le _) ((hq.rd M1 (aP (i := 1) rfl)).below_len (aL bP hp))) rfl) ?_
  refine eD [true, true, true, true, true, true, true] rfl (by kernel_rfl) ?_
  refine yG (o := 0) 1 (.int _ _) jL M1 rfl hq (aL bP hp) rfl rfl rfl rfl rfl (fun e2 w2 hR2 M2 => ?_)
  have hQ2 := hR2.mapSet (f := bP) (x := (f.1 + z * (s * cn.nx / 65536), f.2)) rfl
  refine aE (aF ⟨eF, ?_⟩)
  refine cF ?_
  refine aF ?_
  refine bZ [(0, 1), (1, 0), (2, 1), (3, 1), (4, 1), (5, 0), (6, 0), (7, 0), (8, 0), (9, 1), (10, 0), (11, 0), (12, 0), (13, 0), (14, 0), (15, 1), (16, 1), (17, 2)] mixed rfl (by kernel_rfl) (fun w3 hb3 hh3 => ?_)
  have M3 := M2.drew hb3 hh3
  refine cC rfl rfl rfl (aW 0 (.slice _ _ _) wO M3 rfl rfl rfl) ?_
  refine aX rfl rfl rfl (fun _ => aC (.int _ _) rfl) ?_
  refine cC rfl rfl rfl (bO (p) aAe rfl rfl rfl ((hQ2.rd M3 (aP (i := 1) rfl)).below_len (aL bP hp2)) ((hQ2.rd M3 (aP (i := 1) rfl)).someK (aL bP hp2))) ?_
  refine cC rfl rfl rfl (bR 1 tH (hQ2.rd M3 (aP (i := 1) rfl)) (Nat.lt_of_le_of_lt (Nat.zero_le _) ((hQ2.rd M3 (aP (i := 1) rfl)).below_len (aL bP hp2))) rfl) ?_
  refine cC rfl rfl rfl (eV (o := 1) (.int _ _) jL (hQ2.rd M3 (aP (i := 1) rfl)) (aL bP hp2) rfl rfl) ?_
  refine aX rfl rfl rfl (fun _ => aC (.int _ _) rfl) ?_
  refine aX rfl rfl rfl (fun _ => aC (.int _ _) rfl) ?_
  refine aX rfl rfl rfl (fun _ => aH 2 lB rfl) ?_
  refine aX rfl rfl rfl (fun _ => aH 1 dI rfl) ?_
  refine cC rfl rfl rfl (aW 2 (.int _ _) bH M3 rfl rfl rfl) ?_
  refine aX rfl rfl rfl (fun _ => bQ fT Tryz.underlying2 rfl (jT _ (by omega) (by omega))) ?_
  refine aX rfl rfl rfl (fun _ => kH rfl rfl (by omega) (by omega)) ?_
  refine aX rfl rfl rfl (fun _ => gO rfl rfl (by decide)) ?_
  refine nS 37 (.int .i64 (s * cn.ny / 65536)) (iE (nP _)) ?_
  refine aX rfl rfl rfl (fun _ => kH rfl rfl (by omega) (by omega)) ?_
  refine aX rfl rfl rfl (fun _ => bW rfl rfl (by omega) (by omega)) ?_
  refine cC rfl rfl rfl (bO (p) aAe rfl rfl rfl ((hQ2.rd M3 (aP (i := 1) rfl)).below_len (aL bP hp2)) ((hQ2.rd M3 (aP (i := 1) rfl)).someK (aL bP hp2))) ?_
  refine cC rfl rfl rfl (bR 1 tH (hQ2.rd M3 (aP (i := 1) rfl)) (Nat.lt_of_le_of_lt (Nat.zero_le _) ((hQ2.rd M3 (aP (i := 1) rfl)).below_len (aL bP hp2))) rfl) ?_
  refine eD [true, true, true, true, true, true, true] rfl (by kernel_rfl) ?_
  refine yG (o := 1) 1 (.int _ _) jL M3 rfl hQ2 (aL bP hp2) rfl rfl rfl rfl rfl (fun e4 w4 hR4 M4 => ?_)
  have hQ4 := hR4.mapSet (f := bP) (x := aBd s z cn f) rfl
  rw [List.set_set] at hQ4
  refine aE (aF ⟨eF, ?_⟩)
  refine cF ?_
  refine gR ?_
  exact ⟨rfl, e4, hQ4, M4⟩
end Go.Proofs.YtlmcphcgiclanaaGreatDoor

namespace Go.Proofs.YtlmcphcgiclanaaGreatDoor
open Go.Bil
open Go.RowKit (Below)
open Go.Proofs
theorem Mem.swap2 {w0 w : World} {X : List Nat} {a b : dM} (M : Mem w0 X [a, b] w) : Mem w0 X [b, a] w := M.perm (List.Perm.swap b a [])
theorem yJ {xs : List Body} {cs : List Con} {n : Nat} (hs : bM xs) (hb : ∀ b ∈ xs, Okb b) (hcs : ∀ c ∈ cs, OkC xs c) (hn : cs.length = n) (hl : n ≤ 1073741824) (k : Nat) {b : Body} (h : b ∈ xs) : (-1152921504606846976 ≤ (gE xs (cs.take k) b).1 ∧ (gE xs (cs.take k) b).1 ≤ 1152921504606846976) ∧ -1152921504606846976 ≤ (gE xs (cs.take k) b).2 ∧ (gE xs (cs.take k) b).2 ≤ 1152921504606846976 := by
  have ht : (cs.take k).length ≤ cs.length := by rw [List.length_take]; omega
  have h1 := aCa (cs := cs.take k) (g := (·.nx)) hs hb (fun c h => hcs c (List.mem_of_mem_take h)) (fun c h => (hcs c (List.mem_of_mem_take h)).n.x) h
  have h2 := aCa (cs := cs.take k) (g := (·.ny)) hs hb (fun c h => hcs c (List.mem_of_mem_take h)) (fun c h => (hcs c (List.mem_of_mem_take h)).n.y) h
  unfold gE
  simp only
  omega
set_option maxHeartbeats 8000000 in
theorem aDx (w : World) (A : Option Addr) (n c : Nat) (xs : List Body) (R : Rd w 10 A n (xs.map aI)) (hs : bM xs) (hb : ∀ b ∈ xs, Okb b) (hn : n ≤ 1048576) (B : Option Addr) (mc c' : Nat) (cs : List Con) (R' : Rd w 5 B mc (cs.map bY)) (hcs : ∀ c ∈ cs, OkC xs c) (hmc : mc ≤ 1073741824) :
    Calls Tryz.prog 74 #[.slice A n c, .slice B mc c'] w (fun ex w' => ∃ v, ex = .returned v ∧ (fun v w' => ∃ r : Row, v = .slice r.A r.n r.c ∧ aY 135 2 r.A r.n r.c ((xs.map (gE xs cs)).map bP) r.e ∧ Mem w [] [r.e] w') v w') := by
  have hlen : xs.length = n := by simpa using R.len
  have hbd := R.bound
  have hclen : cs.length = mc := by simpa using R'.len
  have hbd' := R'.bound
  have hz0 : List.replicate n ([.int .i64 0, .int .i64 0] : List Value) = (xs.map (gE xs (cs.take 0))).map bP := by rw [aOk, aFp hlen ((0, 0) : Int × Int)]; exact congrArg (List.map bP) (List.map_congr_left (fun b _ => Prod.ext (wM xs cs (·.nx) b).symm (wM xs cs (·.ny) b).symm))
  refine aJ #[.tmp 4] 67 Tryz.func74 rfl Tryz.results74 Tryz.ntmps74 rfl ?_
  have M0 := Mem.refl w
  refine aG (aB ?_)
  refine aA (aD (.slice _ _ _) rfl) rfl rfl ?_
  refine aE (aF (aG (aB ?_)))
  refine aA (aC (.slice _ _ _) rfl) rfl rfl ?_
  refine aA (cR Tryz.underlying22 rfl) rfl rfl ?_
  refine fU (n) [.int .i64 0, .int .i64 0] aAe aFu rfl M0 rfl rfl rfl rfl rfl rfl (by omega) (by omega) (fun b1 w1 M1 => ?_)
  have hL15 := gW (T := 135) (sz := 2) (b := b1) (nn := n) (List.replicate n [.int .i64 0, .int .i64 0]) (fun l hl => by rw [List.eq_of_mem_replicate hl]; rfl) (by simp) (by omega)
  rw [hz0] at hL15
  rw [hz0] at M1
  refine aS aTo M1 rfl rfl (fun b2 w2 M2 => ?_)
  refine eC 1 (.slice _ _ _) wO M2 rfl rfl rfl rfl rfl rfl (fun w3 M3 => ?_)
  refine aE (aF (aG (aG (aB ?_))))
  have M4 : Mem _ _ [_, _] _ := Mem.swap2 M3
  refine aA (aC (.slice _ _ _) rfl) rfl rfl ?_
  refine aA (cR Tryz.underlying82 rfl) rfl rfl ?_
  refine aA (aC (.int _ _) rfl) rfl rfl ?_
  refine aE (aF (bA ?_))
  refine dJ (σ := Nat × dM) [0, 4, 5, 16, 17] (fun (k, e) => [(18, .int .i64 (k : Int))]) (fun (k, e) w' => (k ≤ mc ∧ aY 135 2 (some ⟨b1, 0, none⟩) n n ((xs.map (gE xs (cs.take k))).map bP) e) ∧ Mem w [] [(some b2, bc [.slice (some ⟨b1, 0, none⟩) n n] 97), e] w') (fun (k, e) => mc - k) (0, (some b1, bc ((xs.map (gE xs (cs.take 0))).map bP).flatten 135)) (bV rfl eX) (⟨⟨by omega, hL15⟩, M4⟩) ?_
  rintro ⟨k, e⟩ ρ5 w5 ⟨⟨hk, hq⟩, hM5⟩
  refine aG (aB ?_)
  refine aA (aO (.bool (decide _)) rfl rfl rfl) rfl rfl ?_
  refine aE (aF (aG ?_))
  refine aZ rfl (fun h19 => ?_) (fun h19 => ?_)
  · obtain ⟨cn, hcn⟩ := cN (xs := cs) (k := k) hclen (by omega)
    have hc := hcs cn (List.mem_of_getElem? hcn)
    obtain ⟨pa, xa, hxa, hka, hla, hba, hma⟩ := nJ hs hc.l
    obtain ⟨pb, xb, hxb, hkb, hlb, hbb, hmb⟩ := nJ hs hc.h
    have hoa := hb xa hma
    have hob := hb xb hmb
    have hne := hc.ne
    have ma := hoa.m
    have mb := hob.m
    have hpab : pa ≠ pb := fun g => by subst g; rw [hxa] at hxb; injection hxb with hxb; subst hxb; omega
    refine aN (aF (aG (bA (aG (aB ?_)))))
    refine aA (bO (k) aIv rfl rfl rfl ((R'.mem hM5).below_len (aL bY hcn)) ((R'.mem hM5).someK (aL bY hcn))) rfl rfl ?_
    refine aA (dK _ fD (R'.mem hM5) (aL bY hcn) rfl) rfl rfl ?_
    refine aS pE hM5 rfl rfl (fun b6 w6 M6 => ?_)
    refine bJ 2 _ fD M6 rfl rfl rfl rfl rfl (aU rfl) rfl (fun w7 M7 => ?_)
    refine aE (aF (aG (aB ?_)))
    refine aA (aC (.slice _ _ _) rfl) rfl rfl ?_
    refine aA (aH 0 pN rfl) rfl rfl ?_
    refine aA (aH 0 lI rfl) rfl rfl ?_
    refine aA (aW 2 (.int _ _) cV M7 rfl rfl rfl) rfl rfl ?_
    refine aK xU rfl rfl rfl ?_
    refine (nG _ cn.low _ _ _ xs (R.mem M7) hs).mono ?_
    rintro _ w8 ⟨v8, rfl, ⟨rfl, hb8⟩⟩
    refine ⟨_, rfl, ?_⟩
    have M8 := M7.callB hb8
    refine aA (aC (.tuple (List.toArray _)) rfl) rfl rfl ?_
    refine aA (bC (.int _ _) rfl rfl) rfl rfl ?_
    refine aM 28 (.int .i64 (pa : Int)) (iE (by rw [hla])) ?_
    refine aA (bC (.bool (decide _)) rfl rfl) rfl rfl ?_
    refine aA (aD (.int _ _) rfl) rfl rfl ?_
    refine aA (aD (.bool (decide _)) rfl) rfl rfl ?_
    refine aE (aF (aG (aB ?_)))
    refine aA (aC (.slice _ _ _) rfl) rfl rfl ?_
    refine aA (aH 0 pN rfl) rfl rfl ?_
    refine aA (aH 1 lG rfl) rfl rfl ?_
    refine aA (aW 2 (.int _ _) cV M8 rfl rfl rfl) rfl rfl ?_
    refine aK xU rfl rfl rfl ?_
    refine (nG _ cn.high _ _ _ xs (R.mem M8) hs).mono ?_
    rintro _ w9 ⟨v9, rfl, ⟨rfl, hb9⟩⟩
    refine ⟨_, rfl, ?_⟩
    have M9 := M8.callB hb9
    refine aA (aC (.tuple (List.toArray _)) rfl) rfl rfl ?_
    refine aA (bC (.int _ _) rfl rfl) rfl rfl ?_
    refine aM 36 (.int .i64 (pb : Int)) (iE (by rw [hlb])) ?_
    refine aA (bC (.bool (decide _)) rfl rfl) rfl rfl ?_
    refine aA (aD (.int _ _) rfl) rfl rfl ?_
    refine aA (aD (.bool (decide _)) rfl) rfl rfl ?_
    refine aE (aF (aG (aB ?_)))
    refine aA (dC [] [.pointer _, .pointer _] rfl rfl) rfl rfl ?_
    refine aA (aD (.func _ _ _) rfl) rfl rfl ?_
    refine aE (aF (aG ?_))
    refine bZ [(0, 0), (1, 0), (2, 1), (3, 0), (4, 0), (5, 1), (6, 1), (7, 0), (8, 0), (9, 1), (10, 1), (11, 2), (12, 2)] mixed rfl (by kernel_rfl) (fun w10 hb10 hh10 => ?_)
    have M10 := M9.drew hb10 hh10
    refine aX rfl rfl rfl (fun _ => aC (.func _ _ _) rfl) ?_
    refine aX rfl rfl rfl (fun _ => aC (.int _ _) rfl) ?_
    refine cC rfl rfl rfl (bB 2 fD M10 rfl rfl rfl) ?_
    refine aX rfl rfl rfl (fun _ => aC (.slice _ _ _) rfl) ?_
    refine aX rfl rfl rfl (fun _ => aC (.int _ _) rfl) ?_
    refine cC rfl rfl rfl (bO (pa) dG rfl rfl rfl ((R.mem M10).below_len (aL aI hxa)) ((R.mem M10).someK (aL aI hxa))) ?_
    refine cC rfl rfl rfl (dK _ bX (R.mem M10) (aL aI hxa) rfl) ?_
    refine aX rfl rfl rfl (fun _ => aC (.slice _ _ _) rfl) ?_
    refine aX rfl rfl rfl (fun _ => aC (.int _ _) rfl) ?_
    refine cC rfl rfl rfl (bO (pb) dG rfl rfl rfl ((R.mem M10).below_len (aL aI hxb)) ((R.mem M10).someK (aL aI hxb))) ?_
    refine cC rfl rfl rfl (dK _ bX (R.mem M10) (aL aI hxb) rfl) ?_
    refine eD [true, true, true, true, true] rfl (by kernel_rfl) ?_
    refine aK aNh rfl rfl rfl ?_
    refine (wH _ cn xa xb hc.n hoa hob false).mono ?_
    rintro _ w11 ⟨v11, rfl, ⟨rfl, hb11⟩⟩
    refine ⟨_, rfl, ?_⟩
    have M11 := M10.callB hb11
    refine aE (aF ⟨eF, ?_⟩)
    refine nS 50 (.int .i64 (mD cn xa xb xa.mass)) rfl ?_
    refine eD [] rfl (by kernel_rfl) ?_
    refine aK aNz rfl rfl rfl ?_
    refine (vJ _ b2 b6 cn ⟨some ⟨b1, 0, none⟩, n, n, e⟩ (xs.map (gE xs (cs.take k))) hq pa (mD cn xa xb xa.mass) (-1) (gE xs (cs.take k) xa) (aL _ hxa) (yN hc.n (by omega)) (.inr rfl) hc.n (yJ hs hb hcs hclen hmc k hma) (M11.ownSeg 0 3)).mono ?_
    rintro _ w12 ⟨v12, rfl, ⟨rfl, e1, hq1, hM12⟩⟩
    refine ⟨_, rfl, ?_⟩
    have M12 : Mem _ _ [_, _, _] _ := M11.seg 0 3 hM12
    refine aE (aF ⟨eF, ?_⟩)
    refine cF ?_
    refine aF ?_
    refine bZ [(0, 0), (1, 0), (2, 1), (3, 0), (4, 0), (5, 1), (6, 1), (7, 0), (8, 0), (9, 1), (10, 1), (11, 2), (12, 2)] mixed rfl (by kernel_rfl) (fun w13 hb13 hh13 => ?_)
    have M13 := M12.drew hb13 hh13
    refine aX rfl rfl rfl (fun _ => aC (.func _ _ _) rfl) ?_
    refine aX rfl rfl rfl (fun _ => aC (.int _ _) rfl) ?_
    refine cC rfl rfl rfl (bB 2 fD M13 rfl rfl rfl) ?_
    refine aX rfl rfl rfl (fun _ => aC (.slice _ _ _) rfl) ?_
    refine aX rfl rfl rfl (fun _ => aC (.int _ _) rfl) ?_
    refine cC rfl rfl rfl (bO (pa) dG rfl rfl rfl ((R.mem M13).below_len (aL aI hxa)) ((R.mem M13).someK (aL aI hxa))) ?_
    refine cC rfl rfl rfl (dK _ bX (R.mem M13) (aL aI hxa) rfl) ?_
    refine aX rfl rfl rfl (fun _ => aC (.slice _ _ _) rfl) ?_
    refine aX rfl rfl rfl (fun _ => aC (.int _ _) rfl) ?_
    refine cC rfl rfl rfl (bO (pb) dG rfl rfl rfl ((R.mem M13).below_len (aL aI hxb)) ((R.mem M13).someK (aL aI hxb))) ?_
    refine cC rfl rfl rfl (dK _ bX (R.mem M13) (aL aI hxb) rfl) ?_
    refine eD [true, true, true, true, true] rfl (by kernel_rfl) ?_
    refine aK aNh rfl rfl rfl ?_
    refine (wH _ cn xa xb hc.n hoa hob true).mono ?_
    rintro _ w14 ⟨v14, rfl, ⟨rfl, hb14⟩⟩
    refine ⟨_, rfl, ?_⟩
    have M14 := M13.callB hb14
    refine aE (aF ⟨eF, ?_⟩)
    refine nS 63 (.int .i64 (mD cn xa xb xb.mass)) rfl ?_
    refine eD [] rfl (by kernel_rfl) ?_
    refine aK aNz rfl rfl rfl ?_
    refine (vJ _ b2 b6 cn ⟨some ⟨b1, 0, none⟩, n, n, e1⟩ _ hq1 pb (mD cn xa xb xb.mass) (1) (gE xs (cs.take k) xb) (oH (aL _ hxb) hpab) (yN hc.n (by omega)) (.inl rfl) hc.n (yJ hs hb hcs hclen hmc k hmb) (M14.ownSeg 0 3)).mono ?_
    rintro _ w15 ⟨v15, rfl, ⟨rfl, e2, hq2, hM15⟩⟩
    refine ⟨_, rfl, ?_⟩
    have M15 : Mem _ _ [_, _, _] _ := M14.seg 0 3 hM15
    refine aE (aF ⟨eF, ?_⟩)
    refine cF ?_
    refine dL ?_
    refine aF (aB ?_)
    refine aA (bW rfl rfl (by omega) (by omega)) rfl rfl ?_
    refine aA (aC (.int _ _) rfl) rfl rfl ?_
    refine aE ?_
    refine cE (k + 1, e2) (bV rfl eX) (cI rfl (cI rfl (cI rfl (cI rfl (cI rfl iO))))) ?_ ?_
    · exact ⟨⟨by omega, by rw [← aHt hcn, ← aOi hs hxa hxb hka hkb hc hba hbb]; exact hq2⟩, M15.keep [true, true, false]⟩
    · (show mc - (k + 1) < mc - k; omega)
  · have hkn : k = mc := by omega
    rw [List.take_of_length_le (by omega)] at hq
    refine cL ?_
    refine dD ?_
    refine cY ?_
    refine eM ?_
    refine aF (aG (aB ?_))
    refine aA (aW 0 (.slice _ _ _) wO hM5 rfl rfl rfl) rfl rfl ?_
    refine aA (aD (.slice _ _ _) rfl) rfl rfl ?_
    refine aE (aF (aR ?_))
    refine cH (.slice _ _ _) rfl ?_
    exact ⟨⟨(some ⟨b1, 0, none⟩), n, n, e⟩, rfl, hq, hM5.keep [false, true]⟩
end Go.Proofs.YtlmcphcgiclanaaGreatDoor
