/- Part of the proof of the laws of this seat: S20c, S20d, S20e, S20f, S20g, S20h. No conditions. -/
import Derived.Test.YtlmcphcgiclanaaGreatDoorK5
import Derived.Test.YtlmcphcgiclanaaGreatDoorK20
import Derived.Test.YtlmcphcgiclanaaGreatDoorK18
import Derived.Test.YtlmcphcgiclanaaGreatDoorK24
import Derived.Test.YtlmcphcgiclanaaGreatDoorK26
set_option linter.unusedVariables false
set_option linter.unusedSimpArgs false
set_option linter.unnecessarySimpa false
namespace Go.Proofs.YtlmcphcgiclanaaGreatDoor
open Go.Bil
open Go.RowKit (Below)
open Go.Proofs
set_option maxHeartbeats 8000000 in
theorem aVm (w : World) (bs : Nat) (rx ry : Row) (F G : Body → Int) (A : Option Addr) (n c : Nat) (xs : List Body) (R : Rd w 10 A n (xs.map aI)) (hs : bW xs) (hb : ∀ b ∈ xs, Okb b) (hrx : bA 2 1 rx.A rx.n rx.c ((xs.map F).map bZ) rx.e) (hry : bA 2 1 ry.A ry.n ry.c ((xs.map G).map bZ) ry.e) (hF : ∀ b ∈ xs, -1152921504606846976 ≤ F b ∧ F b ≤ 1152921504606846976) (hG : ∀ b ∈ xs, -1152921504606846976 ≤ G b ∧ G b ≤ 1152921504606846976) (cn : Con) (hc : OkC xs cn) (hO : Own [(some bs, bc [.slice A n c, .slice rx.A rx.n rx.c, .slice ry.A ry.n ry.c] 246), rx.e, ry.e] w) (hdA : 0 < n → ∀ q off, A = some ⟨q, off, none⟩ → q ∉ bX [(some bs, bc [.slice A n c, .slice rx.A rx.n rx.c, .slice ry.A ry.n ry.c] 246), rx.e, ry.e]) :
    Calls Tryz.prog 177 #[.pointer (some ⟨bs, 0, none⟩), .agg (cJ cn).toArray] w (fun ex w' => ∃ v, ex = .returned v ∧ (fun v w' => v = .tuple #[] ∧ ∃ ex ey : dP, bA 2 1 rx.A rx.n rx.c ((xs.map (aBv xs (·.nx) cn F)).map bZ) ex ∧ bA 2 1 ry.A ry.n ry.c ((xs.map (aBv xs (·.ny) cn G)).map bZ) ey ∧ Mem w (bX [(some bs, bc [.slice A n c, .slice rx.A rx.n rx.c, .slice ry.A ry.n ry.c] 246), rx.e, ry.e]) [(some bs, bc [.slice A n c, .slice rx.A rx.n rx.c, .slice ry.A ry.n ry.c] 246), ex, ey] w') v w') := by
  have hlen : xs.length = n := by simpa using R.len
  have hbd := R.bound
  have hlx : xs.length = rx.n := by simpa using hrx.1
  have hly : xs.length = ry.n := by simpa using hry.1
  obtain ⟨pa, xa, hxa, hka, hla, hba, hma⟩ := oU hs hc.l
  obtain ⟨pb, xb, hxb, hkb, hlb, hbb, hmb⟩ := oU hs hc.h
  have hoa := hb xa hma
  have hob := hb xb hmb
  have hne := hc.ne
  have hpl := (List.getElem?_eq_some_iff.1 hxa).1
  have hpl2 := (List.getElem?_eq_some_iff.1 hxb).1
  have hpab : pa ≠ pb := fun g => by subst g; rw [hxa] at hxb; injection hxb with hxb; subst hxb; omega
  have ma := hoa.m
  have mb := hob.m
  have hra := vC hc.n hoa hob (m := xa.mass) (by omega)
  have hrb := vC hc.n hoa hob (m := xb.mass) (by omega)
  have gax := (lX hra.2.2 hc.n.x).2.2
  have gay := (lX hra.2.2 hc.n.y).2.2
  have gbx := (lX hrb.2.2 hc.n.x).2.2
  have gby := (lX hrb.2.2 hc.n.y).2.2
  have fa := hF xa hma
  have fb := hF xb hmb
  have ga := hG xa hma
  have gb := hG xb hmb
  have hFa : (xs.map F)[pa]? = some (F xa) := by rw [List.getElem?_map, hxa]; rfl
  have hGa : (xs.map G)[pa]? = some (G xa) := by rw [List.getElem?_map, hxa]; rfl
  have hFb : ((xs.map F).set pa (F xa - oC (lO cn xa xb) xa.mass cn.nx))[pb]? = some (F xb) := qL (by rw [List.getElem?_map, hxb]; rfl) hpab
  have hGb : ((xs.map G).set pa (G xa - oC (lO cn xa xb) xa.mass cn.ny))[pb]? = some (G xb) := qL (by rw [List.getElem?_map, hxb]; rfl) hpab
  refine aJ #[] 139 Tryz.func177 rfl Tryz.results177 Tryz.ntmps177 rfl ?_
  have M0 := hO.mem
  refine aG (aB ?_)
  refine bL (.agg (List.toArray _)) M0 rfl rfl rfl (fun b1 w1 M1 => ?_)
  refine aC (aF (aG ?_))
  refine bS [(0, 0), (1, 0), (2, 0), (3, 1), (4, 0), (5, 0), (6, 1), (7, 2), (8, 0), (9, 0), (10, 0), (11, 0), (12, 0)] mixed rfl (by kernel_rfl) (fun w2 hb2 hh2 => ?_)
  have M2 := M1.drew hb2 hh2
  refine aU rfl rfl rfl (fun _ => aD (.pointer _) rfl) ?_
  refine aU rfl rfl rfl (fun _ => aO rfl) ?_
  refine aU rfl rfl rfl (fun _ => aH 0 mM rfl) ?_
  refine cB rfl rfl rfl (aQ 0 (.slice _ _ _) eX M2 rfl rfl rfl) ?_
  refine aU rfl rfl rfl (fun _ => aH 0 qV rfl) ?_
  refine aU rfl rfl rfl (fun _ => aH 0 mQ rfl) ?_
  refine cB rfl rfl rfl (aQ 3 (.int _ _) bR M2 rfl rfl rfl) ?_
  refine dU [true, true] rfl (by kernel_rfl) ?_
  refine aK aCd rfl rfl rfl ?_
  refine (pH _ cn.low _ _ _ xs (R.memY M2 hdA) hs).mono ?_
  rintro _ w3 ⟨v3, rfl, ⟨rfl, hb3⟩⟩
  refine ⟨_, rfl, ?_⟩
  have M3 := M2.callB hb3
  refine aC (aF ⟨dV, ?_⟩)
  refine aU rfl rfl rfl (fun _ => aD (.tuple (List.toArray _)) rfl) ?_
  refine aU rfl rfl rfl (fun _ => bG (.int _ _) rfl rfl) ?_
  refine iL 20 (.int .i64 (pa : Int)) (iE (by rw [hla])) ?_
  refine aU rfl rfl rfl (fun _ => bG (.bool (decide _)) rfl rfl) ?_
  refine aU rfl rfl rfl (fun _ => aE (.int _ _) rfl) ?_
  refine aU rfl rfl rfl (fun _ => aE (.bool (decide _)) rfl) ?_
  refine cF ?_
  refine aF (aG ?_)
  refine bS [(0, 0), (1, 0), (2, 0), (3, 1), (4, 0), (5, 0), (6, 1), (7, 2), (8, 0), (9, 0), (10, 0), (11, 0), (12, 0)] mixed rfl (by kernel_rfl) (fun w4 hb4 hh4 => ?_)
  have M4 := M3.drew hb4 hh4
  refine aU rfl rfl rfl (fun _ => aD (.pointer _) rfl) ?_
  refine aU rfl rfl rfl (fun _ => aO rfl) ?_
  refine aU rfl rfl rfl (fun _ => aH 0 mM rfl) ?_
  refine cB rfl rfl rfl (aQ 0 (.slice _ _ _) eX M4 rfl rfl rfl) ?_
  refine aU rfl rfl rfl (fun _ => aH 0 qV rfl) ?_
  refine aU rfl rfl rfl (fun _ => aH 1 mR rfl) ?_
  refine cB rfl rfl rfl (aQ 3 (.int _ _) bR M4 rfl rfl rfl) ?_
  refine dU [true, true] rfl (by kernel_rfl) ?_
  refine aK aCd rfl rfl rfl ?_
  refine (pH _ cn.high _ _ _ xs (R.memY M4 hdA) hs).mono ?_
  rintro _ w5 ⟨v5, rfl, ⟨rfl, hb5⟩⟩
  refine ⟨_, rfl, ?_⟩
  have M5 := M4.callB hb5
  refine aC (aF ⟨dV, ?_⟩)
  refine aU rfl rfl rfl (fun _ => aD (.tuple (List.toArray _)) rfl) ?_
  refine aU rfl rfl rfl (fun _ => bG (.int _ _) rfl rfl) ?_
  refine iL 31 (.int .i64 (pb : Int)) (iE (by rw [hlb])) ?_
  refine aU rfl rfl rfl (fun _ => bG (.bool (decide _)) rfl rfl) ?_
  refine aU rfl rfl rfl (fun _ => aE (.int _ _) rfl) ?_
  refine aU rfl rfl rfl (fun _ => aE (.bool (decide _)) rfl) ?_
  refine cF ?_
  refine aF (aG ?_)
  refine bS [(0, 1), (1, 0), (2, 0), (3, 0), (4, 1), (5, 0), (6, 1), (7, 1), (8, 0), (9, 0), (10, 0), (11, 1), (12, 0), (13, 1), (14, 1), (15, 2), (16, 0)] mixed rfl (by kernel_rfl) (fun w6 hb6 hh6 => ?_)
  have M6 := M5.drew hb6 hh6
  refine cB rfl rfl rfl (bE 3 fX M6 rfl rfl rfl) ?_
  refine aU rfl rfl rfl (fun _ => aD (.pointer _) rfl) ?_
  refine aU rfl rfl rfl (fun _ => aO rfl) ?_
  refine aU rfl rfl rfl (fun _ => aH 0 mM rfl) ?_
  refine cB rfl rfl rfl (aQ 0 (.slice _ _ _) eX M6 rfl rfl rfl) ?_
  refine aU rfl rfl rfl (fun _ => aD (.int _ _) rfl) ?_
  refine cB rfl rfl rfl (bU (pa) dO rfl rfl rfl ((R.memY M6 hdA).below_len (aL aI hxa)) ((R.memY M6 hdA).someK (aL aI hxa))) ?_
  refine cB rfl rfl rfl (dS _ bO (R.memY M6 hdA) (aL aI hxa) rfl) ?_
  refine aU rfl rfl rfl (fun _ => aD (.pointer _) rfl) ?_
  refine aU rfl rfl rfl (fun _ => aO rfl) ?_
  refine aU rfl rfl rfl (fun _ => aH 0 mM rfl) ?_
  refine cB rfl rfl rfl (aQ 0 (.slice _ _ _) eX M6 rfl rfl rfl) ?_
  refine aU rfl rfl rfl (fun _ => aD (.int _ _) rfl) ?_
  refine cB rfl rfl rfl (bU (pb) dO rfl rfl rfl ((R.memY M6 hdA).below_len (aL aI hxb)) ((R.memY M6 hdA).someK (aL aI hxb))) ?_
  refine cB rfl rfl rfl (dS _ bO (R.memY M6 hdA) (aL aI hxb) rfl) ?_
  refine dU [true, true, true, true, true, true, true] rfl (by kernel_rfl) ?_
  refine aK bAe rfl rfl rfl ?_
  refine (aCk _ cn xa xb hc.n hoa hob).mono ?_
  rintro _ w7 ⟨v7, rfl, ⟨rfl, hb7⟩⟩
  refine ⟨_, rfl, ?_⟩
  have M7 := M6.callB hb7
  refine aC (aF ⟨dV, ?_⟩)
  refine aU rfl rfl rfl (fun _ => aE (.int _ _) rfl) ?_
  refine cF ?_
  refine aF (aG ?_)
  refine bS [(0, 0), (1, 0), (2, 0), (3, 0), (4, 1), (5, 0), (6, 1), (7, 1), (8, 1), (9, 0), (10, 1), (11, 2), (12, 0), (13, 0), (14, 0), (15, 0), (16, 0)] mixed rfl (by kernel_rfl) (fun w8 hb8 hh8 => ?_)
  have M8 := M7.drew hb8 hh8
  refine aU rfl rfl rfl (fun _ => aD (.int _ _) rfl) ?_
  refine aU rfl rfl rfl (fun _ => aD (.pointer _) rfl) ?_
  refine aU rfl rfl rfl (fun _ => aO rfl) ?_
  refine aU rfl rfl rfl (fun _ => aH 0 mM rfl) ?_
  refine cB rfl rfl rfl (aQ 0 (.slice _ _ _) eX M8 rfl rfl rfl) ?_
  refine aU rfl rfl rfl (fun _ => aD (.int _ _) rfl) ?_
  refine cB rfl rfl rfl (bU (pa) dO rfl rfl rfl ((R.memY M8 hdA).below_len (aL aI hxa)) ((R.memY M8 hdA).someK (aL aI hxa))) ?_
  refine cB rfl rfl rfl (bP 4 eM (R.memY M8 hdA) (Nat.lt_of_le_of_lt (Nat.zero_le _) ((R.memY M8 hdA).below_len (aL aI hxa))) rfl) ?_
  refine cB rfl rfl rfl (eH (o := 4) (.int _ _) aX (R.memY M8 hdA) (aL aI hxa) rfl rfl) ?_
  refine aU rfl rfl rfl (fun _ => aH 2 mH rfl) ?_
  refine cB rfl rfl rfl (qP 3 _ bJ M8 rfl rfl rfl rfl) ?_
  refine dU [true, true, true, true, true] rfl (by kernel_rfl) ?_
  refine aK aQa rfl rfl rfl ?_
  refine (wK _ (lO cn xa xb) xa.mass cn.nx cn.ny ⟨hra.1, hra.2.1⟩ (by omega) hra.2.2 hc.n.x hc.n.y).mono ?_
  rintro _ w9 ⟨v9, rfl, ⟨rfl, hb9⟩⟩
  refine ⟨_, rfl, ?_⟩
  have M9 := M8.callB hb9
  refine aC (aF ⟨dV, ?_⟩)
  refine aU rfl rfl rfl (fun _ => aD (.tuple (List.toArray _)) rfl) ?_
  refine aU rfl rfl rfl (fun _ => bG (.int _ _) rfl rfl) ?_
  refine aU rfl rfl rfl (fun _ => bG (.int _ _) rfl rfl) ?_
  refine aU rfl rfl rfl (fun _ => aE (.int _ _) rfl) ?_
  refine aU rfl rfl rfl (fun _ => aE (.int _ _) rfl) ?_
  refine cF ?_
  refine aF (aG ?_)
  refine bS [(0, 0), (1, 0), (2, 0), (3, 1), (4, 0), (5, 0), (6, 0), (7, 0), (8, 1), (9, 0), (10, 0), (11, 0), (12, 0), (13, 1), (14, 0), (15, 1), (16, 1), (17, 0), (18, 0), (19, 0), (20, 0), (21, 0), (22, 1), (23, 0), (24, 1), (25, 1), (26, 0), (27, 0), (28, 1), (29, 2), (30, 1), (31, 2)] mixed rfl (by kernel_rfl) (fun w10 hb10 hh10 => ?_)
  have M10 := M9.drew hb10 hh10
  refine aU rfl rfl rfl (fun _ => aD (.pointer _) rfl) ?_
  refine aU rfl rfl rfl (fun _ => aO rfl) ?_
  refine aU rfl rfl rfl (fun _ => aH 1 mJ rfl) ?_
  refine cB rfl rfl rfl (aQ 0 (.slice _ _ _) kB M10 rfl rfl rfl) ?_
  refine aU rfl rfl rfl (fun _ => aD (.int _ _) rfl) ?_
  refine aU rfl rfl rfl (fun _ => aD (.pointer _) rfl) ?_
  refine aU rfl rfl rfl (fun _ => aO rfl) ?_
  refine aU rfl rfl rfl (fun _ => aH 2 mI rfl) ?_
  refine cB rfl rfl rfl (aQ 0 (.slice _ _ _) kB M10 rfl rfl rfl) ?_
  refine aU rfl rfl rfl (fun _ => aD (.int _ _) rfl) ?_
  refine aU rfl rfl rfl (fun _ => aD (.pointer _) rfl) ?_
  refine aU rfl rfl rfl (fun _ => aO rfl) ?_
  refine aU rfl rfl rfl (fun _ => aH 1 mJ rfl) ?_
  refine cB rfl rfl rfl (aQ 0 (.slice _ _ _) kB M10 rfl rfl rfl) ?_
  refine aU rfl rfl rfl (fun _ => aD (.int _ _) rfl) ?_
  refine cB rfl rfl rfl (bU (pa) lS rfl rfl rfl ((hrx.rd M10 (bB (i := 1) rfl)).below_len (aL bZ hFa)) ((hrx.rd M10 (bB (i := 1) rfl)).someK (aL bZ hFa))) ?_
  refine cB rfl rfl rfl (iB (.int _ _) lB (hrx.rd M10 (bB (i := 1) rfl)) (aL bZ hFa) rfl) ?_
  refine aU rfl rfl rfl (fun _ => aD (.int _ _) rfl) ?_
  refine aU rfl rfl rfl (fun _ => mL rfl rfl (by omega) (by omega)) ?_
  refine aU rfl rfl rfl (fun _ => aD (.pointer _) rfl) ?_
  refine aU rfl rfl rfl (fun _ => aO rfl) ?_
  refine aU rfl rfl rfl (fun _ => aH 2 mI rfl) ?_
  refine cB rfl rfl rfl (aQ 0 (.slice _ _ _) kB M10 rfl rfl rfl) ?_
  refine aU rfl rfl rfl (fun _ => aD (.int _ _) rfl) ?_
  refine cB rfl rfl rfl (bU (pa) lS rfl rfl rfl ((hry.rd M10 (bB (i := 2) rfl)).below_len (aL bZ hGa)) ((hry.rd M10 (bB (i := 2) rfl)).someK (aL bZ hGa))) ?_
  refine cB rfl rfl rfl (iB (.int _ _) lB (hry.rd M10 (bB (i := 2) rfl)) (aL bZ hGa) rfl) ?_
  refine aU rfl rfl rfl (fun _ => aD (.int _ _) rfl) ?_
  refine aU rfl rfl rfl (fun _ => mL rfl rfl (by omega) (by omega)) ?_
  refine cB rfl rfl rfl (bU (pa) lS rfl rfl rfl ((hrx.rd M10 (bB (i := 1) rfl)).below_len (aL bZ hFa)) ((hrx.rd M10 (bB (i := 1) rfl)).someK (aL bZ hFa))) ?_
  refine dU [true, true, true, true, true, true, true, true, true] rfl (by kernel_rfl) ?_
  refine qX 1 (.int _ _) lB M10 rfl hrx (aL bZ hFa) rfl rfl rfl rfl (fun e11 w11 hR11 M11 => ?_)
  have hQ11 := hR11.mapSet (f := bZ) (x := F xa - oC (lO cn xa xb) xa.mass cn.nx) rfl
  refine aC (aF ⟨dV, ?_⟩)
  refine cB rfl rfl rfl (bU (pa) lS rfl rfl rfl ((hry.rd M11 (bB (i := 2) rfl)).below_len (aL bZ hGa)) ((hry.rd M11 (bB (i := 2) rfl)).someK (aL bZ hGa))) ?_
  refine dU [true] rfl (by kernel_rfl) ?_
  refine qX 2 (.int _ _) lB M11 rfl hry (aL bZ hGa) rfl rfl rfl rfl (fun e12 w12 hR12 M12 => ?_)
  have hQ12 := hR12.mapSet (f := bZ) (x := G xa - oC (lO cn xa xb) xa.mass cn.ny) rfl
  refine aC (aF ⟨dV, ?_⟩)
  refine cF ?_
  refine aF (aG ?_)
  refine bS [(0, 0), (1, 0), (2, 0), (3, 0), (4, 1), (5, 0), (6, 1), (7, 1), (8, 1), (9, 0), (10, 1), (11, 2), (12, 0), (13, 0), (14, 0), (15, 0), (16, 0)] mixed rfl (by kernel_rfl) (fun w13 hb13 hh13 => ?_)
  have M13 := M12.drew hb13 hh13
  refine aU rfl rfl rfl (fun _ => aD (.int _ _) rfl) ?_
  refine aU rfl rfl rfl (fun _ => aD (.pointer _) rfl) ?_
  refine aU rfl rfl rfl (fun _ => aO rfl) ?_
  refine aU rfl rfl rfl (fun _ => aH 0 mM rfl) ?_
  refine cB rfl rfl rfl (aQ 0 (.slice _ _ _) eX M13 rfl rfl rfl) ?_
  refine aU rfl rfl rfl (fun _ => aD (.int _ _) rfl) ?_
  refine cB rfl rfl rfl (bU (pb) dO rfl rfl rfl ((R.memY M13 hdA).below_len (aL aI hxb)) ((R.memY M13 hdA).someK (aL aI hxb))) ?_
  refine cB rfl rfl rfl (bP 4 eM (R.memY M13 hdA) (Nat.lt_of_le_of_lt (Nat.zero_le _) ((R.memY M13 hdA).below_len (aL aI hxb))) rfl) ?_
  refine cB rfl rfl rfl (eH (o := 4) (.int _ _) aX (R.memY M13 hdA) (aL aI hxb) rfl rfl) ?_
  refine aU rfl rfl rfl (fun _ => aH 2 mH rfl) ?_
  refine cB rfl rfl rfl (qP 3 _ bJ M13 rfl rfl rfl rfl) ?_
  refine dU [true, true, true, true, true] rfl (by kernel_rfl) ?_
  refine aK aQa rfl rfl rfl ?_
  refine (wK _ (lO cn xa xb) xb.mass cn.nx cn.ny ⟨hrb.1, hrb.2.1⟩ (by omega) hrb.2.2 hc.n.x hc.n.y).mono ?_
  rintro _ w14 ⟨v14, rfl, ⟨rfl, hb14⟩⟩
  refine ⟨_, rfl, ?_⟩
  have M14 := M13.callB hb14
  refine aC (aF ⟨dV, ?_⟩)
  refine aU rfl rfl rfl (fun _ => aD (.tuple (List.toArray _)) rfl) ?_
  refine aU rfl rfl rfl (fun _ => bG (.int _ _) rfl rfl) ?_
  refine aU rfl rfl rfl (fun _ => bG (.int _ _) rfl rfl) ?_
  refine aU rfl rfl rfl (fun _ => aE (.int _ _) rfl) ?_
  refine aU rfl rfl rfl (fun _ => aE (.int _ _) rfl) ?_
  refine cF ?_
  refine aF ?_
  refine bS [(0, 0), (1, 0), (2, 0), (3, 1), (4, 0), (5, 0), (6, 0), (7, 0), (8, 1), (9, 0), (10, 0), (11, 0), (12, 0), (13, 1), (14, 0), (15, 1), (16, 1), (17, 0), (18, 0), (19, 0), (20, 0), (21, 0), (22, 1), (23, 0), (24, 1), (25, 1), (26, 0), (27, 0), (28, 1), (29, 2), (30, 1), (31, 2)] mixed rfl (by kernel_rfl) (fun w15 hb15 hh15 => ?_)
  have M15 := M14.drew hb15 hh15
  refine aU rfl rfl rfl (fun _ => aD (.pointer _) rfl) ?_
  refine aU rfl rfl rfl (fun _ => aO rfl) ?_
  refine aU rfl rfl rfl (fun _ => aH 1 mJ rfl) ?_
  refine cB rfl rfl rfl (aQ 0 (.slice _ _ _) kB M15 rfl rfl rfl) ?_
  refine aU rfl rfl rfl (fun _ => aD (.int _ _) rfl) ?_
  refine aU rfl rfl rfl (fun _ => aD (.pointer _) rfl) ?_
  refine aU rfl rfl rfl (fun _ => aO rfl) ?_
  refine aU rfl rfl rfl (fun _ => aH 2 mI rfl) ?_
  refine cB rfl rfl rfl (aQ 0 (.slice _ _ _) kB M15 rfl rfl rfl) ?_
  refine aU rfl rfl rfl (fun _ => aD (.int _ _) rfl) ?_
  refine aU rfl rfl rfl (fun _ => aD (.pointer _) rfl) ?_
  refine aU rfl rfl rfl (fun _ => aO rfl) ?_
  refine aU rfl rfl rfl (fun _ => aH 1 mJ rfl) ?_
  refine cB rfl rfl rfl (aQ 0 (.slice _ _ _) kB M15 rfl rfl rfl) ?_
  refine aU rfl rfl rfl (fun _ => aD (.int _ _) rfl) ?_
  refine cB rfl rfl rfl (bU (pb) lS rfl rfl rfl ((hQ11.rd M15 (bB (i := 1) rfl)).below_len (aL bZ hFb)) ((hQ11.rd M15 (bB (i := 1) rfl)).someK (aL bZ hFb))) ?_
  refine cB rfl rfl rfl (iB (.int _ _) lB (hQ11.rd M15 (bB (i := 1) rfl)) (aL bZ hFb) rfl) ?_
  refine aU rfl rfl rfl (fun _ => aD (.int _ _) rfl) ?_
  refine aU rfl rfl rfl (fun _ => bM rfl rfl (by omega) (by omega)) ?_
  refine aU rfl rfl rfl (fun _ => aD (.pointer _) rfl) ?_
  refine aU rfl rfl rfl (fun _ => aO rfl) ?_
  refine aU rfl rfl rfl (fun _ => aH 2 mI rfl) ?_
  refine cB rfl rfl rfl (aQ 0 (.slice _ _ _) kB M15 rfl rfl rfl) ?_
  refine aU rfl rfl rfl (fun _ => aD (.int _ _) rfl) ?_
  refine cB rfl rfl rfl (bU (pb) lS rfl rfl rfl ((hQ12.rd M15 (bB (i := 2) rfl)).below_len (aL bZ hGb)) ((hQ12.rd M15 (bB (i := 2) rfl)).someK (aL bZ hGb))) ?_
  refine cB rfl rfl rfl (iB (.int _ _) lB (hQ12.rd M15 (bB (i := 2) rfl)) (aL bZ hGb) rfl) ?_
  refine aU rfl rfl rfl (fun _ => aD (.int _ _) rfl) ?_
  refine aU rfl rfl rfl (fun _ => bM rfl rfl (by omega) (by omega)) ?_
  refine cB rfl rfl rfl (bU (pb) lS rfl rfl rfl ((hQ11.rd M15 (bB (i := 1) rfl)).below_len (aL bZ hFb)) ((hQ11.rd M15 (bB (i := 1) rfl)).someK (aL bZ hFb))) ?_
  refine dU [true, true, true, true, true, true, true, true, true] rfl (by kernel_rfl) ?_
  refine qX 1 (.int _ _) lB M15 rfl hQ11 (aL bZ hFb) rfl rfl rfl rfl (fun e16 w16 hR16 M16 => ?_)
  have hQ16 := hR16.mapSet (f := bZ) (x := F xb + oC (lO cn xa xb) xb.mass cn.nx) rfl
  refine aC (aF ⟨dV, ?_⟩)
  refine cB rfl rfl rfl (bU (pb) lS rfl rfl rfl ((hQ12.rd M16 (bB (i := 2) rfl)).below_len (aL bZ hGb)) ((hQ12.rd M16 (bB (i := 2) rfl)).someK (aL bZ hGb))) ?_
  refine dU [true] rfl (by kernel_rfl) ?_
  refine qX 2 (.int _ _) lB M16 rfl hQ12 (aL bZ hGb) rfl rfl rfl rfl (fun e17 w17 hR17 M17 => ?_)
  have hQ17 := hR17.mapSet (f := bZ) (x := G xb + oC (lO cn xa xb) xb.mass cn.ny) rfl
  refine aC (aF ⟨dV, ?_⟩)
  refine cF ?_
  refine iD ?_
  exact ⟨rfl, e16, e17, by rw [← aKp hs hxa hxb hka hkb hc hba hbb]; exact hQ16, by rw [← aKp hs hxa hxb hka hkb hc hba hbb]; exact hQ17, M17.keep [true, true, true, false]⟩
end Go.Proofs.YtlmcphcgiclanaaGreatDoor

namespace Go.Proofs.YtlmcphcgiclanaaGreatDoor
open Go.Bil
open Go.RowKit (Below)
open Go.Proofs
set_option maxHeartbeats 4000000 in
theorem aFk (w : World) (bs : Nat) (rx ry : Row) (A : Option Addr) (n c : Nat) (xs : List Body) (R : Rd w 10 A n (xs.map aI)) (hs : bW xs) (hb : ∀ b ∈ xs, Okb b) (B : Option Addr) (mc c' : Nat) (cs : List Con) (R' : Rd w 5 B mc (cs.map cJ)) (hcs : ∀ c ∈ cs, OkC xs c) (hmc : mc ≤ 8589934592) (hrx : bA 2 1 rx.A rx.n rx.c ((xs.map (fun b => fK xs (cs.take 0) (·.nx) b)).map bZ) rx.e) (hry : bA 2 1 ry.A ry.n ry.c ((xs.map (fun b => fK xs (cs.take 0) (·.ny) b)).map bZ) ry.e) (hO : Own [(some bs, bc [.slice A n c, .slice rx.A rx.n rx.c, .slice ry.A ry.n ry.c] 246), rx.e, ry.e] w) (hdA : 0 < n → ∀ q off, A = some ⟨q, off, none⟩ → q ∉ bX [(some bs, bc [.slice A n c, .slice rx.A rx.n rx.c, .slice ry.A ry.n ry.c] 246), rx.e, ry.e]) (hdB : 0 < mc → ∀ q off, B = some ⟨q, off, none⟩ → q ∉ bX [(some bs, bc [.slice A n c, .slice rx.A rx.n rx.c, .slice ry.A ry.n ry.c] 246), rx.e, ry.e]) :
    Calls Tryz.prog 176 #[.slice B mc c', .func (.func 177) #[.pointer (some ⟨bs, 0, none⟩)] #[]] w (fun ex w' => ∃ v, ex = .returned v ∧ (fun v w' => v = .tuple #[] ∧ ∃ ex ey : dP, bA 2 1 rx.A rx.n rx.c ((xs.map (fun b => fK xs cs (·.nx) b)).map bZ) ex ∧ bA 2 1 ry.A ry.n ry.c ((xs.map (fun b => fK xs cs (·.ny) b)).map bZ) ey ∧ Mem w (bX [(some bs, bc [.slice A n c, .slice rx.A rx.n rx.c, .slice ry.A ry.n ry.c] 246), rx.e, ry.e]) [(some bs, bc [.slice A n c, .slice rx.A rx.n rx.c, .slice ry.A ry.n ry.c] 246), ex, ey] w') v w') := by
  have hlen : xs.length = n := by simpa using R.len
  have hbd := R.bound
  have hclen : cs.length = mc := by simpa using R'.len
  have hbd' := R'.bound
  refine aJ #[] 16 Tryz.func176 rfl Tryz.results176 Tryz.ntmps176 rfl ?_
  have M0 := hO.mem
  refine aG (aB ?_)
  refine aA (aD (.slice _ _ _) rfl) rfl rfl ?_
  refine aA (cT Tryz.underlying82 rfl) rfl rfl ?_
  refine aA (aD (.int _ _) rfl) rfl rfl ?_
  refine aC (aF (aV ?_))
  refine dK (σ := Nat × dP × dP) [1, 6, 7] (fun (k, ex, ey) => [(8, .int .i64 (k : Int))]) (fun (k, ex, ey) w' => (k ≤ mc ∧ bA 2 1 rx.A rx.n rx.c ((xs.map (fun b => fK xs (cs.take k) (·.nx) b)).map bZ) ex ∧ bA 2 1 ry.A ry.n ry.c ((xs.map (fun b => fK xs (cs.take k) (·.ny) b)).map bZ) ey) ∧ Mem w (bX [(some bs, bc [.slice A n c, .slice rx.A rx.n rx.c, .slice ry.A ry.n ry.c] 246), rx.e, ry.e]) [(some bs, bc [.slice A n c, .slice rx.A rx.n rx.c, .slice ry.A ry.n ry.c] 246), ex, ey] w') (fun (k, ex, ey) => mc - k) (0, rx.e, ry.e) (bK rfl eO) (⟨⟨by omega, hrx, hry⟩, M0⟩) ?_
  rintro ⟨k, ex, ey⟩ ρ1 w1 ⟨⟨hk, hqx, hqy⟩, hM1⟩
  refine aG (aB ?_)
  refine aA (aP (.bool (decide _)) rfl rfl rfl) rfl rfl ?_
  refine aC (aF (aG ?_))
  refine aZ rfl (fun h9 => ?_) (fun h9 => ?_)
  · obtain ⟨cn, hcn⟩ := cL (xs := cs) (k := k) hclen (by omega)
    have hkx : ∀ b ∈ xs, -1152921504606846976 ≤ fK xs (cs.take k) (·.nx) b ∧ fK xs (cs.take k) (·.nx) b ≤ 1152921504606846976 := fun b hbm => by have := qY (cs := cs.take k) (g := (·.nx)) hs hb (fun c h => hcs c (List.mem_of_mem_take h)) (fun c h => (hcs c (List.mem_of_mem_take h)).n.x) hbm; have := List.length_take_le k cs; omega
    have hky : ∀ b ∈ xs, -1152921504606846976 ≤ fK xs (cs.take k) (·.ny) b ∧ fK xs (cs.take k) (·.ny) b ≤ 1152921504606846976 := fun b hbm => by have := qY (cs := cs.take k) (g := (·.ny)) hs hb (fun c h => hcs c (List.mem_of_mem_take h)) (fun c h => (hcs c (List.mem_of_mem_take h)).n.y) hbm; have := List.length_take_le k cs; omega
    refine aN (aF (aG (aV (aG (aB ?_)))))
    refine aA (bU (k) aNw rfl rfl rfl ((R'.memY hM1 hdB).below_len (aL cJ hcn)) ((R'.memY hM1 hdB).someK (aL cJ hcn))) rfl rfl ?_
    refine aA (dS _ fX (R'.memY hM1 hdB) (aL cJ hcn) rfl) rfl rfl ?_
    refine aW rR hM1 rfl rfl (fun b2 w2 M2 => ?_)
    refine bH 3 _ fX M2 rfl rfl rfl rfl rfl (aY rfl) rfl (fun w3 M3 => ?_)
    refine aC (aF (aB ?_))
    refine aA (aD (.func _ _ _) rfl) rfl rfl ?_
    refine aA (bE 3 fX M3 rfl rfl rfl) rfl rfl ?_
    refine aK aYn rfl rfl rfl ?_
    refine (aVm _ bs ⟨rx.A, rx.n, rx.c, ex⟩ ⟨ry.A, ry.n, ry.c, ey⟩ (fun b => fK xs (cs.take k) (·.nx) b) (fun b => fK xs (cs.take k) (·.ny) b) A n c xs (R.memY M3 hdA) hs hb hqx hqy hkx hky cn (hcs cn (List.mem_of_getElem? hcn)) (M3.ownSeg 0 3) (M3.away 0 3 R hdA)).mono ?_
    rintro _ w4 ⟨v4, rfl, ⟨rfl, ex2, ey2, hqx2, hqy2, hM4⟩⟩
    refine ⟨_, rfl, ?_⟩
    have M4 : Mem _ _ [_, _, _, _] _ := M3.seg 0 3 hM4
    refine aC ?_
    refine dB ?_
    refine aF (aB ?_)
    refine aA (bM rfl rfl (by omega) (by omega)) rfl rfl ?_
    refine aA (aD (.int _ _) rfl) rfl rfl ?_
    refine aC ?_
    refine cO (k + 1, ex2, ey2) (bK rfl eO) (cS rfl (cS rfl (cS rfl jB))) ?_ ?_
    · exact ⟨⟨by omega, by rw [← aAk hcn]; exact hqx2, by rw [← aAk hcn]; exact hqy2⟩, M4.keep [true, true, true, false]⟩
    · (show mc - (k + 1) < mc - k; omega)
  · have hkn : k = mc := by omega
    rw [List.take_of_length_le (by omega)] at hqx hqy
    refine cP ?_
    refine dA ?_
    refine cZ ?_
    refine eQ ?_
    refine iD ?_
    exact ⟨rfl, ex, ey, hqx, hqy, hM1⟩
end Go.Proofs.YtlmcphcgiclanaaGreatDoor

namespace Go.Proofs.YtlmcphcgiclanaaGreatDoor
open Go.Bil
open Go.RowKit (Below)
open Go.Proofs
theorem Mem.rot3 {w0 w : World} {X : List Nat} {a b c : dP} (M : Mem w0 X [a, b, c] w) : Mem w0 X [c, b, a] w := M.perm (List.reverse_perm [a, b, c]).symm
theorem Mem.rot3' {w0 w : World} {X : List Nat} {a b c : dP} (M : Mem w0 X [a, b, c] w) : Mem w0 X [c, a, b] w := M.perm (List.perm_append_comm (l₁ := [a, b]) (l₂ := [c]))
theorem aXe {xs : List Body} {cs : List Con} {n : Nat} (hs : bW xs) (hb : ∀ b ∈ xs, Okb b) (hcs : ∀ c ∈ cs, OkC xs c) (hn : cs.length = n) (hl : n ≤ 8589934592) {b : Body} (h : b ∈ xs) : (-1152921504606846976 ≤ fK xs cs (·.nx) b ∧ fK xs cs (·.nx) b ≤ 1152921504606846976) ∧ -1152921504606846976 ≤ fK xs cs (·.ny) b ∧ fK xs cs (·.ny) b ≤ 1152921504606846976 := by
  have h1 := qY (cs := cs) (g := (·.nx)) hs hb hcs (fun c h => (hcs c h).n.x) h
  have h2 := qY (cs := cs) (g := (·.ny)) hs hb hcs (fun c h => (hcs c h).n.y) h
  omega
set_option maxHeartbeats 4000000 in
theorem aPw (w : World) (A : Option Addr) (n c : Nat) (xs : List Body) (R : Rd w 10 A n (xs.map aI)) (hs : bW xs) (hb : ∀ b ∈ xs, Okb b) (hn : n ≤ 1048576) (B : Option Addr) (mc c' : Nat) (cs : List Con) (R' : Rd w 5 B mc (cs.map cJ)) (hcs : ∀ c ∈ cs, OkC xs c) (hmc : mc ≤ 8589934592) :
    Calls Tryz.prog 138 #[.slice A n c, .slice B mc c'] w (fun ex w' => ∃ v, ex = .returned v ∧ (fun v w' => ∃ rx ry : Row, v = .tuple #[.slice rx.A rx.n rx.c, .slice ry.A ry.n ry.c] ∧ bA 2 1 rx.A rx.n rx.c ((xs.map (fun b => fK xs cs (·.nx) b)).map bZ) rx.e ∧ bA 2 1 ry.A ry.n ry.c ((xs.map (fun b => fK xs cs (·.ny) b)).map bZ) ry.e ∧ Mem w [] [rx.e, ry.e] w') v w') := by
  have hlen : xs.length = n := by simpa using R.len
  have hbd := R.bound
  have hclen : cs.length = mc := by simpa using R'.len
  have hbd' := R'.bound
  have hz0 : ∀ g : Con → Int, List.replicate n ([.int .i64 0] : List Value) = (xs.map (fun b => fK xs (cs.take 0) g b)).map bZ := fun g => by rw [aWt, aKo hlen (0 : Int)]; exact congrArg (List.map bZ) (List.map_congr_left (fun b _ => (aNm xs cs g b).symm))
  refine aJ #[.tmp 4, .tmp 5] 28 Tryz.func138 rfl Tryz.results138 Tryz.ntmps138 rfl ?_
  have M0 := Mem.refl w
  refine aG (aB ?_)
  refine aA (aE (.slice _ _ _) rfl) rfl rfl ?_
  refine aA (aE (.slice _ _ _) rfl) rfl rfl ?_
  refine aC (aF (aG ?_))
  refine aQx [(0, 0), (1, 0), (2, 0), (4, 0), (5, 0)] 3 6 [(6, 2), (7, 0), (8, 2), (9, 0)] [(3, 2), (7, 0), (8, 2), (9, 0)] mixed rfl (by kernel_rfl) (fun w1 hb1 hh1 => ?_)
  have M1 := M0.drew hb1 hh1
  refine sW rfl rfl rfl (fun _ => aD (.slice _ _ _) rfl) ?_
  refine sW rfl rfl rfl (fun _ => aD (.slice _ _ _) rfl) ?_
  refine sW rfl rfl rfl (fun _ => cT Tryz.underlying22 rfl) ?_
  refine sW rfl rfl rfl (fun _ => aD (.slice _ _ _) rfl) ?_
  refine sW rfl rfl rfl (fun _ => cT Tryz.underlying22 rfl) ?_
  refine aKv ?_ ?_
  · refine dU [] rfl (by kernel_rfl) ?_
    refine iW (n) [.int .i64 0] lS wH rfl M1 rfl rfl rfl rfl rfl rfl (by omega) (by omega) (fun b2 w2 M2 => ?_)
    have hL10 := jK (T := 2) (sz := 1) (b := b2) (nn := n) (List.replicate n [.int .i64 0]) (fun l hl => by rw [List.eq_of_mem_replicate hl]; rfl) (by simp) (by omega)
    rw [hz0 (·.nx)] at hL10
    rw [hz0 (·.nx)] at M2
    refine aC (aF ⟨dV, ?_⟩)
    refine dU [] rfl (by kernel_rfl) ?_
    refine iW (n) [.int .i64 0] lS wH rfl M2 rfl rfl rfl rfl rfl rfl (by omega) (by omega) (fun b3 w3 M3 => ?_)
    have hL13 := jK (T := 2) (sz := 1) (b := b3) (nn := n) (List.replicate n [.int .i64 0]) (fun l hl => by rw [List.eq_of_mem_replicate hl]; rfl) (by simp) (by omega)
    rw [hz0 (·.ny)] at hL13
    rw [hz0 (·.ny)] at M3
    refine aC (aF ⟨dV, ?_⟩)
    refine aU rfl rfl rfl (fun _ => cN [(0, .slice _ _ _), (1, .slice _ _ _), (2, .slice _ _ _)] _ aBj rfl rfl) ?_
    refine dU [] rfl (by kernel_rfl) ?_
    refine bL (.agg (List.toArray _)) M3 rfl rfl rfl (fun b4 w4 M4 => ?_)
    refine aC (aF ⟨dV, ?_⟩)
    refine aU rfl rfl rfl (fun _ => aE (.pointer _) rfl) ?_
    refine cF ?_
    refine aF (aG (aB ?_))
    refine aA (aD (.slice _ _ _) rfl) rfl rfl ?_
    refine aA (aD (.pointer _) rfl) rfl rfl ?_
    refine aA (cQ [.pointer _] [] rfl rfl) rfl rfl ?_
    have M5 : Mem _ _ [_, _, _] _ := Mem.rot3' M4
    refine aK aRp rfl rfl rfl ?_
    refine (aFk _ b4 ⟨some ⟨b2, 0, none⟩, n, n, (some b2, bc ((xs.map (fun b => fK xs (cs.take 0) (·.nx) b)).map bZ).flatten 2)⟩ ⟨some ⟨b3, 0, none⟩, n, n, (some b3, bc ((xs.map (fun b => fK xs (cs.take 0) (·.ny) b)).map bZ).flatten 2)⟩ A n c xs (R.mem M5) hs hb B mc c' cs (R'.mem M5) hcs hmc hL10 hL13 (M5.ownSeg 0 3) (M5.away 0 3 R (by simp)) (M5.away 0 3 R' (by simp))).mono ?_
    rintro _ w6 ⟨v6, rfl, ⟨rfl, ex, ey, hqx, hqy, hM6⟩⟩
    refine ⟨_, rfl, ?_⟩
    have M6 : Mem _ _ [_, _, _] _ := M5.seg 0 3 hM6
    refine aC (aF (aG ?_))
    refine bS [(0, 0), (1, 0), (2, 0), (3, 1), (4, 0), (5, 0), (6, 0), (7, 1), (8, 0), (9, 0)] mixed rfl (by kernel_rfl) (fun w7 hb7 hh7 => ?_)
    have M7 := M6.drew hb7 hh7
    refine aU rfl rfl rfl (fun _ => aD (.pointer _) rfl) ?_
    refine aU rfl rfl rfl (fun _ => aO rfl) ?_
    refine aU rfl rfl rfl (fun _ => aH 1 mJ rfl) ?_
    refine cB rfl rfl rfl (aQ 0 (.slice _ _ _) kB M7 rfl rfl rfl) ?_
    refine aU rfl rfl rfl (fun _ => aD (.pointer _) rfl) ?_
    refine aU rfl rfl rfl (fun _ => aO rfl) ?_
    refine aU rfl rfl rfl (fun _ => aH 2 mI rfl) ?_
    refine cB rfl rfl rfl (aQ 0 (.slice _ _ _) kB M7 rfl rfl rfl) ?_
    refine aU rfl rfl rfl (fun _ => aE (.slice _ _ _) rfl) ?_
    refine aU rfl rfl rfl (fun _ => aE (.slice _ _ _) rfl) ?_
    refine cF ?_
    refine aF (aR ?_)
    refine fZ (.slice _ _ _) (.slice _ _ _) rfl rfl ?_
    exact ⟨⟨(some ⟨b2, 0, none⟩), n, n, ex⟩, ⟨(some ⟨b3, 0, none⟩), n, n, ey⟩, rfl, hqx, hqy, M7.keep [false, true, true]⟩
  · refine dU [] rfl (by kernel_rfl) ?_
    refine iW (n) [.int .i64 0] lS wH rfl M1 rfl rfl rfl rfl rfl rfl (by omega) (by omega) (fun b8 w8 M8 => ?_)
    have hL13 := jK (T := 2) (sz := 1) (b := b8) (nn := n) (List.replicate n [.int .i64 0]) (fun l hl => by rw [List.eq_of_mem_replicate hl]; rfl) (by simp) (by omega)
    rw [hz0 (·.ny)] at hL13
    rw [hz0 (·.ny)] at M8
    refine aC (aF ⟨dV, ?_⟩)
    refine dU [] rfl (by kernel_rfl) ?_
    refine iW (n) [.int .i64 0] lS wH rfl M8 rfl rfl rfl rfl rfl rfl (by omega) (by omega) (fun b9 w9 M9 => ?_)
    have hL10 := jK (T := 2) (sz := 1) (b := b9) (nn := n) (List.replicate n [.int .i64 0]) (fun l hl => by rw [List.eq_of_mem_replicate hl]; rfl) (by simp) (by omega)
    rw [hz0 (·.nx)] at hL10
    rw [hz0 (·.nx)] at M9
    refine aC (aF ⟨dV, ?_⟩)
    refine aU rfl rfl rfl (fun _ => cN [(0, .slice _ _ _), (1, .slice _ _ _), (2, .slice _ _ _)] _ aBj rfl rfl) ?_
    refine dU [] rfl (by kernel_rfl) ?_
    refine bL (.agg (List.toArray _)) M9 rfl rfl rfl (fun b10 w10 M10 => ?_)
    refine aC (aF ⟨dV, ?_⟩)
    refine aU rfl rfl rfl (fun _ => aE (.pointer _) rfl) ?_
    refine cF ?_
    refine aF (aG (aB ?_))
    refine aA (aD (.slice _ _ _) rfl) rfl rfl ?_
    refine aA (aD (.pointer _) rfl) rfl rfl ?_
    refine aA (cQ [.pointer _] [] rfl rfl) rfl rfl ?_
    have M11 : Mem _ _ [_, _, _] _ := Mem.rot3 M10
    refine aK aRp rfl rfl rfl ?_
    refine (aFk _ b10 ⟨some ⟨b9, 0, none⟩, n, n, (some b9, bc ((xs.map (fun b => fK xs (cs.take 0) (·.nx) b)).map bZ).flatten 2)⟩ ⟨some ⟨b8, 0, none⟩, n, n, (some b8, bc ((xs.map (fun b => fK xs (cs.take 0) (·.ny) b)).map bZ).flatten 2)⟩ A n c xs (R.mem M11) hs hb B mc c' cs (R'.mem M11) hcs hmc hL10 hL13 (M11.ownSeg 0 3) (M11.away 0 3 R (by simp)) (M11.away 0 3 R' (by simp))).mono ?_
    rintro _ w12 ⟨v12, rfl, ⟨rfl, ex, ey, hqx, hqy, hM12⟩⟩
    refine ⟨_, rfl, ?_⟩
    have M12 : Mem _ _ [_, _, _] _ := M11.seg 0 3 hM12
    refine aC (aF (aG ?_))
    refine bS [(0, 0), (1, 0), (2, 0), (3, 1), (4, 0), (5, 0), (6, 0), (7, 1), (8, 0), (9, 0)] mixed rfl (by kernel_rfl) (fun w13 hb13 hh13 => ?_)
    have M13 := M12.drew hb13 hh13
    refine aU rfl rfl rfl (fun _ => aD (.pointer _) rfl) ?_
    refine aU rfl rfl rfl (fun _ => aO rfl) ?_
    refine aU rfl rfl rfl (fun _ => aH 1 mJ rfl) ?_
    refine cB rfl rfl rfl (aQ 0 (.slice _ _ _) kB M13 rfl rfl rfl) ?_
    refine aU rfl rfl rfl (fun _ => aD (.pointer _) rfl) ?_
    refine aU rfl rfl rfl (fun _ => aO rfl) ?_
    refine aU rfl rfl rfl (fun _ => aH 2 mI rfl) ?_
    refine cB rfl rfl rfl (aQ 0 (.slice _ _ _) kB M13 rfl rfl rfl) ?_
    refine aU rfl rfl rfl (fun _ => aE (.slice _ _ _) rfl) ?_
    refine aU rfl rfl rfl (fun _ => aE (.slice _ _ _) rfl) ?_
    refine cF ?_
    refine aF (aR ?_)
    refine fZ (.slice _ _ _) (.slice _ _ _) rfl rfl ?_
    exact ⟨⟨(some ⟨b9, 0, none⟩), n, n, ex⟩, ⟨(some ⟨b8, 0, none⟩), n, n, ey⟩, rfl, hqx, hqy, M13.keep [false, true, true]⟩
end Go.Proofs.YtlmcphcgiclanaaGreatDoor

namespace Go.Proofs.YtlmcphcgiclanaaGreatDoor
open Go.Bil
open Go.RowKit (Below)
open Go.Proofs
set_option maxHeartbeats 8000000 in
theorem aOc (w : World) (A : Option Addr) (n c : Nat) (xs : List Body) (R : Rd w 10 A n (xs.map aI)) (hs : bW xs) (hb : ∀ b ∈ xs, Okb b) (hn : n ≤ 1048576) (B : Option Addr) (mc c' : Nat) (cs : List Con) (R' : Rd w 5 B mc (cs.map cJ)) (hcs : ∀ c ∈ cs, OkC xs c) (hmc : mc ≤ 8589934592) :
    Calls Tryz.prog 108 #[.slice A n c, .slice B mc c'] w (fun ex w' => ∃ v, ex = .returned v ∧ (fun v w' => ∃ r : Row, v = .tuple #[.slice r.A r.n r.c, .bool (aSr xs cs)] ∧ bA 40 10 r.A r.n r.c ((aDf xs cs).map aI) r.e ∧ Mem w [] [r.e] w') v w') := by
  have hlen : xs.length = n := by simpa using R.len
  have hbd := R.bound
  have hclen : cs.length = mc := by simpa using R'.len
  have hbd' := R'.bound
  refine aJ #[.tmp 4, .tmp 5] 75 Tryz.func108 rfl Tryz.results108 Tryz.ntmps108 rfl ?_
  have M0 := Mem.refl w
  refine aG (aB ?_)
  refine aA (aE (.slice _ _ _) rfl) rfl rfl ?_
  refine aA (aE (.bool false) rfl) rfl rfl ?_
  refine aC (aF (aG (aB ?_)))
  refine aA (aD (.slice _ _ _) rfl) rfl rfl ?_
  refine aA (aD (.slice _ _ _) rfl) rfl rfl ?_
  refine aK aYs rfl rfl rfl ?_
  refine (aPw _ A n c xs (R.mem M0) hs hb hn B mc c' cs (R'.mem M0) hcs hmc).mono ?_
  rintro _ w1 ⟨v1, rfl, ⟨rx, ry, rfl, hrx, hry, hM1⟩⟩
  refine ⟨_, rfl, ?_⟩
  have M1 : Mem _ _ [_, _] _ := M0.call0 hM1
  have hrxn : xs.length = rx.n := by simpa using hrx.1
  have hryn : xs.length = ry.n := by simpa using hry.1
  refine aA (aD (.tuple (List.toArray _)) rfl) rfl rfl ?_
  refine aA (bG (.slice _ _ _) rfl rfl) rfl rfl ?_
  refine aA (bG (.slice _ _ _) rfl rfl) rfl rfl ?_
  refine aA (aE (.slice _ _ _) rfl) rfl rfl ?_
  refine aA (aE (.slice _ _ _) rfl) rfl rfl ?_
  refine aC (aF (aG (aB ?_)))
  refine aA (aE (.bool false) rfl) rfl rfl ?_
  refine aC (aF (aG (aB ?_)))
  refine aA (aE (.slice _ _ _) rfl) rfl rfl ?_
  have M2 := M1.dummy default
  refine aC (aF (aG (aG (aB ?_))))
  refine aA (aD (.slice _ _ _) rfl) rfl rfl ?_
  refine aA (cT Tryz.underlying22 rfl) rfl rfl ?_
  refine aA (aD (.int _ _) rfl) rfl rfl ?_
  refine aC (aF (aV ?_))
  refine dK (σ := Nat × Row) [4, 5, 6, 7, 22, 23] (fun (k, q) => [(8, .bool ((xs.take k).any (aUb xs cs))), (9, .slice q.A q.n q.c), (24, .int .i64 (k : Int))]) (fun (k, q) w' => (k ≤ n ∧ bA 40 10 q.A q.n q.c (((xs.take k).map (aDm xs cs)).map aI) q.e) ∧ Mem w [] [rx.e, ry.e, q.e] w') (fun (k, q) => n - k) (0, iK) (bK (bv rfl rfl) (bK rfl (bK rfl eO))) (⟨⟨by omega, bA.nil _ _ _⟩, M2⟩) ?_
  rintro ⟨k, q⟩ ρ3 w3 ⟨⟨hk, hq⟩, hM3⟩
  have htl := List.length_take_le k xs
  have hqn : (xs.take k).length = q.n := by simpa using hq.1
  refine aG (aB ?_)
  refine aA (aP (.bool (decide _)) rfl rfl rfl) rfl rfl ?_
  refine aC (aF (aG ?_))
  refine aZ rfl (fun h25 => ?_) (fun h25 => ?_)
  · obtain ⟨xb, hxb⟩ := cL (xs := xs) (k := k) hlen (by omega)
    have hxm := List.mem_of_getElem? hxb
    have hsb := aXe hs hb hcs hclen hmc hxm
    have hvb := (hb xb hxm).v
    have hlx := dZ (xb.vx + fK xs cs (·.nx) xb) (l := 16777216) (by decide)
    have hly := dZ (xb.vy + fK xs cs (·.ny) xb) (l := 16777216) (by decide)
    refine aN (aF (aG (aV (aG (aB ?_)))))
    refine aA (aD (.int _ _) rfl) rfl rfl ?_
    refine aA (bU (k) dO rfl rfl rfl ((R.mem hM3).below_len (aL aI hxb)) ((R.mem hM3).someK (aL aI hxb))) rfl rfl ?_
    refine aA (dS _ bO (R.mem hM3) (aL aI hxb) rfl) rfl rfl ?_
    refine aW gL hM3 rfl rfl (fun b4 w4 M4 => ?_)
    refine aA (aE (.int _ _) rfl) rfl rfl ?_
    refine bH 3 _ bO M4 rfl rfl rfl rfl rfl (aY rfl) rfl (fun w5 M5 => ?_)
    refine aC (aF (aG ?_))
    refine bS [(0, 0), (1, 0), (2, 1), (3, 0), (4, 0), (5, 0), (6, 1), (7, 1), (8, 0), (9, 2), (10, 0), (11, 0), (12, 0), (13, 0), (14, 0)] mixed rfl (by kernel_rfl) (fun w6 hb6 hh6 => ?_)
    have M6 := M5.drew hb6 hh6
    refine aU rfl rfl rfl (fun _ => aH 8 eN rfl) ?_
    refine aU rfl rfl rfl (fun _ => aH 0 dG rfl) ?_
    refine cB rfl rfl rfl (aQ 3 (.int _ _) aX M6 rfl rfl rfl) ?_
    refine aU rfl rfl rfl (fun _ => bV fL Tryz.underlying2 rfl (jY _ (by omega) (by omega))) ?_
    refine aU rfl rfl rfl (fun _ => aD (.slice _ _ _) rfl) ?_
    refine aU rfl rfl rfl (fun _ => aD (.int _ _) rfl) ?_
    refine cB rfl rfl rfl (bU (k) lS rfl rfl rfl ((hrx.rd M6 (bB (i := 0) rfl)).below_len (aL bZ (aL _ hxb))) ((hrx.rd M6 (bB (i := 0) rfl)).someK (aL bZ (aL _ hxb)))) ?_
    refine cB rfl rfl rfl (iB (.int _ _) lB (hrx.rd M6 (bB (i := 0) rfl)) (aL bZ (aL _ hxb)) rfl) ?_
    refine aU rfl rfl rfl (fun _ => bM rfl rfl (by omega) (by omega)) ?_
    refine dU [true, true, true] rfl (by kernel_rfl) ?_
    refine aK aIf rfl rfl rfl ?_
    refine (yE _ (xb.vx + fK xs cs (·.nx) xb) 16777216 ⟨by decide, by decide⟩).mono ?_
    rintro _ w7 ⟨v7, rfl, ⟨rfl, hb7⟩⟩
    refine ⟨_, rfl, ?_⟩
    have M7 := M6.callB hb7
    refine aC (aF ⟨dV, ?_⟩)
    refine aU rfl rfl rfl (fun _ => aD (.tuple (List.toArray _)) rfl) ?_
    refine aU rfl rfl rfl (fun _ => bG (.int _ _) rfl rfl) ?_
    refine aU rfl rfl rfl (fun _ => bG (.bool (decide _)) rfl rfl) ?_
    refine aU rfl rfl rfl (fun _ => aE (.int _ _) rfl) ?_
    refine aU rfl rfl rfl (fun _ => aE (.bool (decide _)) rfl) ?_
    refine cF ?_
    refine aF (aG ?_)
    refine bS [(0, 0), (1, 0), (2, 1), (3, 0), (4, 0), (5, 0), (6, 1), (7, 1), (8, 0), (9, 2), (10, 0), (11, 0), (12, 0), (13, 0), (14, 0)] mixed rfl (by kernel_rfl) (fun w8 hb8 hh8 => ?_)
    have M8 := M7.drew hb8 hh8
    refine aU rfl rfl rfl (fun _ => aH 8 eN rfl) ?_
    refine aU rfl rfl rfl (fun _ => aH 1 dC rfl) ?_
    refine cB rfl rfl rfl (aQ 3 (.int _ _) aX M8 rfl rfl rfl) ?_
    refine aU rfl rfl rfl (fun _ => bV fL Tryz.underlying2 rfl (jY _ (by omega) (by omega))) ?_
    refine aU rfl rfl rfl (fun _ => aD (.slice _ _ _) rfl) ?_
    refine aU rfl rfl rfl (fun _ => aD (.int _ _) rfl) ?_
    refine cB rfl rfl rfl (bU (k) lS rfl rfl rfl ((hry.rd M8 (bB (i := 1) rfl)).below_len (aL bZ (aL _ hxb))) ((hry.rd M8 (bB (i := 1) rfl)).someK (aL bZ (aL _ hxb)))) ?_
    refine cB rfl rfl rfl (iB (.int _ _) lB (hry.rd M8 (bB (i := 1) rfl)) (aL bZ (aL _ hxb)) rfl) ?_
    refine aU rfl rfl rfl (fun _ => bM rfl rfl (by omega) (by omega)) ?_
    refine dU [true, true, true] rfl (by kernel_rfl) ?_
    refine aK aIf rfl rfl rfl ?_
    refine (yE _ (xb.vy + fK xs cs (·.ny) xb) 16777216 ⟨by decide, by decide⟩).mono ?_
    rintro _ w9 ⟨v9, rfl, ⟨rfl, hb9⟩⟩
    refine ⟨_, rfl, ?_⟩
    have M9 := M8.callB hb9
    refine aC (aF ⟨dV, ?_⟩)
    refine aU rfl rfl rfl (fun _ => aD (.tuple (List.toArray _)) rfl) ?_
    refine aU rfl rfl rfl (fun _ => bG (.int _ _) rfl rfl) ?_
    refine aU rfl rfl rfl (fun _ => bG (.bool (decide _)) rfl rfl) ?_
    refine aU rfl rfl rfl (fun _ => aE (.int _ _) rfl) ?_
    refine aU rfl rfl rfl (fun _ => aE (.bool (decide _)) rfl) ?_
    refine cF ?_
    refine aF (aG (aB ?_))
    refine aA (aD (.int _ _) rfl) rfl rfl ?_
    refine aA (bV us2 Tryz.underlying21 rfl (kY _ (by omega) (by omega))) rfl rfl ?_
    refine aA (aD (.int _ _) rfl) rfl rfl ?_
    refine aA (bV us2 Tryz.underlying21 rfl (kY _ (by omega) (by omega))) rfl rfl ?_
    refine aA (cN [(0, .int _ _), (1, .int _ _)] _ eJ rfl rfl) rfl rfl ?_
    refine aA (aH 8 eN rfl) rfl rfl ?_
    refine aBw 3 _ bJ M9 rfl rfl rfl rfl rfl (aY rfl) (Nat.le_of_ble_eq_true rfl) (fun w10 M10 => ?_)
    refine aC (aF (aG (aB ?_)))
    refine aA (aD (.bool _) rfl) rfl rfl ?_
    refine aA (aD (.bool _) rfl) rfl rfl ?_
    refine mF 62 _ rfl (fun g62 => ?_) (fun g62 => ?_)
    · refine aS rfl rfl ?_
      refine aA (bN true (.bool true) rfl rfl) rfl rfl ?_
      refine aA (aD (.bool true) rfl) rfl rfl ?_
      refine aS rfl rfl ?_
      refine aA (bN true (.bool true) rfl rfl) rfl rfl ?_
      refine aA (aE (.bool true) rfl) rfl rfl ?_
      refine aC (aF (aB ?_))
      refine aA (aD (.slice _ _ _) rfl) rfl rfl ?_
      refine aA (bE 3 bO M10 rfl rfl rfl) rfl rfl ?_
      refine cR [.agg (List.toArray _)] [aI (aDm xs cs xb)] rfl dO M10 rfl rfl rfl rfl (cW rfl) (by decide) (fun b11 w11 M11 => ?_)
      refine dL 2 [aI (aDm xs cs xb)] dO M11 rfl rfl rfl rfl rfl hq rfl (by simp [aI, Go.Bil.one]) (cX.ofMem 4 M11 rfl) (by omega) (fun A12 c12 e12 w12 M12 hR12 => ?_)
      refine aA (aE (.slice _ _ _) rfl) rfl rfl ?_
      refine aC ?_
      refine dB ?_
      refine aF (aB ?_)
      refine aA (bM rfl rfl (by omega) (by omega)) rfl rfl ?_
      refine aA (aD (.int _ _) rfl) rfl rfl ?_
      refine aC ?_
      refine cO (k + 1, ⟨A12, q.n + 1, c12, e12⟩) (bK (bv rfl (by rw [cV hxb, List.any_append, List.any_cons, List.any_nil, Bool.or_false]; rw [g62, Bool.true_or])) (bK rfl (bK rfl eO))) (cS rfl (cS rfl (cS rfl (cS rfl (cS rfl (cS rfl jB)))))) ?_ ?_
      · exact ⟨⟨by omega, by rw [cV hxb, List.map_append, List.map_append]; exact hR12⟩, M12.keep [true, true, true, false, false]⟩
      · (show n - (k + 1) < n - k; omega)
    · refine aA (aD (.bool (decide _)) rfl) rfl rfl ?_
      refine aA (bN false (.bool (decide _)) rfl rfl) rfl rfl ?_
      refine aA (aD (.bool (decide _)) rfl) rfl rfl ?_
      refine cY 65 rfl (fun g65 => ?_) (fun g65 => ?_)
      · refine aS rfl rfl ?_
        refine aA (bN true (.bool true) rfl rfl) rfl rfl ?_
        refine aA (aE (.bool true) rfl) rfl rfl ?_
        refine aC (aF (aB ?_))
        refine aA (aD (.slice _ _ _) rfl) rfl rfl ?_
        refine aA (bE 3 bO M10 rfl rfl rfl) rfl rfl ?_
        refine cR [.agg (List.toArray _)] [aI (aDm xs cs xb)] rfl dO M10 rfl rfl rfl rfl (cW rfl) (by decide) (fun b13 w13 M13 => ?_)
        refine dL 2 [aI (aDm xs cs xb)] dO M13 rfl rfl rfl rfl rfl hq rfl (by simp [aI, Go.Bil.one]) (cX.ofMem 4 M13 rfl) (by omega) (fun A14 c14 e14 w14 M14 hR14 => ?_)
        refine aA (aE (.slice _ _ _) rfl) rfl rfl ?_
        refine aC ?_
        refine dB ?_
        refine aF (aB ?_)
        refine aA (bM rfl rfl (by omega) (by omega)) rfl rfl ?_
        refine aA (aD (.int _ _) rfl) rfl rfl ?_
        refine aC ?_
        refine cO (k + 1, ⟨A14, q.n + 1, c14, e14⟩) (bK (bv rfl (by rw [cV hxb, List.any_append, List.any_cons, List.any_nil, Bool.or_false]; rw [g62]; simp [aUb, g65])) (bK rfl (bK rfl eO))) (cS rfl (cS rfl (cS rfl (cS rfl (cS rfl (cS rfl jB)))))) ?_ ?_
        · exact ⟨⟨by omega, by rw [cV hxb, List.map_append, List.map_append]; exact hR14⟩, M14.keep [true, true, true, false, false]⟩
        · (show n - (k + 1) < n - k; omega)
      · refine aA (aD (.bool (decide _)) rfl) rfl rfl ?_
        refine aA (bN false (.bool (decide _)) rfl rfl) rfl rfl ?_
        refine aA (aE (.bool (decide _)) rfl) rfl rfl ?_
        refine aC (aF (aB ?_))
        refine aA (aD (.slice _ _ _) rfl) rfl rfl ?_
        refine aA (bE 3 bO M10 rfl rfl rfl) rfl rfl ?_
        refine cR [.agg (List.toArray _)] [aI (aDm xs cs xb)] rfl dO M10 rfl rfl rfl rfl (cW rfl) (by decide) (fun b15 w15 M15 => ?_)
        refine dL 2 [aI (aDm xs cs xb)] dO M15 rfl rfl rfl rfl rfl hq rfl (by simp [aI, Go.Bil.one]) (cX.ofMem 4 M15 rfl) (by omega) (fun A16 c16 e16 w16 M16 hR16 => ?_)
        refine aA (aE (.slice _ _ _) rfl) rfl rfl ?_
        refine aC ?_
        refine dB ?_
        refine aF (aB ?_)
        refine aA (bM rfl rfl (by omega) (by omega)) rfl rfl ?_
        refine aA (aD (.int _ _) rfl) rfl rfl ?_
        refine aC ?_
        refine cO (k + 1, ⟨A16, q.n + 1, c16, e16⟩) (bK (bv rfl (by rw [cV hxb, List.any_append, List.any_cons, List.any_nil, Bool.or_false]; rw [g62]; simp [aUb, g65])) (bK rfl (bK rfl eO))) (cS rfl (cS rfl (cS rfl (cS rfl (cS rfl (cS rfl jB)))))) ?_ ?_
        · exact ⟨⟨by omega, by rw [cV hxb, List.map_append, List.map_append]; exact hR16⟩, M16.keep [true, true, true, false, false]⟩
        · (show n - (k + 1) < n - k; omega)
  · have hkn : k = n := by omega
    rw [List.take_of_length_le (by omega)] at hq
    refine cP ?_
    refine dA ?_
    refine cZ ?_
    refine eQ ?_
    refine aF (aG (aB ?_))
    refine aA (aD (.slice _ _ _) rfl) rfl rfl ?_
    refine aA (aD (.bool _) rfl) rfl rfl ?_
    refine aA (aE (.slice _ _ _) rfl) rfl rfl ?_
    refine aA (aE (.bool _) rfl) rfl rfl ?_
    refine aC (aF (aR ?_))
    refine fZ (.slice _ _ _) (.bool _) rfl rfl ?_
    exact ⟨q, zJ rfl (congrArg Value.bool (by rw [List.take_of_length_le (by omega)]; rfl)), hq, hM3.keep [false, false, true]⟩
set_option maxHeartbeats 4000000 in
theorem aNa (w : World) (A : Option Addr) (n c : Nat) (xs : List Body) (R : Rd w 10 A n (xs.map aI)) (hs : bW xs) (hb : ∀ b ∈ xs, Okb b) (hn : n ≤ 1048576) (B : Option Addr) (mc c' : Nat) (cs : List Con) (R' : Rd w 5 B mc (cs.map cJ)) (hcs : ∀ c ∈ cs, OkC xs c) (hmc : mc ≤ 8589934592) :
    Calls Tryz.prog 73 #[.slice A n c, .slice B mc c'] w (fun ex w' => ∃ v, ex = .returned v ∧ (fun v w' => ∃ r : Row, v = .tuple #[.slice r.A r.n r.c, .bool (gP xs cs 4).2] ∧ bA 40 10 r.A r.n r.c (((gP xs cs 4).1).map aI) r.e ∧ Mem w [] [r.e] w') v w') := by
  have hlen : xs.length = n := by simpa using R.len
  have hbd := R.bound
  have hclen : cs.length = mc := by simpa using R'.len
  have hbd' := R'.bound
  refine aJ #[.tmp 4, .tmp 5] 25 Tryz.func73 rfl Tryz.results73 Tryz.ntmps73 rfl ?_
  have M0 := Mem.refl w
  refine aG (aB ?_)
  refine aA (aE (.slice _ _ _) rfl) rfl rfl ?_
  refine aA (aE (.bool false) rfl) rfl rfl ?_
  refine aC (aF (aG (aB ?_)))
  refine aA (aE (.bool false) rfl) rfl rfl ?_
  have M1 := M0.dummy default
  refine aC (aF (aG (aG (aB ?_))))
  refine aA (aD (.int _ _) rfl) rfl rfl ?_
  refine aC (aF (aV ?_))
  refine dK (σ := Nat × Row) [1, 4, 5] (fun (k, q) => [(0, .slice q.A q.n q.c), (6, .bool (gP xs cs k).2), (9, .int .i64 (k : Int))]) (fun (k, q) w' => (k ≤ 4 ∧ Rd w' 10 q.A q.n ((gP xs cs k).1.map aI) ∧ (0 < k → bA 40 10 q.A q.n q.c (((gP xs cs k).1).map aI) q.e)) ∧ Mem w [] [q.e] w') (fun (k, q) => 4 - k) (0, ⟨A, n, c, (none, default)⟩) (bK rfl (bK (bv rfl rfl) (bK rfl eO))) (⟨⟨by omega, R.mem M1, (fun h => absurd h (by omega))⟩, M1⟩) ?_
  rintro ⟨k, q⟩ ρ2 w2 ⟨⟨hk, hRq, hq⟩, hM2⟩
  have hql : (gP xs cs k).1.length = q.n := by simpa using hRq.len
  have hsl := (jF xs cs k).len
  refine aG (aB ?_)
  refine aA (aP (.bool (decide _)) rfl rfl rfl) rfl rfl ?_
  refine aC (aF (aG ?_))
  refine aZ rfl (fun h10 => ?_) (fun h10 => ?_)
  · refine aN (aF (aG (aV (aG (aB ?_)))))
    refine aA (aD (.slice _ _ _) rfl) rfl rfl ?_
    refine aA (aD (.slice _ _ _) rfl) rfl rfl ?_
    refine aK bBc rfl rfl rfl ?_
    refine (aOc _ q.A q.n q.c (gP xs cs k).1 hRq ((jF xs cs k).sorted hs) (rB hb k) (by omega) B mc c' cs (R'.mem hM2) (fun c h => (jF xs cs k).okc (hcs c h)) hmc).mono ?_
    rintro _ w3 ⟨v3, rfl, ⟨r, rfl, hr, hM3⟩⟩
    refine ⟨_, rfl, ?_⟩
    have M3 : Mem _ _ [_, _] _ := hM2.call0 hM3
    refine aA (aD (.tuple (List.toArray _)) rfl) rfl rfl ?_
    refine aA (bG (.slice _ _ _) rfl rfl) rfl rfl ?_
    refine aA (bG (.bool _) rfl rfl) rfl rfl ?_
    refine aA (aE (.slice _ _ _) rfl) rfl rfl ?_
    refine aA (aE (.bool _) rfl) rfl rfl ?_
    refine aC (aF (aB ?_))
    refine aA (aD (.slice _ _ _) rfl) rfl rfl ?_
    refine aA (aD (.bool _) rfl) rfl rfl ?_
    refine aA (aD (.bool _) rfl) rfl rfl ?_
    refine mF 19 _ rfl (fun g19 => ?_) (fun g19 => ?_)
    · refine aS rfl rfl ?_
      refine aA (bN true (.bool true) rfl rfl) rfl rfl ?_
      refine aA (aE (.slice _ _ _) rfl) rfl rfl ?_
      refine aA (aE (.bool true) rfl) rfl rfl ?_
      refine aC ?_
      refine dB ?_
      refine aF (aB ?_)
      refine aA (bM rfl rfl (by omega) (by omega)) rfl rfl ?_
      refine aA (aD (.int _ _) rfl) rfl rfl ?_
      refine aC ?_
      refine cO (k + 1, r) (bK rfl (bK (bv rfl (by show true = (_ || _); rw [g19, Bool.true_or])) (bK rfl eO))) (cS rfl (cS rfl (cS rfl jB))) ?_ ?_
      · exact ⟨⟨by omega, hr.rd M3 (bB (i := 1) rfl), (fun _ => hr)⟩, M3.keep [false, true]⟩
      · (show 4 - (k + 1) < 4 - k; omega)
    · refine aA (aD (.bool _) rfl) rfl rfl ?_
      refine aA (bN false (.bool _) rfl rfl) rfl rfl ?_
      refine aA (aE (.slice _ _ _) rfl) rfl rfl ?_
      refine aA (aE (.bool _) rfl) rfl rfl ?_
      refine aC ?_
      refine dB ?_
      refine aF (aB ?_)
      refine aA (bM rfl rfl (by omega) (by omega)) rfl rfl ?_
      refine aA (aD (.int _ _) rfl) rfl rfl ?_
      refine aC ?_
      refine cO (k + 1, r) (bK rfl (bK (bv rfl (by show _ = (_ || _); rw [g19, Bool.false_or])) (bK rfl eO))) (cS rfl (cS rfl (cS rfl jB))) ?_ ?_
      · exact ⟨⟨by omega, hr.rd M3 (bB (i := 1) rfl), (fun _ => hr)⟩, M3.keep [false, true]⟩
      · (show 4 - (k + 1) < 4 - k; omega)
  · have hk4 : k = 4 := by omega
    rw [hk4] at hq
    refine cP ?_
    refine dA ?_
    refine cZ ?_
    refine eQ ?_
    refine aF (aG (aB ?_))
    refine aA (aD (.slice _ _ _) rfl) rfl rfl ?_
    refine aA (aD (.bool _) rfl) rfl rfl ?_
    refine aA (aE (.slice _ _ _) rfl) rfl rfl ?_
    refine aA (aE (.bool _) rfl) rfl rfl ?_
    refine aC (aF (aR ?_))
    refine fZ (.slice _ _ _) (.bool _) rfl rfl ?_
    exact ⟨q, zJ rfl (congrArg Value.bool (by rw [hk4])), hq (by omega), hM2⟩
end Go.Proofs.YtlmcphcgiclanaaGreatDoor

namespace Go.Proofs.YtlmcphcgiclanaaGreatDoor
open Go.Bil
open Go.RowKit (Below)
open Go.Proofs
set_option maxHeartbeats 4000000 in
theorem xF (w : World) (c : Con) (a b : Body) (hc : Okn c) (ha : Okb a) (hb : Okb b) :
    Calls Tryz.prog 142 #[.agg (cJ c).toArray, (.agg (aI a).toArray), (.agg (aI b).toArray)] w (fun ex w' => ∃ v, ex = .returned v ∧ (fun v w' => v = .int .i64 (oB c a b) ∧ Below w.heap.size w w') v w') := by
  have hdp := hc.d
  have hm1 := ha.m
  have hm2 := hb.m
  refine aJ #[.tmp 6] 27 Tryz.func142 rfl Tryz.results142 Tryz.ntmps142 rfl ?_
  have M0 := Mem.refl w
  refine aG (aB ?_)
  refine bL (.agg (List.toArray _)) M0 rfl rfl rfl (fun b1 w1 M1 => ?_)
  refine bL (.agg (List.toArray _)) M1 rfl rfl rfl (fun b2 w2 M2 => ?_)
  refine bL (.agg (List.toArray _)) M2 rfl rfl rfl (fun b3 w3 M3 => ?_)
  refine aA (aE (.int _ _) rfl) rfl rfl ?_
  refine aC (aF (aG (aB ?_)))
  refine aA (aH 4 aSu rfl) rfl rfl ?_
  refine aA (aQ 0 (.int _ _) aX M3 rfl rfl rfl) rfl rfl ?_
  refine aA (bV fL Tryz.underlying2 rfl (jY _ (by omega) (by omega))) rfl rfl ?_
  refine aA (mL rfl rfl (by omega) (by omega)) rfl rfl ?_
  refine aA (aE (.int _ _) rfl) rfl rfl ?_
  refine aC (aF (aG (aG (aB ?_))))
  refine aA (aD (.int _ _) rfl) rfl rfl ?_
  refine aA (aP (.bool (decide _)) rfl rfl rfl) rfl rfl ?_
  refine aA (aD (.bool (decide _)) rfl) rfl rfl ?_
  refine cY 14 rfl (fun g14 => ?_) (fun g14 => ?_)
  · refine aS rfl rfl ?_
    refine aS rfl rfl ?_
    refine aS rfl rfl ?_
    refine aS rfl rfl ?_
    refine aS rfl rfl ?_
    refine aS rfl rfl ?_
    refine aS rfl rfl ?_
    refine aS rfl rfl ?_
    refine aA (bN true (.bool true) rfl rfl) rfl rfl ?_
    refine aC (aF ?_)
    refine cK rfl ?_
    refine aG (aB ?_)
    refine aA (aE (.int _ _) rfl) rfl rfl ?_
    refine aC (aF (aR (cC ?_)))
    refine bY (.int _ _) rfl ?_
    exact ⟨iE (by unfold oB; rw [if_pos (by omega)]), M3.below⟩
  · refine aA (aH 4 eM rfl) rfl rfl ?_
    refine aA (aQ 1 (.int _ _) aX M3 rfl rfl rfl) rfl rfl ?_
    refine aA (aP (.bool (decide _)) rfl rfl rfl) rfl rfl ?_
    refine aA (aD (.bool (decide _)) rfl) rfl rfl ?_
    refine cY 18 rfl (fun g18 => ?_) (fun g18 => ?_)
    · refine aA (aH 4 eM rfl) rfl rfl ?_
      refine aA (aQ 2 (.int _ _) aX M3 rfl rfl rfl) rfl rfl ?_
      refine aA (aP (.bool (decide _)) rfl rfl rfl) rfl rfl ?_
      refine aA (bN true (.bool (decide _)) rfl rfl) rfl rfl ?_
      refine aA (bN false (.bool (decide _)) rfl rfl) rfl rfl ?_
      refine aC (aF ?_)
      refine aZ rfl (fun h23 => ?_) (fun h23 => ?_)
      · refine aG (aB ?_)
        refine aA (aE (.int _ _) rfl) rfl rfl ?_
        refine aC (aF (aR (cC ?_)))
        refine bY (.int _ _) rfl ?_
        exact ⟨iE (by unfold oB; rw [if_pos (by omega)]), M3.below⟩
      · refine aN (aF (aG (aB ?_)))
        refine aA (aD (.int _ _) rfl) rfl rfl ?_
        refine aA (fR rfl rfl (by omega) (by omega)) rfl rfl ?_
        refine aA (gA rfl rfl (by decide)) rfl rfl ?_
        refine aA (aE (.int _ _) rfl) rfl rfl ?_
        refine aC (aF (aR ?_))
        refine bY (.int _ _) rfl ?_
        exact ⟨iE (by unfold oB; rw [if_neg (by omega)]; exact lV _), M3.below⟩
    · refine aS rfl rfl ?_
      refine aS rfl rfl ?_
      refine aS rfl rfl ?_
      refine aA (bN false (.bool false) rfl rfl) rfl rfl ?_
      refine aA (bN false (.bool false) rfl rfl) rfl rfl ?_
      refine aC (aF ?_)
      refine cH rfl ?_
      refine aN (aF (aG (aB ?_)))
      refine aA (aD (.int _ _) rfl) rfl rfl ?_
      refine aA (fR rfl rfl (by omega) (by omega)) rfl rfl ?_
      refine aA (gA rfl rfl (by decide)) rfl rfl ?_
      refine aA (aE (.int _ _) rfl) rfl rfl ?_
      refine aC (aF (aR ?_))
      refine bY (.int _ _) rfl ?_
      exact ⟨iE (by unfold oB; rw [if_neg (by omega)]; exact lV _), M3.below⟩
set_option maxHeartbeats 4000000 in
theorem aAb (w : World) (c : Con) (a b : Body) (hc : Okn c) (ha : Okb a) (hb : Okb b) (hi : Bool) :
    Calls Tryz.prog 111 #[.agg (cJ c).toArray, (.agg (aI a).toArray), (.agg (aI b).toArray), .bool hi] w (fun ex w' => ∃ v, ex = .returned v ∧ (fun v w' => v = .int .i64 (nQ c a b (if hi = true then b.mass else a.mass)) ∧ Below w.heap.size w w') v w') := by
  have hdp := hc.d
  have hm1 := ha.m
  have hm2 := hb.m
  have hm0 : 0 ≤ (if hi = true then b.mass else a.mass) ∧ (if hi = true then b.mass else a.mass) ≤ 1048576 := by split <;> omega
  have hsr := aVj (a := a) (b := b) hc hm0
  have har := aBz (a := a) (b := b) hc
  refine aJ #[.tmp 8] 36 Tryz.func111 rfl Tryz.results111 Tryz.ntmps111 rfl ?_
  have M0 := Mem.refl w
  refine aG (aB ?_)
  refine bL (.agg (List.toArray _)) M0 rfl rfl rfl (fun b1 w1 M1 => ?_)
  refine bL (.agg (List.toArray _)) M1 rfl rfl rfl (fun b2 w2 M2 => ?_)
  refine bL (.agg (List.toArray _)) M2 rfl rfl rfl (fun b3 w3 M3 => ?_)
  refine aA (aE (.int _ _) rfl) rfl rfl ?_
  refine aC (aF (aG (aB ?_)))
  refine aA (aH 4 eM rfl) rfl rfl ?_
  refine aA (aQ 1 (.int _ _) aX M3 rfl rfl rfl) rfl rfl ?_
  refine aA (aE (.int _ _) rfl) rfl rfl ?_
  refine aC (aF (aG (aG (aB ?_))))
  refine aA (aD (.bool _) rfl) rfl rfl ?_
  refine aC (aF ?_)
  refine gK _ rfl (fun h14 => ?_) (fun h14 => ?_)
  · refine aB ?_
    refine aA (aH 4 eM rfl) rfl rfl ?_
    refine aA (aQ 2 (.int _ _) aX M3 rfl rfl rfl) rfl rfl ?_
    refine aA (aE (.int _ _) rfl) rfl rfl ?_
    refine aC (aF (aG ?_))
    refine bS [(0, 1), (1, 1), (2, 1), (4, 0), (5, 0), (6, 0), (7, 1), (8, 0), (9, 0), (10, 1), (11, 0), (12, 0), (13, 0), (3, 2), (14, 2), (15, 0), (16, 0), (17, 0), (18, 0), (19, 0)] mixed rfl (by kernel_rfl) (fun w4 hb4 hh4 => ?_)
    have M4 := M3.drew hb4 hh4
    refine cB rfl rfl rfl (bE 0 fX M4 rfl rfl rfl) ?_
    refine cB rfl rfl rfl (bE 1 bO M4 rfl rfl rfl) ?_
    refine cB rfl rfl rfl (bE 2 bO M4 rfl rfl rfl) ?_
    refine aU rfl rfl rfl (fun _ => aD (.int _ _) rfl) ?_
    refine aU rfl rfl rfl (fun _ => bV fL Tryz.underlying2 rfl (jY _ (by omega) (by omega))) ?_
    refine iL 23 (.int .i64 (if hi = true then b.mass else a.mass)) (iE (by rw [h14]; rfl)) ?_
    refine aU rfl rfl rfl (fun _ => aH 4 eM rfl) ?_
    refine cB rfl rfl rfl (aQ 1 (.int _ _) aX M4 rfl rfl rfl) ?_
    refine aU rfl rfl rfl (fun _ => bV fL Tryz.underlying2 rfl (jY _ (by omega) (by omega))) ?_
    refine aU rfl rfl rfl (fun _ => aH 4 eM rfl) ?_
    refine cB rfl rfl rfl (aQ 2 (.int _ _) aX M4 rfl rfl rfl) ?_
    refine aU rfl rfl rfl (fun _ => bV fL Tryz.underlying2 rfl (jY _ (by omega) (by omega))) ?_
    refine aU rfl rfl rfl (fun _ => bM rfl rfl (by omega) (by omega)) ?_
    refine aU rfl rfl rfl (fun _ => nE rfl rfl ) ?_
    refine dU [false, false, true, true, true] rfl (by kernel_rfl) ?_
    refine aK aTl rfl rfl rfl ?_
    refine (xF _ c a b hc ha hb).mono ?_
    rintro _ w5 ⟨v5, rfl, ⟨rfl, hb5⟩⟩
    refine ⟨_, rfl, ?_⟩
    have M5 := M4.callB hb5
    refine aC (aF ⟨(eS (bQ rfl (aQ 2 (.int _ _) aX M5 rfl rfl rfl)) (eS (bQ rfl (aQ 1 (.int _ _) aX M5 rfl rfl rfl)) dV)), ?_⟩)
    refine dU [true, true] rfl (by kernel_rfl) ?_
    refine aK aBn rfl rfl rfl ?_
    refine (aCc _ (oB c a b) (if hi = true then b.mass else a.mass) (max 1 (a.mass + b.mass)) (by omega) hm0.1 (by omega) (by omega) (by omega) (by omega) (by omega)).mono ?_
    rintro _ w6 ⟨v6, rfl, ⟨rfl, hb6⟩⟩
    refine ⟨_, rfl, ?_⟩
    have M6 := M5.callB hb6
    refine aC (aF ⟨dV, ?_⟩)
    refine aU rfl rfl rfl (fun _ => aD (.tuple (List.toArray _)) rfl) ?_
    refine aU rfl rfl rfl (fun _ => bG (.int _ _) rfl rfl) ?_
    refine aU rfl rfl rfl (fun _ => bG (.int _ _) rfl rfl) ?_
    refine aU rfl rfl rfl (fun _ => aE (.int _ _) rfl) ?_
    refine aU rfl rfl rfl (fun _ => aE (.int _ _) rfl) ?_
    refine cF ?_
    refine aF (aG (aB ?_))
    refine aA (aD (.int _ _) rfl) rfl rfl ?_
    refine aA (aE (.int _ _) rfl) rfl rfl ?_
    refine aC (aF (aR ?_))
    refine bY (.int _ _) rfl ?_
    exact ⟨rfl, M6.below⟩
  · refine aN (aF (aG ?_))
    refine bS [(0, 1), (1, 1), (2, 1), (4, 0), (5, 0), (6, 0), (7, 1), (8, 0), (9, 0), (10, 1), (11, 0), (12, 0), (13, 0), (3, 2), (14, 2), (15, 0), (16, 0), (17, 0), (18, 0), (19, 0)] mixed rfl (by kernel_rfl) (fun w7 hb7 hh7 => ?_)
    have M7 := M3.drew hb7 hh7
    refine cB rfl rfl rfl (bE 0 fX M7 rfl rfl rfl) ?_
    refine cB rfl rfl rfl (bE 1 bO M7 rfl rfl rfl) ?_
    refine cB rfl rfl rfl (bE 2 bO M7 rfl rfl rfl) ?_
    refine aU rfl rfl rfl (fun _ => aD (.int _ _) rfl) ?_
    refine aU rfl rfl rfl (fun _ => bV fL Tryz.underlying2 rfl (jY _ (by omega) (by omega))) ?_
    refine iL 23 (.int .i64 (if hi = true then b.mass else a.mass)) (iE (by rw [h14]; rfl)) ?_
    refine aU rfl rfl rfl (fun _ => aH 4 eM rfl) ?_
    refine cB rfl rfl rfl (aQ 1 (.int _ _) aX M7 rfl rfl rfl) ?_
    refine aU rfl rfl rfl (fun _ => bV fL Tryz.underlying2 rfl (jY _ (by omega) (by omega))) ?_
    refine aU rfl rfl rfl (fun _ => aH 4 eM rfl) ?_
    refine cB rfl rfl rfl (aQ 2 (.int _ _) aX M7 rfl rfl rfl) ?_
    refine aU rfl rfl rfl (fun _ => bV fL Tryz.underlying2 rfl (jY _ (by omega) (by omega))) ?_
    refine aU rfl rfl rfl (fun _ => bM rfl rfl (by omega) (by omega)) ?_
    refine aU rfl rfl rfl (fun _ => nE rfl rfl ) ?_
    refine dU [false, false, true, true, true] rfl (by kernel_rfl) ?_
    refine aK aTl rfl rfl rfl ?_
    refine (xF _ c a b hc ha hb).mono ?_
    rintro _ w8 ⟨v8, rfl, ⟨rfl, hb8⟩⟩
    refine ⟨_, rfl, ?_⟩
    have M8 := M7.callB hb8
    refine aC (aF ⟨(eS (bQ rfl (aQ 2 (.int _ _) aX M8 rfl rfl rfl)) (eS (bQ rfl (aQ 1 (.int _ _) aX M8 rfl rfl rfl)) dV)), ?_⟩)
    refine dU [true, true] rfl (by kernel_rfl) ?_
    refine aK aBn rfl rfl rfl ?_
    refine (aCc _ (oB c a b) (if hi = true then b.mass else a.mass) (max 1 (a.mass + b.mass)) (by omega) hm0.1 (by omega) (by omega) (by omega) (by omega) (by omega)).mono ?_
    rintro _ w9 ⟨v9, rfl, ⟨rfl, hb9⟩⟩
    refine ⟨_, rfl, ?_⟩
    have M9 := M8.callB hb9
    refine aC (aF ⟨dV, ?_⟩)
    refine aU rfl rfl rfl (fun _ => aD (.tuple (List.toArray _)) rfl) ?_
    refine aU rfl rfl rfl (fun _ => bG (.int _ _) rfl rfl) ?_
    refine aU rfl rfl rfl (fun _ => bG (.int _ _) rfl rfl) ?_
    refine aU rfl rfl rfl (fun _ => aE (.int _ _) rfl) ?_
    refine aU rfl rfl rfl (fun _ => aE (.int _ _) rfl) ?_
    refine cF ?_
    refine aF (aG (aB ?_))
    refine aA (aD (.int _ _) rfl) rfl rfl ?_
    refine aA (aE (.int _ _) rfl) rfl rfl ?_
    refine aC (aF (aR ?_))
    refine bY (.int _ _) rfl ?_
    exact ⟨rfl, M9.below⟩
set_option maxHeartbeats 4000000 in
theorem wI (w : World) (bo bk : Nat) (cn : Con) (q : Row) (l : List (Int × Int)) (hq : bA 135 2 q.A q.n q.c ((l).map cI) q.e) (p : Nat) (s z : Int) (f : Int × Int) (hp : l[p]? = some f) (hs : 0 ≤ s ∧ s ≤ 1073741824) (hz : z = 1 ∨ z = -1) (hc : Okn cn) (hf : (-1152921504606846976 ≤ f.1 ∧ f.1 ≤ 1152921504606846976) ∧ -1152921504606846976 ≤ f.2 ∧ f.2 ≤ 1152921504606846976) (hO : Own [(some bo, bc [.slice q.A q.n q.c] 97), q.e, (some bk, bc (cJ cn) 121)] w) :
    Calls Tryz.prog 110 #[.int .i64 (p : Int), .int .i64 s, .int .i64 z, .pointer (some ⟨bo, 0, none⟩), .pointer (some ⟨bk, 0, none⟩)] w (fun ex w' => ∃ v, ex = .returned v ∧ (fun v w' => v = .tuple #[] ∧ ∃ e : dP, bA 135 2 q.A q.n q.c ((l.set p (aDt s z cn f)).map cI) e ∧ Mem w (bX [(some bo, bc [.slice q.A q.n q.c] 97), q.e, (some bk, bc (cJ cn) 121)]) [(some bo, bc [.slice q.A q.n q.c] 97), e, (some bk, bc (cJ cn) 121)] w') v w') := by
  have hcx := hc.x
  have hcy := hc.y
  have hl : l.length = q.n := by simpa using hq.1
  have hpl := (List.getElem?_eq_some_iff.1 hp).1
  have r1 := pI hs hc.x
  have r2 := pI hs hc.y
  have hp2 : (l.set p (f.1 + z * (s * cn.nx / 65536), f.2))[p]? = some (f.1 + z * (s * cn.nx / 65536), f.2) := by rw [List.getElem?_set_self hpl]
  have z1 : -1073741824 ≤ z * (s * cn.nx / 65536) ∧ z * (s * cn.nx / 65536) ≤ 1073741824 := by rcases hz with rfl | rfl <;> omega
  have z2 : -1073741824 ≤ z * (s * cn.ny / 65536) ∧ z * (s * cn.ny / 65536) ≤ 1073741824 := by rcases hz with rfl | rfl <;> omega
  refine aJ #[] 42 Tryz.func110 rfl Tryz.results110 Tryz.ntmps110 rfl ?_
  have M0 := hO.mem
  refine aG ?_
  refine bS [(0, 1), (1, 0), (2, 1), (3, 1), (4, 1), (5, 0), (6, 0), (7, 0), (8, 0), (9, 1), (10, 0), (11, 0), (12, 0), (13, 0), (14, 0), (15, 1), (16, 1), (17, 2)] mixed rfl (by kernel_rfl) (fun w1 hb1 hh1 => ?_)
  have M1 := M0.drew hb1 hh1
  refine cB rfl rfl rfl (aQ 0 (.slice _ _ _) zR M1 rfl rfl rfl) ?_
  refine aU rfl rfl rfl (fun _ => aD (.int _ _) rfl) ?_
  refine cB rfl rfl rfl (bU (p) aIx rfl rfl rfl ((hq.rd M1 (bB (i := 1) rfl)).below_len (aL cI hp)) ((hq.rd M1 (bB (i := 1) rfl)).someK (aL cI hp))) ?_
  refine cB rfl rfl rfl (bP 0 wU (hq.rd M1 (bB (i := 1) rfl)) (Nat.lt_of_le_of_lt (Nat.zero_le _) ((hq.rd M1 (bB (i := 1) rfl)).below_len (aL cI hp))) rfl) ?_
  refine cB rfl rfl rfl (eH (o := 0) (.int _ _) lB (hq.rd M1 (bB (i := 1) rfl)) (aL cI hp) rfl rfl) ?_
  refine aU rfl rfl rfl (fun _ => aD (.int _ _) rfl) ?_
  refine aU rfl rfl rfl (fun _ => aD (.int _ _) rfl) ?_
  refine aU rfl rfl rfl (fun _ => aH 2 mH rfl) ?_
  refine aU rfl rfl rfl (fun _ => aH 0 dG rfl) ?_
  refine cB rfl rfl rfl (aQ 2 (.int _ _) aX M1 rfl rfl rfl) ?_
  refine aU rfl rfl rfl (fun _ => bV fL Tryz.underlying2 rfl (jY _ (by omega) (by omega))) ?_
  refine aU rfl rfl rfl (fun _ => fR rfl rfl (by omega) (by omega)) ?_
  refine aU rfl rfl rfl (fun _ => gA rfl rfl (by decide)) ?_
  refine iL 20 (.int .i64 (s * cn.nx / 65536)) (iE (lV _)) ?_
  refine aU rfl rfl rfl (fun _ => fR rfl rfl (by omega) (by omega)) ?_
  refine aU rfl rfl rfl (fun _ => bM rfl rfl (by omega) (by omega)) ?_
  refine cB rfl rfl rfl (bU (p) aIx rfl rfl rfl ((hq.rd M1 (bB (i := 1) rfl)).below_len (aL cI hp)) ((hq.rd M1 (bB (i := 1) rfl)).someK (aL cI hp))) ?_
  refine cB rfl rfl rfl (bP 0 wU (hq.rd M1 (bB (i := 1) rfl)) (Nat.lt_of_le_of_lt (Nat.zero_le _) ((hq.rd M1 (bB (i := 1) rfl)).below_len (aL cI hp))) rfl) ?_
  refine dU [true, true, true, true, true, true, true] rfl (by kernel_rfl) ?_
  refine vF (o := 0) 1 (.int _ _) lB M1 rfl hq (aL cI hp) rfl rfl rfl rfl rfl (fun e2 w2 hR2 M2 => ?_)
  have hQ2 := hR2.mapSet (f := cI) (x := (f.1 + z * (s * cn.nx / 65536), f.2)) rfl
  refine aC (aF ⟨dV, ?_⟩)
  refine cF ?_
  refine aF ?_
  refine bS [(0, 1), (1, 0), (2, 1), (3, 1), (4, 1), (5, 0), (6, 0), (7, 0), (8, 0), (9, 1), (10, 0), (11, 0), (12, 0), (13, 0), (14, 0), (15, 1), (16, 1), (17, 2)] mixed rfl (by kernel_rfl) (fun w3 hb3 hh3 => ?_)
  have M3 := M2.drew hb3 hh3
  refine cB rfl rfl rfl (aQ 0 (.slice _ _ _) zR M3 rfl rfl rfl) ?_
  refine aU rfl rfl rfl (fun _ => aD (.int _ _) rfl) ?_
  refine cB rfl rfl rfl (bU (p) aIx rfl rfl rfl ((hQ2.rd M3 (bB (i := 1) rfl)).below_len (aL cI hp2)) ((hQ2.rd M3 (bB (i := 1) rfl)).someK (aL cI hp2))) ?_
  refine cB rfl rfl rfl (bP 1 yA (hQ2.rd M3 (bB (i := 1) rfl)) (Nat.lt_of_le_of_lt (Nat.zero_le _) ((hQ2.rd M3 (bB (i := 1) rfl)).below_len (aL cI hp2))) rfl) ?_
  refine cB rfl rfl rfl (eH (o := 1) (.int _ _) lB (hQ2.rd M3 (bB (i := 1) rfl)) (aL cI hp2) rfl rfl) ?_
  refine aU rfl rfl rfl (fun _ => aD (.int _ _) rfl) ?_
  refine aU rfl rfl rfl (fun _ => aD (.int _ _) rfl) ?_
  refine aU rfl rfl rfl (fun _ => aH 2 mH rfl) ?_
  refine aU rfl rfl rfl (fun _ => aH 1 dC rfl) ?_
  refine cB rfl rfl rfl (aQ 2 (.int _ _) aX M3 rfl rfl rfl) ?_
  refine aU rfl rfl rfl (fun _ => bV fL Tryz.underlying2 rfl (jY _ (by omega) (by omega))) ?_
  refine aU rfl rfl rfl (fun _ => fR rfl rfl (by omega) (by omega)) ?_
  refine aU rfl rfl rfl (fun _ => gA rfl rfl (by decide)) ?_
  refine iL 37 (.int .i64 (s * cn.ny / 65536)) (iE (lV _)) ?_
  refine aU rfl rfl rfl (fun _ => fR rfl rfl (by omega) (by omega)) ?_
  refine aU rfl rfl rfl (fun _ => bM rfl rfl (by omega) (by omega)) ?_
  refine cB rfl rfl rfl (bU (p) aIx rfl rfl rfl ((hQ2.rd M3 (bB (i := 1) rfl)).below_len (aL cI hp2)) ((hQ2.rd M3 (bB (i := 1) rfl)).someK (aL cI hp2))) ?_
  refine cB rfl rfl rfl (bP 1 yA (hQ2.rd M3 (bB (i := 1) rfl)) (Nat.lt_of_le_of_lt (Nat.zero_le _) ((hQ2.rd M3 (bB (i := 1) rfl)).below_len (aL cI hp2))) rfl) ?_
  refine dU [true, true, true, true, true, true, true] rfl (by kernel_rfl) ?_
  refine vF (o := 1) 1 (.int _ _) lB M3 rfl hQ2 (aL cI hp2) rfl rfl rfl rfl rfl (fun e4 w4 hR4 M4 => ?_)
  have hQ4 := hR4.mapSet (f := cI) (x := aDt s z cn f) rfl
  rw [List.set_set] at hQ4
  refine aC (aF ⟨dV, ?_⟩)
  refine cF ?_
  refine iD ?_
  exact ⟨rfl, e4, hQ4, M4⟩
end Go.Proofs.YtlmcphcgiclanaaGreatDoor

namespace Go.Proofs.YtlmcphcgiclanaaGreatDoor
open Go.Bil
open Go.RowKit (Below)
open Go.Proofs
theorem Mem.swap2 {w0 w : World} {X : List Nat} {a b : dP} (M : Mem w0 X [a, b] w) : Mem w0 X [b, a] w := M.perm (List.Perm.swap b a [])
theorem aCs {xs : List Body} {cs : List Con} {n : Nat} (hs : bW xs) (hb : ∀ b ∈ xs, Okb b) (hcs : ∀ c ∈ cs, OkC xs c) (hn : cs.length = n) (hl : n ≤ 1073741824) (k : Nat) {b : Body} (h : b ∈ xs) : (-1152921504606846976 ≤ (iF xs (cs.take k) b).1 ∧ (iF xs (cs.take k) b).1 ≤ 1152921504606846976) ∧ -1152921504606846976 ≤ (iF xs (cs.take k) b).2 ∧ (iF xs (cs.take k) b).2 ≤ 1152921504606846976 := by
  have ht : (cs.take k).length ≤ cs.length := by rw [List.length_take]; omega
  have h1 := aDz (cs := cs.take k) (g := (·.nx)) hs hb (fun c h => hcs c (List.mem_of_mem_take h)) (fun c h => (hcs c (List.mem_of_mem_take h)).n.x) h
  have h2 := aDz (cs := cs.take k) (g := (·.ny)) hs hb (fun c h => hcs c (List.mem_of_mem_take h)) (fun c h => (hcs c (List.mem_of_mem_take h)).n.y) h
  unfold iF
  simp only
  omega
set_option maxHeartbeats 8000000 in
theorem aIk (w : World) (A : Option Addr) (n c : Nat) (xs : List Body) (R : Rd w 10 A n (xs.map aI)) (hs : bW xs) (hb : ∀ b ∈ xs, Okb b) (hn : n ≤ 1048576) (B : Option Addr) (mc c' : Nat) (cs : List Con) (R' : Rd w 5 B mc (cs.map cJ)) (hcs : ∀ c ∈ cs, OkC xs c) (hmc : mc ≤ 1073741824) :
    Calls Tryz.prog 74 #[.slice A n c, .slice B mc c'] w (fun ex w' => ∃ v, ex = .returned v ∧ (fun v w' => ∃ r : Row, v = .slice r.A r.n r.c ∧ bA 135 2 r.A r.n r.c ((xs.map (iF xs cs)).map cI) r.e ∧ Mem w [] [r.e] w') v w') := by
  have hlen : xs.length = n := by simpa using R.len
  have hbd := R.bound
  have hclen : cs.length = mc := by simpa using R'.len
  have hbd' := R'.bound
  have hz0 : List.replicate n ([.int .i64 0, .int .i64 0] : List Value) = (xs.map (iF xs (cs.take 0))).map cI := by rw [aUi, aKo hlen ((0, 0) : Int × Int)]; exact congrArg (List.map cI) (List.map_congr_left (fun b _ => Prod.ext (zV xs cs (·.nx) b).symm (zV xs cs (·.ny) b).symm))
  refine aJ #[.tmp 4] 67 Tryz.func74 rfl Tryz.results74 Tryz.ntmps74 rfl ?_
  have M0 := Mem.refl w
  refine aG (aB ?_)
  refine aA (aE (.slice _ _ _) rfl) rfl rfl ?_
  refine aC (aF (aG (aB ?_)))
  refine aA (aD (.slice _ _ _) rfl) rfl rfl ?_
  refine aA (cT Tryz.underlying22 rfl) rfl rfl ?_
  refine iW (n) [.int .i64 0, .int .i64 0] aIx aVv rfl M0 rfl rfl rfl rfl rfl rfl (by omega) (by omega) (fun b1 w1 M1 => ?_)
  have hL15 := jK (T := 135) (sz := 2) (b := b1) (nn := n) (List.replicate n [.int .i64 0, .int .i64 0]) (fun l hl => by rw [List.eq_of_mem_replicate hl]; rfl) (by simp) (by omega)
  rw [hz0] at hL15
  rw [hz0] at M1
  refine aW aYw M1 rfl rfl (fun b2 w2 M2 => ?_)
  refine dX 1 (.slice _ _ _) zR M2 rfl rfl rfl rfl rfl rfl (fun w3 M3 => ?_)
  refine aC (aF (aG (aG (aB ?_))))
  have M4 : Mem _ _ [_, _] _ := Mem.swap2 M3
  refine aA (aD (.slice _ _ _) rfl) rfl rfl ?_
  refine aA (cT Tryz.underlying82 rfl) rfl rfl ?_
  refine aA (aD (.int _ _) rfl) rfl rfl ?_
  refine aC (aF (aV ?_))
  refine dK (σ := Nat × dP) [0, 4, 5, 16, 17] (fun (k, e) => [(18, .int .i64 (k : Int))]) (fun (k, e) w' => (k ≤ mc ∧ bA 135 2 (some ⟨b1, 0, none⟩) n n ((xs.map (iF xs (cs.take k))).map cI) e) ∧ Mem w [] [(some b2, bc [.slice (some ⟨b1, 0, none⟩) n n] 97), e] w') (fun (k, e) => mc - k) (0, (some b1, bc ((xs.map (iF xs (cs.take 0))).map cI).flatten 135)) (bK rfl eO) (⟨⟨by omega, hL15⟩, M4⟩) ?_
  rintro ⟨k, e⟩ ρ5 w5 ⟨⟨hk, hq⟩, hM5⟩
  refine aG (aB ?_)
  refine aA (aP (.bool (decide _)) rfl rfl rfl) rfl rfl ?_
  refine aC (aF (aG ?_))
  refine aZ rfl (fun h19 => ?_) (fun h19 => ?_)
  · obtain ⟨cn, hcn⟩ := cL (xs := cs) (k := k) hclen (by omega)
    have hc := hcs cn (List.mem_of_getElem? hcn)
    obtain ⟨pa, xa, hxa, hka, hla, hba, hma⟩ := oU hs hc.l
    obtain ⟨pb, xb, hxb, hkb, hlb, hbb, hmb⟩ := oU hs hc.h
    have hoa := hb xa hma
    have hob := hb xb hmb
    have hne := hc.ne
    have ma := hoa.m
    have mb := hob.m
    have hpab : pa ≠ pb := fun g => by subst g; rw [hxa] at hxb; injection hxb with hxb; subst hxb; omega
    refine aN (aF (aG (aV (aG (aB ?_)))))
    refine aA (bU (k) aNw rfl rfl rfl ((R'.mem hM5).below_len (aL cJ hcn)) ((R'.mem hM5).someK (aL cJ hcn))) rfl rfl ?_
    refine aA (dS _ fX (R'.mem hM5) (aL cJ hcn) rfl) rfl rfl ?_
    refine aW rR hM5 rfl rfl (fun b6 w6 M6 => ?_)
    refine bH 2 _ fX M6 rfl rfl rfl rfl rfl (aY rfl) rfl (fun w7 M7 => ?_)
    refine aC (aF (aG (aB ?_)))
    refine aA (aD (.slice _ _ _) rfl) rfl rfl ?_
    refine aA (aH 0 qV rfl) rfl rfl ?_
    refine aA (aH 0 mQ rfl) rfl rfl ?_
    refine aA (aQ 2 (.int _ _) bR M7 rfl rfl rfl) rfl rfl ?_
    refine aK aCd rfl rfl rfl ?_
    refine (pH _ cn.low _ _ _ xs (R.mem M7) hs).mono ?_
    rintro _ w8 ⟨v8, rfl, ⟨rfl, hb8⟩⟩
    refine ⟨_, rfl, ?_⟩
    have M8 := M7.callB hb8
    refine aA (aD (.tuple (List.toArray _)) rfl) rfl rfl ?_
    refine aA (bG (.int _ _) rfl rfl) rfl rfl ?_
    refine aM 28 (.int .i64 (pa : Int)) (iE (by rw [hla])) ?_
    refine aA (bG (.bool (decide _)) rfl rfl) rfl rfl ?_
    refine aA (aE (.int _ _) rfl) rfl rfl ?_
    refine aA (aE (.bool (decide _)) rfl) rfl rfl ?_
    refine aC (aF (aG (aB ?_)))
    refine aA (aD (.slice _ _ _) rfl) rfl rfl ?_
    refine aA (aH 0 qV rfl) rfl rfl ?_
    refine aA (aH 1 mR rfl) rfl rfl ?_
    refine aA (aQ 2 (.int _ _) bR M8 rfl rfl rfl) rfl rfl ?_
    refine aK aCd rfl rfl rfl ?_
    refine (pH _ cn.high _ _ _ xs (R.mem M8) hs).mono ?_
    rintro _ w9 ⟨v9, rfl, ⟨rfl, hb9⟩⟩
    refine ⟨_, rfl, ?_⟩
    have M9 := M8.callB hb9
    refine aA (aD (.tuple (List.toArray _)) rfl) rfl rfl ?_
    refine aA (bG (.int _ _) rfl rfl) rfl rfl ?_
    refine aM 36 (.int .i64 (pb : Int)) (iE (by rw [hlb])) ?_
    refine aA (bG (.bool (decide _)) rfl rfl) rfl rfl ?_
    refine aA (aE (.int _ _) rfl) rfl rfl ?_
    refine aA (aE (.bool (decide _)) rfl) rfl rfl ?_
    refine aC (aF (aG (aB ?_)))
    refine aA (cQ [] [.pointer _, .pointer _] rfl rfl) rfl rfl ?_
    refine aA (aE (.func _ _ _) rfl) rfl rfl ?_
    refine aC (aF (aG ?_))
    refine bS [(0, 0), (1, 0), (2, 1), (3, 0), (4, 0), (5, 1), (6, 1), (7, 0), (8, 0), (9, 1), (10, 1), (11, 2), (12, 2)] mixed rfl (by kernel_rfl) (fun w10 hb10 hh10 => ?_)
    have M10 := M9.drew hb10 hh10
    refine aU rfl rfl rfl (fun _ => aD (.func _ _ _) rfl) ?_
    refine aU rfl rfl rfl (fun _ => aD (.int _ _) rfl) ?_
    refine cB rfl rfl rfl (bE 2 fX M10 rfl rfl rfl) ?_
    refine aU rfl rfl rfl (fun _ => aD (.slice _ _ _) rfl) ?_
    refine aU rfl rfl rfl (fun _ => aD (.int _ _) rfl) ?_
    refine cB rfl rfl rfl (bU (pa) dO rfl rfl rfl ((R.mem M10).below_len (aL aI hxa)) ((R.mem M10).someK (aL aI hxa))) ?_
    refine cB rfl rfl rfl (dS _ bO (R.mem M10) (aL aI hxa) rfl) ?_
    refine aU rfl rfl rfl (fun _ => aD (.slice _ _ _) rfl) ?_
    refine aU rfl rfl rfl (fun _ => aD (.int _ _) rfl) ?_
    refine cB rfl rfl rfl (bU (pb) dO rfl rfl rfl ((R.mem M10).below_len (aL aI hxb)) ((R.mem M10).someK (aL aI hxb))) ?_
    refine cB rfl rfl rfl (dS _ bO (R.mem M10) (aL aI hxb) rfl) ?_
    refine dU [true, true, true, true, true] rfl (by kernel_rfl) ?_
    refine aK aTs rfl rfl rfl ?_
    refine (aAb _ cn xa xb hc.n hoa hob false).mono ?_
    rintro _ w11 ⟨v11, rfl, ⟨rfl, hb11⟩⟩
    refine ⟨_, rfl, ?_⟩
    have M11 := M10.callB hb11
    refine aC (aF ⟨dV, ?_⟩)
    refine iL 50 (.int .i64 (nQ cn xa xb xa.mass)) rfl ?_
    refine dU [] rfl (by kernel_rfl) ?_
    refine aK aQw rfl rfl rfl ?_
    refine (wI _ b2 b6 cn ⟨some ⟨b1, 0, none⟩, n, n, e⟩ (xs.map (iF xs (cs.take k))) hq pa (nQ cn xa xb xa.mass) (-1) (iF xs (cs.take k) xa) (aL _ hxa) (aCv hc.n (by omega)) (.inr rfl) hc.n (aCs hs hb hcs hclen hmc k hma) (M11.ownSeg 0 3)).mono ?_
    rintro _ w12 ⟨v12, rfl, ⟨rfl, e1, hq1, hM12⟩⟩
    refine ⟨_, rfl, ?_⟩
    have M12 : Mem _ _ [_, _, _] _ := M11.seg 0 3 hM12
    refine aC (aF ⟨dV, ?_⟩)
    refine cF ?_
    refine aF ?_
    refine bS [(0, 0), (1, 0), (2, 1), (3, 0), (4, 0), (5, 1), (6, 1), (7, 0), (8, 0), (9, 1), (10, 1), (11, 2), (12, 2)] mixed rfl (by kernel_rfl) (fun w13 hb13 hh13 => ?_)
    have M13 := M12.drew hb13 hh13
    refine aU rfl rfl rfl (fun _ => aD (.func _ _ _) rfl) ?_
    refine aU rfl rfl rfl (fun _ => aD (.int _ _) rfl) ?_
    refine cB rfl rfl rfl (bE 2 fX M13 rfl rfl rfl) ?_
    refine aU rfl rfl rfl (fun _ => aD (.slice _ _ _) rfl) ?_
    refine aU rfl rfl rfl (fun _ => aD (.int _ _) rfl) ?_
    refine cB rfl rfl rfl (bU (pa) dO rfl rfl rfl ((R.mem M13).below_len (aL aI hxa)) ((R.mem M13).someK (aL aI hxa))) ?_
    refine cB rfl rfl rfl (dS _ bO (R.mem M13) (aL aI hxa) rfl) ?_
    refine aU rfl rfl rfl (fun _ => aD (.slice _ _ _) rfl) ?_
    refine aU rfl rfl rfl (fun _ => aD (.int _ _) rfl) ?_
    refine cB rfl rfl rfl (bU (pb) dO rfl rfl rfl ((R.mem M13).below_len (aL aI hxb)) ((R.mem M13).someK (aL aI hxb))) ?_
    refine cB rfl rfl rfl (dS _ bO (R.mem M13) (aL aI hxb) rfl) ?_
    refine dU [true, true, true, true, true] rfl (by kernel_rfl) ?_
    refine aK aTs rfl rfl rfl ?_
    refine (aAb _ cn xa xb hc.n hoa hob true).mono ?_
    rintro _ w14 ⟨v14, rfl, ⟨rfl, hb14⟩⟩
    refine ⟨_, rfl, ?_⟩
    have M14 := M13.callB hb14
    refine aC (aF ⟨dV, ?_⟩)
    refine iL 63 (.int .i64 (nQ cn xa xb xb.mass)) rfl ?_
    refine dU [] rfl (by kernel_rfl) ?_
    refine aK aQw rfl rfl rfl ?_
    refine (wI _ b2 b6 cn ⟨some ⟨b1, 0, none⟩, n, n, e1⟩ _ hq1 pb (nQ cn xa xb xb.mass) (1) (iF xs (cs.take k) xb) (qL (aL _ hxb) hpab) (aCv hc.n (by omega)) (.inl rfl) hc.n (aCs hs hb hcs hclen hmc k hmb) (M14.ownSeg 0 3)).mono ?_
    rintro _ w15 ⟨v15, rfl, ⟨rfl, e2, hq2, hM15⟩⟩
    refine ⟨_, rfl, ?_⟩
    have M15 : Mem _ _ [_, _, _] _ := M14.seg 0 3 hM15
    refine aC (aF ⟨dV, ?_⟩)
    refine cF ?_
    refine dB ?_
    refine aF (aB ?_)
    refine aA (bM rfl rfl (by omega) (by omega)) rfl rfl ?_
    refine aA (aD (.int _ _) rfl) rfl rfl ?_
    refine aC ?_
    refine cO (k + 1, e2) (bK rfl eO) (cS rfl (cS rfl (cS rfl (cS rfl (cS rfl jB))))) ?_ ?_
    · exact ⟨⟨by omega, by rw [← aNc hcn, ← aXc hs hxa hxb hka hkb hc hba hbb]; exact hq2⟩, M15.keep [true, true, false]⟩
    · (show mc - (k + 1) < mc - k; omega)
  · have hkn : k = mc := by omega
    rw [List.take_of_length_le (by omega)] at hq
    refine cP ?_
    refine dA ?_
    refine cZ ?_
    refine eQ ?_
    refine aF (aG (aB ?_))
    refine aA (aQ 0 (.slice _ _ _) zR hM5 rfl rfl rfl) rfl rfl ?_
    refine aA (aE (.slice _ _ _) rfl) rfl rfl ?_
    refine aC (aF (aR ?_))
    refine bY (.slice _ _ _) rfl ?_
    exact ⟨⟨(some ⟨b1, 0, none⟩), n, n, e⟩, rfl, hq, hM5.keep [false, true]⟩
end Go.Proofs.YtlmcphcgiclanaaGreatDoor
