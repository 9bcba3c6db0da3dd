/- Part of the proof of the laws of this seat: S20c, S20d, S20e, S20f, S20g, S20h. No conditions. -/
import Derived.Test.YtlmcphcgiclanaaGreatDoorK5
import Derived.Test.YtlmcphcgiclanaaGreatDoorK20
import Derived.Test.YtlmcphcgiclanaaGreatDoorK18
import Derived.Test.YtlmcphcgiclanaaGreatDoorK24
import Derived.Test.YtlmcphcgiclanaaGreatDoorK26
set_option linter.unusedVariables false
set_option linter.unusedSimpArgs false
set_option linter.unnecessarySimpa false
namespace Go.Proofs.YtlmcphcgiclanaaGreatDoor
open Go.Bil
open Go.RowKit (Below)
open Go.Proofs
set_option maxHeartbeats 8000000 in
theorem aOx (w : World) (bs : Nat) (rx ry : Row) (F G : Body → Int) (A : Option Addr) (n c : Nat) (xs : List Body) (R : Rd w 10 A n (xs.map aI)) (hs : bL xs) (hb : ∀ b ∈ xs, Okb b) (hrx : aX 2 1 rx.A rx.n rx.c ((xs.map F).map bN) rx.e) (hry : aX 2 1 ry.A ry.n ry.c ((xs.map G).map bN) ry.e) (hF : ∀ b ∈ xs, -1152921504606846976 ≤ F b ∧ F b ≤ 1152921504606846976) (hG : ∀ b ∈ xs, -1152921504606846976 ≤ G b ∧ G b ≤ 1152921504606846976) (cn : Con) (hc : OkC xs cn) (hO : Own [(some bs, bc [.slice A n c, .slice rx.A rx.n rx.c, .slice ry.A ry.n ry.c] 246), rx.e, ry.e] w) (hdA : 0 < n → ∀ q off, A = some ⟨q, off, none⟩ → q ∉ bU [(some bs, bc [.slice A n c, .slice rx.A rx.n rx.c, .slice ry.A ry.n ry.c] 246), rx.e, ry.e]) :
    Calls Tryz.prog 177 #[.pointer (some ⟨bs, 0, none⟩), .agg (bY cn).toArray] w (fun ex w' => ∃ v, ex = .returned v ∧ (fun v w' => v = .tuple #[] ∧ ∃ ex ey : dL, aX 2 1 rx.A rx.n rx.c ((xs.map (yC xs (·.nx) cn F)).map bN) ex ∧ aX 2 1 ry.A ry.n ry.c ((xs.map (yC xs (·.ny) cn G)).map bN) ey ∧ Mem w (bU [(some bs, bc [.slice A n c, .slice rx.A rx.n rx.c, .slice ry.A ry.n ry.c] 246), rx.e, ry.e]) [(some bs, bc [.slice A n c, .slice rx.A rx.n rx.c, .slice ry.A ry.n ry.c] 246), ex, ey] w') v w') := by
  have hlen : xs.length = n := by simpa using R.len
  have hbd := R.bound
  have hlx : xs.length = rx.n := by simpa using hrx.1
  have hly : xs.length = ry.n := by simpa using hry.1
  obtain ⟨pa, xa, hxa, hka, hla, hba, hma⟩ := nL hs hc.l
  obtain ⟨pb, xb, hxb, hkb, hlb, hbb, hmb⟩ := nL hs hc.h
  have hoa := hb xa hma
  have hob := hb xb hmb
  have hne := hc.ne
  have hpl := (List.getElem?_eq_some_iff.1 hxa).1
  have hpl2 := (List.getElem?_eq_some_iff.1 hxb).1
  have hpab : pa ≠ pb := fun g => by subst g; rw [hxa] at hxb; injection hxb with hxb; subst hxb; omega
  have ma := hoa.m
  have mb := hob.m
  have hra := sD hc.n hoa hob (m := xa.mass) (by omega)
  have hrb := sD hc.n hoa hob (m := xb.mass) (by omega)
  have gax := (jS hra.2.2 hc.n.x).2.2
  have gay := (jS hra.2.2 hc.n.y).2.2
  have gbx := (jS hrb.2.2 hc.n.x).2.2
  have gby := (jS hrb.2.2 hc.n.y).2.2
  have fa := hF xa hma
  have fb := hF xb hmb
  have ga := hG xa hma
  have gb := hG xb hmb
  have hFa : (xs.map F)[pa]? = some (F xa) := by rw [List.getElem?_map, hxa]; rfl
  have hGa : (xs.map G)[pa]? = some (G xa) := by rw [List.getElem?_map, hxa]; rfl
  have hFb : ((xs.map F).set pa (F xa - mO (jK cn xa xb) xa.mass cn.nx))[pb]? = some (F xb) := oH (by rw [List.getElem?_map, hxb]; rfl) hpab
  have hGb : ((xs.map G).set pa (G xa - mO (jK cn xa xb) xa.mass cn.ny))[pb]? = some (G xb) := oH (by rw [List.getElem?_map, hxb]; rfl) hpab
  refine aJ #[] 139 Tryz.func177 rfl Tryz.results177 Tryz.ntmps177 rfl ?_
  have M0 := hO.mem
  refine aG (aB ?_)
  refine bK (.agg (List.toArray _)) M0 rfl rfl rfl (fun b1 w1 M1 => ?_)
  refine aE (aF (aG ?_))
  refine bZ [(0, 0), (1, 0), (2, 0), (3, 1), (4, 0), (5, 0), (6, 1), (7, 2), (8, 0), (9, 0), (10, 0), (11, 0), (12, 0)] mixed rfl (by kernel_rfl) (fun w2 hb2 hh2 => ?_)
  have M2 := M1.drew hb2 hh2
  refine aW rfl rfl rfl (fun _ => aC (.pointer _) rfl) ?_
  refine aW rfl rfl rfl (fun _ => aV rfl) ?_
  refine aW rfl rfl rfl (fun _ => aH 0 kP rfl) ?_
  refine cB rfl rfl rfl (aZ 0 (.slice _ _ _) jX M2 rfl rfl rfl) ?_
  refine aW rfl rfl rfl (fun _ => aH 0 pI rfl) ?_
  refine aW rfl rfl rfl (fun _ => aH 0 kU rfl) ?_
  refine cB rfl rfl rfl (aZ 3 (.int _ _) cR M2 rfl rfl rfl) ?_
  refine eB [true, true] rfl (by kernel_rfl) ?_
  refine aL xQ rfl rfl rfl ?_
  refine (nA _ cn.low _ _ _ xs (R.memY M2 hdA) hs).mono ?_
  rintro _ w3 ⟨v3, rfl, ⟨rfl, hb3⟩⟩
  refine ⟨_, rfl, ?_⟩
  have M3 := M2.callB hb3
  refine aE (aF ⟨dZ, ?_⟩)
  refine aW rfl rfl rfl (fun _ => aC (.tuple (List.toArray _)) rfl) ?_
  refine aW rfl rfl rfl (fun _ => bE (.int _ _) rfl rfl) ?_
  refine mN 20 (.int .i64 (pa : Int)) (iE (by rw [hla])) ?_
  refine aW rfl rfl rfl (fun _ => bE (.bool (decide _)) rfl rfl) ?_
  refine aW rfl rfl rfl (fun _ => aD (.int _ _) rfl) ?_
  refine aW rfl rfl rfl (fun _ => aD (.bool (decide _)) rfl) ?_
  refine cE ?_
  refine aF (aG ?_)
  refine bZ [(0, 0), (1, 0), (2, 0), (3, 1), (4, 0), (5, 0), (6, 1), (7, 2), (8, 0), (9, 0), (10, 0), (11, 0), (12, 0)] mixed rfl (by kernel_rfl) (fun w4 hb4 hh4 => ?_)
  have M4 := M3.drew hb4 hh4
  refine aW rfl rfl rfl (fun _ => aC (.pointer _) rfl) ?_
  refine aW rfl rfl rfl (fun _ => aV rfl) ?_
  refine aW rfl rfl rfl (fun _ => aH 0 kP rfl) ?_
  refine cB rfl rfl rfl (aZ 0 (.slice _ _ _) jX M4 rfl rfl rfl) ?_
  refine aW rfl rfl rfl (fun _ => aH 0 pI rfl) ?_
  refine aW rfl rfl rfl (fun _ => aH 1 kQ rfl) ?_
  refine cB rfl rfl rfl (aZ 3 (.int _ _) cR M4 rfl rfl rfl) ?_
  refine eB [true, true] rfl (by kernel_rfl) ?_
  refine aL xQ rfl rfl rfl ?_
  refine (nA _ cn.high _ _ _ xs (R.memY M4 hdA) hs).mono ?_
  rintro _ w5 ⟨v5, rfl, ⟨rfl, hb5⟩⟩
  refine ⟨_, rfl, ?_⟩
  have M5 := M4.callB hb5
  refine aE (aF ⟨dZ, ?_⟩)
  refine aW rfl rfl rfl (fun _ => aC (.tuple (List.toArray _)) rfl) ?_
  refine aW rfl rfl rfl (fun _ => bE (.int _ _) rfl rfl) ?_
  refine mN 31 (.int .i64 (pb : Int)) (iE (by rw [hlb])) ?_
  refine aW rfl rfl rfl (fun _ => bE (.bool (decide _)) rfl rfl) ?_
  refine aW rfl rfl rfl (fun _ => aD (.int _ _) rfl) ?_
  refine aW rfl rfl rfl (fun _ => aD (.bool (decide _)) rfl) ?_
  refine cE ?_
  refine aF (aG ?_)
  refine bZ [(0, 1), (1, 0), (2, 0), (3, 0), (4, 1), (5, 0), (6, 1), (7, 1), (8, 0), (9, 0), (10, 0), (11, 1), (12, 0), (13, 1), (14, 1), (15, 2), (16, 0)] mixed rfl (by kernel_rfl) (fun w6 hb6 hh6 => ?_)
  have M6 := M5.drew hb6 hh6
  refine cB rfl rfl rfl (bB 3 eX M6 rfl rfl rfl) ?_
  refine aW rfl rfl rfl (fun _ => aC (.pointer _) rfl) ?_
  refine aW rfl rfl rfl (fun _ => aV rfl) ?_
  refine aW rfl rfl rfl (fun _ => aH 0 kP rfl) ?_
  refine cB rfl rfl rfl (aZ 0 (.slice _ _ _) jX M6 rfl rfl rfl) ?_
  refine aW rfl rfl rfl (fun _ => aC (.int _ _) rfl) ?_
  refine cB rfl rfl rfl (bO (pa) dD rfl rfl rfl ((R.memY M6 hdA).below_len (aK aI hxa)) ((R.memY M6 hdA).someK (aK aI hxa))) ?_
  refine cB rfl rfl rfl (dO _ bW (R.memY M6 hdA) (aK aI hxa) rfl) ?_
  refine aW rfl rfl rfl (fun _ => aC (.pointer _) rfl) ?_
  refine aW rfl rfl rfl (fun _ => aV rfl) ?_
  refine aW rfl rfl rfl (fun _ => aH 0 kP rfl) ?_
  refine cB rfl rfl rfl (aZ 0 (.slice _ _ _) jX M6 rfl rfl rfl) ?_
  refine aW rfl rfl rfl (fun _ => aC (.int _ _) rfl) ?_
  refine cB rfl rfl rfl (bO (pb) dD rfl rfl rfl ((R.memY M6 hdA).below_len (aK aI hxb)) ((R.memY M6 hdA).someK (aK aI hxb))) ?_
  refine cB rfl rfl rfl (dO _ bW (R.memY M6 hdA) (aK aI hxb) rfl) ?_
  refine eB [true, true, true, true, true, true, true] rfl (by kernel_rfl) ?_
  refine aL aUp rfl rfl rfl ?_
  refine (yT _ cn xa xb hc.n hoa hob).mono ?_
  rintro _ w7 ⟨v7, rfl, ⟨rfl, hb7⟩⟩
  refine ⟨_, rfl, ?_⟩
  have M7 := M6.callB hb7
  refine aE (aF ⟨dZ, ?_⟩)
  refine aW rfl rfl rfl (fun _ => aD (.int _ _) rfl) ?_
  refine cE ?_
  refine aF (aG ?_)
  refine bZ [(0, 0), (1, 0), (2, 0), (3, 0), (4, 1), (5, 0), (6, 1), (7, 1), (8, 1), (9, 0), (10, 1), (11, 2), (12, 0), (13, 0), (14, 0), (15, 0), (16, 0)] mixed rfl (by kernel_rfl) (fun w8 hb8 hh8 => ?_)
  have M8 := M7.drew hb8 hh8
  refine aW rfl rfl rfl (fun _ => aC (.int _ _) rfl) ?_
  refine aW rfl rfl rfl (fun _ => aC (.pointer _) rfl) ?_
  refine aW rfl rfl rfl (fun _ => aV rfl) ?_
  refine aW rfl rfl rfl (fun _ => aH 0 kP rfl) ?_
  refine cB rfl rfl rfl (aZ 0 (.slice _ _ _) jX M8 rfl rfl rfl) ?_
  refine aW rfl rfl rfl (fun _ => aC (.int _ _) rfl) ?_
  refine cB rfl rfl rfl (bO (pa) dD rfl rfl rfl ((R.memY M8 hdA).below_len (aK aI hxa)) ((R.memY M8 hdA).someK (aK aI hxa))) ?_
  refine cB rfl rfl rfl (bM 4 fB (R.memY M8 hdA) (Nat.lt_of_le_of_lt (Nat.zero_le _) ((R.memY M8 hdA).below_len (aK aI hxa))) rfl) ?_
  refine cB rfl rfl rfl (eI (o := 4) (.int _ _) bH (R.memY M8 hdA) (aK aI hxa) rfl rfl) ?_
  refine aW rfl rfl rfl (fun _ => aH 2 kV rfl) ?_
  refine cB rfl rfl rfl (uE 3 _ bI M8 rfl rfl rfl rfl) ?_
  refine eB [true, true, true, true, true] rfl (by kernel_rfl) ?_
  refine aL aLt rfl rfl rfl ?_
  refine (tX _ (jK cn xa xb) xa.mass cn.nx cn.ny ⟨hra.1, hra.2.1⟩ (by omega) hra.2.2 hc.n.x hc.n.y).mono ?_
  rintro _ w9 ⟨v9, rfl, ⟨rfl, hb9⟩⟩
  refine ⟨_, rfl, ?_⟩
  have M9 := M8.callB hb9
  refine aE (aF ⟨dZ, ?_⟩)
  refine aW rfl rfl rfl (fun _ => aC (.tuple (List.toArray _)) rfl) ?_
  refine aW rfl rfl rfl (fun _ => bE (.int _ _) rfl rfl) ?_
  refine aW rfl rfl rfl (fun _ => bE (.int _ _) rfl rfl) ?_
  refine aW rfl rfl rfl (fun _ => aD (.int _ _) rfl) ?_
  refine aW rfl rfl rfl (fun _ => aD (.int _ _) rfl) ?_
  refine cE ?_
  refine aF (aG ?_)
  refine bZ [(0, 0), (1, 0), (2, 0), (3, 1), (4, 0), (5, 0), (6, 0), (7, 0), (8, 1), (9, 0), (10, 0), (11, 0), (12, 0), (13, 1), (14, 0), (15, 1), (16, 1), (17, 0), (18, 0), (19, 0), (20, 0), (21, 0), (22, 1), (23, 0), (24, 1), (25, 1), (26, 0), (27, 0), (28, 1), (29, 2), (30, 1), (31, 2)] mixed rfl (by kernel_rfl) (fun w10 hb10 hh10 => ?_)
  have M10 := M9.drew hb10 hh10
  refine aW rfl rfl rfl (fun _ => aC (.pointer _) rfl) ?_
  refine aW rfl rfl rfl (fun _ => aV rfl) ?_
  refine aW rfl rfl rfl (fun _ => aH 1 kX rfl) ?_
  refine cB rfl rfl rfl (aZ 0 (.slice _ _ _) iK M10 rfl rfl rfl) ?_
  refine aW rfl rfl rfl (fun _ => aC (.int _ _) rfl) ?_
  refine aW rfl rfl rfl (fun _ => aC (.pointer _) rfl) ?_
  refine aW rfl rfl rfl (fun _ => aV rfl) ?_
  refine aW rfl rfl rfl (fun _ => aH 2 kS rfl) ?_
  refine cB rfl rfl rfl (aZ 0 (.slice _ _ _) iK M10 rfl rfl rfl) ?_
  refine aW rfl rfl rfl (fun _ => aC (.int _ _) rfl) ?_
  refine aW rfl rfl rfl (fun _ => aC (.pointer _) rfl) ?_
  refine aW rfl rfl rfl (fun _ => aV rfl) ?_
  refine aW rfl rfl rfl (fun _ => aH 1 kX rfl) ?_
  refine cB rfl rfl rfl (aZ 0 (.slice _ _ _) iK M10 rfl rfl rfl) ?_
  refine aW rfl rfl rfl (fun _ => aC (.int _ _) rfl) ?_
  refine cB rfl rfl rfl (bO (pa) jW rfl rfl rfl ((hrx.rd M10 (aP (i := 1) rfl)).below_len (aK bN hFa)) ((hrx.rd M10 (aP (i := 1) rfl)).someK (aK bN hFa))) ?_
  refine cB rfl rfl rfl (jJ (.int _ _) jE (hrx.rd M10 (aP (i := 1) rfl)) (aK bN hFa) rfl) ?_
  refine aW rfl rfl rfl (fun _ => aC (.int _ _) rfl) ?_
  refine aW rfl rfl rfl (fun _ => mL rfl rfl (by omega) (by omega)) ?_
  refine aW rfl rfl rfl (fun _ => aC (.pointer _) rfl) ?_
  refine aW rfl rfl rfl (fun _ => aV rfl) ?_
  refine aW rfl rfl rfl (fun _ => aH 2 kS rfl) ?_
  refine cB rfl rfl rfl (aZ 0 (.slice _ _ _) iK M10 rfl rfl rfl) ?_
  refine aW rfl rfl rfl (fun _ => aC (.int _ _) rfl) ?_
  refine cB rfl rfl rfl (bO (pa) jW rfl rfl rfl ((hry.rd M10 (aP (i := 2) rfl)).below_len (aK bN hGa)) ((hry.rd M10 (aP (i := 2) rfl)).someK (aK bN hGa))) ?_
  refine cB rfl rfl rfl (jJ (.int _ _) jE (hry.rd M10 (aP (i := 2) rfl)) (aK bN hGa) rfl) ?_
  refine aW rfl rfl rfl (fun _ => aC (.int _ _) rfl) ?_
  refine aW rfl rfl rfl (fun _ => mL rfl rfl (by omega) (by omega)) ?_
  refine cB rfl rfl rfl (bO (pa) jW rfl rfl rfl ((hrx.rd M10 (aP (i := 1) rfl)).below_len (aK bN hFa)) ((hrx.rd M10 (aP (i := 1) rfl)).someK (aK bN hFa))) ?_
  refine eB [true, true, true, true, true, true, true, true, true] rfl (by kernel_rfl) ?_
  refine sA 1 (.int _ _) jE M10 rfl hrx (aK bN hFa) rfl rfl rfl rfl (fun e11 w11 hR11 M11 => ?_)
  have hQ11 := hR11.mapSet (f := bN) (x := F xa - mO (jK cn xa xb) xa.mass cn.nx) rfl
  refine aE (aF ⟨dZ, ?_⟩)
  refine cB rfl rfl rfl (bO (pa) jW rfl rfl rfl ((hry.rd M11 (aP (i := 2) rfl)).below_len (aK bN hGa)) ((hry.rd M11 (aP (i := 2) rfl)).someK (aK bN hGa))) ?_
  refine eB [true] rfl (by kernel_rfl) ?_
  refine sA 2 (.int _ _) jE M11 rfl hry (aK bN hGa) rfl rfl rfl rfl (fun e12 w12 hR12 M12 => ?_)
  have hQ12 := hR12.mapSet (f := bN) (x := G xa - mO (jK cn xa xb) xa.mass cn.ny) rfl
  refine aE (aF ⟨dZ, ?_⟩)
  refine cE ?_
  refine aF (aG ?_)
  refine bZ [(0, 0), (1, 0), (2, 0), (3, 0), (4, 1), (5, 0), (6, 1), (7, 1), (8, 1), (9, 0), (10, 1), (11, 2), (12, 0), (13, 0), (14, 0), (15, 0), (16, 0)] mixed rfl (by kernel_rfl) (fun w13 hb13 hh13 => ?_)
  have M13 := M12.drew hb13 hh13
  refine aW rfl rfl rfl (fun _ => aC (.int _ _) rfl) ?_
  refine aW rfl rfl rfl (fun _ => aC (.pointer _) rfl) ?_
  refine aW rfl rfl rfl (fun _ => aV rfl) ?_
  refine aW rfl rfl rfl (fun _ => aH 0 kP rfl) ?_
  refine cB rfl rfl rfl (aZ 0 (.slice _ _ _) jX M13 rfl rfl rfl) ?_
  refine aW rfl rfl rfl (fun _ => aC (.int _ _) rfl) ?_
  refine cB rfl rfl rfl (bO (pb) dD rfl rfl rfl ((R.memY M13 hdA).below_len (aK aI hxb)) ((R.memY M13 hdA).someK (aK aI hxb))) ?_
  refine cB rfl rfl rfl (bM 4 fB (R.memY M13 hdA) (Nat.lt_of_le_of_lt (Nat.zero_le _) ((R.memY M13 hdA).below_len (aK aI hxb))) rfl) ?_
  refine cB rfl rfl rfl (eI (o := 4) (.int _ _) bH (R.memY M13 hdA) (aK aI hxb) rfl rfl) ?_
  refine aW rfl rfl rfl (fun _ => aH 2 kV rfl) ?_
  refine cB rfl rfl rfl (uE 3 _ bI M13 rfl rfl rfl rfl) ?_
  refine eB [true, true, true, true, true] rfl (by kernel_rfl) ?_
  refine aL aLt rfl rfl rfl ?_
  refine (tX _ (jK cn xa xb) xb.mass cn.nx cn.ny ⟨hrb.1, hrb.2.1⟩ (by omega) hrb.2.2 hc.n.x hc.n.y).mono ?_
  rintro _ w14 ⟨v14, rfl, ⟨rfl, hb14⟩⟩
  refine ⟨_, rfl, ?_⟩
  have M14 := M13.callB hb14
  refine aE (aF ⟨dZ, ?_⟩)
  refine aW rfl rfl rfl (fun _ => aC (.tuple (List.toArray _)) rfl) ?_
  refine aW rfl rfl rfl (fun _ => bE (.int _ _) rfl rfl) ?_
  refine aW rfl rfl rfl (fun _ => bE (.int _ _) rfl rfl) ?_
  refine aW rfl rfl rfl (fun _ => aD (.int _ _) rfl) ?_
  refine aW rfl rfl rfl (fun _ => aD (.int _ _) rfl) ?_
  refine cE ?_
  refine aF ?_
  refine bZ [(0, 0), (1, 0), (2, 0), (3, 1), (4, 0), (5, 0), (6, 0), (7, 0), (8, 1), (9, 0), (10, 0), (11, 0), (12, 0), (13, 1), (14, 0), (15, 1), (16, 1), (17, 0), (18, 0), (19, 0), (20, 0), (21, 0), (22, 1), (23, 0), (24, 1), (25, 1), (26, 0), (27, 0), (28, 1), (29, 2), (30, 1), (31, 2)] mixed rfl (by kernel_rfl) (fun w15 hb15 hh15 => ?_)
  have M15 := M14.drew hb15 hh15
  refine aW rfl rfl rfl (fun _ => aC (.pointer _) rfl) ?_
  refine aW rfl rfl rfl (fun _ => aV rfl) ?_
  refine aW rfl rfl rfl (fun _ => aH 1 kX rfl) ?_
  refine cB rfl rfl rfl (aZ 0 (.slice _ _ _) iK M15 rfl rfl rfl) ?_
  refine aW rfl rfl rfl (fun _ => aC (.int _ _) rfl) ?_
  refine aW rfl rfl rfl (fun _ => aC (.pointer _) rfl) ?_
  refine aW rfl rfl rfl (fun _ => aV rfl) ?_
  refine aW rfl rfl rfl (fun _ => aH 2 kS rfl) ?_
  refine cB rfl rfl rfl (aZ 0 (.slice _ _ _) iK M15 rfl rfl rfl) ?_
  refine aW rfl rfl rfl (fun _ => aC (.int _ _) rfl) ?_
  refine aW rfl rfl rfl (fun _ => aC (.pointer _) rfl) ?_
  refine aW rfl rfl rfl (fun _ => aV rfl) ?_
  refine aW rfl rfl rfl (fun _ => aH 1 kX rfl) ?_
  refine cB rfl rfl rfl (aZ 0 (.slice _ _ _) iK M15 rfl rfl rfl) ?_
  refine aW rfl rfl rfl (fun _ => aC (.int _ _) rfl) ?_
  refine cB rfl rfl rfl (bO (pb) jW rfl rfl rfl ((hQ11.rd M15 (aP (i := 1) rfl)).below_len (aK bN hFb)) ((hQ11.rd M15 (aP (i := 1) rfl)).someK (aK bN hFb))) ?_
  refine cB rfl rfl rfl (jJ (.int _ _) jE (hQ11.rd M15 (aP (i := 1) rfl)) (aK bN hFb) rfl) ?_
  refine aW rfl rfl rfl (fun _ => aC (.int _ _) rfl) ?_
  refine aW rfl rfl rfl (fun _ => bX rfl rfl (by omega) (by omega)) ?_
  refine aW rfl rfl rfl (fun _ => aC (.pointer _) rfl) ?_
  refine aW rfl rfl rfl (fun _ => aV rfl) ?_
  refine aW rfl rfl rfl (fun _ => aH 2 kS rfl) ?_
  refine cB rfl rfl rfl (aZ 0 (.slice _ _ _) iK M15 rfl rfl rfl) ?_
  refine aW rfl rfl rfl (fun _ => aC (.int _ _) rfl) ?_
  refine cB rfl rfl rfl (bO (pb) jW rfl rfl rfl ((hQ12.rd M15 (aP (i := 2) rfl)).below_len (aK bN hGb)) ((hQ12.rd M15 (aP (i := 2) rfl)).someK (aK bN hGb))) ?_
  refine cB rfl rfl rfl (jJ (.int _ _) jE (hQ12.rd M15 (aP (i := 2) rfl)) (aK bN hGb) rfl) ?_
  refine aW rfl rfl rfl (fun _ => aC (.int _ _) rfl) ?_
  refine aW rfl rfl rfl (fun _ => bX rfl rfl (by omega) (by omega)) ?_
  refine cB rfl rfl rfl (bO (pb) jW rfl rfl rfl ((hQ11.rd M15 (aP (i := 1) rfl)).below_len (aK bN hFb)) ((hQ11.rd M15 (aP (i := 1) rfl)).someK (aK bN hFb))) ?_
  refine eB [true, true, true, true, true, true, true, true, true] rfl (by kernel_rfl) ?_
  refine sA 1 (.int _ _) jE M15 rfl hQ11 (aK bN hFb) rfl rfl rfl rfl (fun e16 w16 hR16 M16 => ?_)
  have hQ16 := hR16.mapSet (f := bN) (x := F xb + mO (jK cn xa xb) xb.mass cn.nx) rfl
  refine aE (aF ⟨dZ, ?_⟩)
  refine cB rfl rfl rfl (bO (pb) jW rfl rfl rfl ((hQ12.rd M16 (aP (i := 2) rfl)).below_len (aK bN hGb)) ((hQ12.rd M16 (aP (i := 2) rfl)).someK (aK bN hGb))) ?_
  refine eB [true] rfl (by kernel_rfl) ?_
  refine sA 2 (.int _ _) jE M16 rfl hQ12 (aK bN hGb) rfl rfl rfl rfl (fun e17 w17 hR17 M17 => ?_)
  have hQ17 := hR17.mapSet (f := bN) (x := G xb + mO (jK cn xa xb) xb.mass cn.ny) rfl
  refine aE (aF ⟨dZ, ?_⟩)
  refine cE ?_
  refine gM ?_
  exact ⟨rfl, e16, e17, by rw [← aGc hs hxa hxb hka hkb hc hba hbb]; exact hQ16, by rw [← aGc hs hxa hxb hka hkb hc hba hbb]; exact hQ17, M17.keep [true, true, true, false]⟩
end Go.Proofs.YtlmcphcgiclanaaGreatDoor

namespace Go.Proofs.YtlmcphcgiclanaaGreatDoor
open Go.Bil
open Go.RowKit (Below)
open Go.Proofs
set_option maxHeartbeats 4000000 in
theorem zO (w : World) (bs : Nat) (rx ry : Row) (A : Option Addr) (n c : Nat) (xs : List Body) (R : Rd w 10 A n (xs.map aI)) (hs : bL xs) (hb : ∀ b ∈ xs, Okb b) (B : Option Addr) (mc c' : Nat) (cs : List Con) (R' : Rd w 5 B mc (cs.map bY)) (hcs : ∀ c ∈ cs, OkC xs c) (hmc : mc ≤ 8589934592) (hrx : aX 2 1 rx.A rx.n rx.c ((xs.map (fun b => eM xs (cs.take 0) (·.nx) b)).map bN) rx.e) (hry : aX 2 1 ry.A ry.n ry.c ((xs.map (fun b => eM xs (cs.take 0) (·.ny) b)).map bN) ry.e) (hO : Own [(some bs, bc [.slice A n c, .slice rx.A rx.n rx.c, .slice ry.A ry.n ry.c] 246), rx.e, ry.e] w) (hdA : 0 < n → ∀ q off, A = some ⟨q, off, none⟩ → q ∉ bU [(some bs, bc [.slice A n c, .slice rx.A rx.n rx.c, .slice ry.A ry.n ry.c] 246), rx.e, ry.e]) (hdB : 0 < mc → ∀ q off, B = some ⟨q, off, none⟩ → q ∉ bU [(some bs, bc [.slice A n c, .slice rx.A rx.n rx.c, .slice ry.A ry.n ry.c] 246), rx.e, ry.e]) :
    Calls Tryz.prog 176 #[.slice B mc c', .func (.func 177) #[.pointer (some ⟨bs, 0, none⟩)] #[]] w (fun ex w' => ∃ v, ex = .returned v ∧ (fun v w' => v = .tuple #[] ∧ ∃ ex ey : dL, aX 2 1 rx.A rx.n rx.c ((xs.map (fun b => eM xs cs (·.nx) b)).map bN) ex ∧ aX 2 1 ry.A ry.n ry.c ((xs.map (fun b => eM xs cs (·.ny) b)).map bN) ey ∧ Mem w (bU [(some bs, bc [.slice A n c, .slice rx.A rx.n rx.c, .slice ry.A ry.n ry.c] 246), rx.e, ry.e]) [(some bs, bc [.slice A n c, .slice rx.A rx.n rx.c, .slice ry.A ry.n ry.c] 246), ex, ey] w') v w') := by
  have hlen : xs.length = n := by simpa using R.len
  have hbd := R.bound
  have hclen : cs.length = mc := by simpa using R'.len
  have hbd' := R'.bound
  refine aJ #[] 16 Tryz.func176 rfl Tryz.results176 Tryz.ntmps176 rfl ?_
  have M0 := hO.mem
  refine aG (aB ?_)
  refine aA (aC (.slice _ _ _) rfl) rfl rfl ?_
  refine aA (cS Tryz.underlying82 rfl) rfl rfl ?_
  refine aA (aC (.int _ _) rfl) rfl rfl ?_
  refine aE (aF (bA ?_))
  refine dI (σ := Nat × dL × dL) [1, 6, 7] (fun (k, ex, ey) => [(8, .int .i64 (k : Int))]) (fun (k, ex, ey) w' => (k ≤ mc ∧ aX 2 1 rx.A rx.n rx.c ((xs.map (fun b => eM xs (cs.take k) (·.nx) b)).map bN) ex ∧ aX 2 1 ry.A ry.n ry.c ((xs.map (fun b => eM xs (cs.take k) (·.ny) b)).map bN) ey) ∧ Mem w (bU [(some bs, bc [.slice A n c, .slice rx.A rx.n rx.c, .slice ry.A ry.n ry.c] 246), rx.e, ry.e]) [(some bs, bc [.slice A n c, .slice rx.A rx.n rx.c, .slice ry.A ry.n ry.c] 246), ex, ey] w') (fun (k, ex, ey) => mc - k) (0, rx.e, ry.e) (bS rfl eV) (⟨⟨by omega, hrx, hry⟩, M0⟩) ?_
  rintro ⟨k, ex, ey⟩ ρ1 w1 ⟨⟨hk, hqx, hqy⟩, hM1⟩
  refine aG (aB ?_)
  refine aA (aO (.bool (decide _)) rfl rfl rfl) rfl rfl ?_
  refine aE (aF (aG ?_))
  refine aY rfl (fun h9 => ?_) (fun h9 => ?_)
  · obtain ⟨cn, hcn⟩ := cN (xs := cs) (k := k) hclen (by omega)
    have hkx : ∀ b ∈ xs, -1152921504606846976 ≤ eM xs (cs.take k) (·.nx) b ∧ eM xs (cs.take k) (·.nx) b ≤ 1152921504606846976 := fun b hbm => by have := oT (cs := cs.take k) (g := (·.nx)) hs hb (fun c h => hcs c (List.mem_of_mem_take h)) (fun c h => (hcs c (List.mem_of_mem_take h)).n.x) hbm; have := List.length_take_le k cs; omega
    have hky : ∀ b ∈ xs, -1152921504606846976 ≤ eM xs (cs.take k) (·.ny) b ∧ eM xs (cs.take k) (·.ny) b ≤ 1152921504606846976 := fun b hbm => by have := oT (cs := cs.take k) (g := (·.ny)) hs hb (fun c h => hcs c (List.mem_of_mem_take h)) (fun c h => (hcs c (List.mem_of_mem_take h)).n.y) hbm; have := List.length_take_le k cs; omega
    refine aN (aF (aG (bA (aG (aB ?_)))))
    refine aA (bO (k) aGz rfl rfl rfl ((R'.memY hM1 hdB).below_len (aK bY hcn)) ((R'.memY hM1 hdB).someK (aK bY hcn))) rfl rfl ?_
    refine aA (dO _ eX (R'.memY hM1 hdB) (aK bY hcn) rfl) rfl rfl ?_
    refine aS oL hM1 rfl rfl (fun b2 w2 M2 => ?_)
    refine bJ 3 _ eX M2 rfl rfl rfl rfl rfl (aU rfl) rfl (fun w3 M3 => ?_)
    refine aE (aF (aB ?_))
    refine aA (aC (.func _ _ _) rfl) rfl rfl ?_
    refine aA (bB 3 eX M3 rfl rfl rfl) rfl rfl ?_
    refine aL aVj rfl rfl rfl ?_
    refine (aOx _ bs ⟨rx.A, rx.n, rx.c, ex⟩ ⟨ry.A, ry.n, ry.c, ey⟩ (fun b => eM xs (cs.take k) (·.nx) b) (fun b => eM xs (cs.take k) (·.ny) b) A n c xs (R.memY M3 hdA) hs hb hqx hqy hkx hky cn (hcs cn (List.mem_of_getElem? hcn)) (M3.ownSeg 0 3) (M3.away 0 3 R hdA)).mono ?_
    rintro _ w4 ⟨v4, rfl, ⟨rfl, ex2, ey2, hqx2, hqy2, hM4⟩⟩
    refine ⟨_, rfl, ?_⟩
    have M4 : Mem _ _ [_, _, _, _] _ := M3.seg 0 3 hM4
    refine aE ?_
    refine dJ ?_
    refine aF (aB ?_)
    refine aA (bX rfl rfl (by omega) (by omega)) rfl rfl ?_
    refine aA (aC (.int _ _) rfl) rfl rfl ?_
    refine aE ?_
    refine cF (k + 1, ex2, ey2) (bS rfl eV) (cL rfl (cL rfl (cL rfl iI))) ?_ ?_
    · exact ⟨⟨by omega, by rw [← wQ hcn]; exact hqx2, by rw [← wQ hcn]; exact hqy2⟩, M4.keep [true, true, true, false]⟩
    · (show mc - (k + 1) < mc - k; omega)
  · have hkn : k = mc := by omega
    rw [List.take_of_length_le (by omega)] at hqx hqy
    refine cK ?_
    refine dB ?_
    refine cY ?_
    refine eN ?_
    refine gM ?_
    exact ⟨rfl, ex, ey, hqx, hqy, hM1⟩
end Go.Proofs.YtlmcphcgiclanaaGreatDoor

namespace Go.Proofs.YtlmcphcgiclanaaGreatDoor
open Go.Bil
open Go.RowKit (Below)
open Go.Proofs
theorem Mem.rot3 {w0 w : World} {X : List Nat} {a b c : dL} (M : Mem w0 X [a, b, c] w) : Mem w0 X [c, b, a] w := M.perm (List.reverse_perm [a, b, c]).symm
theorem Mem.rot3' {w0 w : World} {X : List Nat} {a b c : dL} (M : Mem w0 X [a, b, c] w) : Mem w0 X [c, a, b] w := M.perm (List.perm_append_comm (l₁ := [a, b]) (l₂ := [c]))
theorem aQw {xs : List Body} {cs : List Con} {n : Nat} (hs : bL xs) (hb : ∀ b ∈ xs, Okb b) (hcs : ∀ c ∈ cs, OkC xs c) (hn : cs.length = n) (hl : n ≤ 8589934592) {b : Body} (h : b ∈ xs) : (-1152921504606846976 ≤ eM xs cs (·.nx) b ∧ eM xs cs (·.nx) b ≤ 1152921504606846976) ∧ -1152921504606846976 ≤ eM xs cs (·.ny) b ∧ eM xs cs (·.ny) b ≤ 1152921504606846976 := by
  have h1 := oT (cs := cs) (g := (·.nx)) hs hb hcs (fun c h => (hcs c h).n.x) h
  have h2 := oT (cs := cs) (g := (·.ny)) hs hb hcs (fun c h => (hcs c h).n.y) h
  omega
set_option maxHeartbeats 4000000 in
theorem aMo (w : World) (A : Option Addr) (n c : Nat) (xs : List Body) (R : Rd w 10 A n (xs.map aI)) (hs : bL xs) (hb : ∀ b ∈ xs, Okb b) (hn : n ≤ 1048576) (B : Option Addr) (mc c' : Nat) (cs : List Con) (R' : Rd w 5 B mc (cs.map bY)) (hcs : ∀ c ∈ cs, OkC xs c) (hmc : mc ≤ 8589934592) :
    Calls Tryz.prog 138 #[.slice A n c, .slice B mc c'] w (fun ex w' => ∃ v, ex = .returned v ∧ (fun v w' => ∃ rx ry : Row, v = .tuple #[.slice rx.A rx.n rx.c, .slice ry.A ry.n ry.c] ∧ aX 2 1 rx.A rx.n rx.c ((xs.map (fun b => eM xs cs (·.nx) b)).map bN) rx.e ∧ aX 2 1 ry.A ry.n ry.c ((xs.map (fun b => eM xs cs (·.ny) b)).map bN) ry.e ∧ Mem w [] [rx.e, ry.e] w') v w') := by
  have hlen : xs.length = n := by simpa using R.len
  have hbd := R.bound
  have hclen : cs.length = mc := by simpa using R'.len
  have hbd' := R'.bound
  have hz0 : ∀ g : Con → Int, List.replicate n ([.int .i64 0] : List Value) = (xs.map (fun b => eM xs (cs.take 0) g b)).map bN := fun g => by rw [aPw, aFq hlen (0 : Int)]; exact congrArg (List.map bN) (List.map_congr_left (fun b _ => (aIt xs cs g b).symm))
  refine aJ #[.tmp 4, .tmp 5] 28 Tryz.func138 rfl Tryz.results138 Tryz.ntmps138 rfl ?_
  have M0 := Mem.refl w
  refine aG (aB ?_)
  refine aA (aD (.slice _ _ _) rfl) rfl rfl ?_
  refine aA (aD (.slice _ _ _) rfl) rfl rfl ?_
  refine aE (aF (aG ?_))
  refine aJw [(0, 0), (1, 0), (2, 0), (4, 0), (5, 0)] 3 6 [(6, 2), (7, 0), (8, 2), (9, 0)] [(3, 2), (7, 0), (8, 2), (9, 0)] mixed rfl (by kernel_rfl) (fun w1 hb1 hh1 => ?_)
  have M1 := M0.drew hb1 hh1
  refine qR rfl rfl rfl (fun _ => aC (.slice _ _ _) rfl) ?_
  refine qR rfl rfl rfl (fun _ => aC (.slice _ _ _) rfl) ?_
  refine qR rfl rfl rfl (fun _ => cS Tryz.underlying22 rfl) ?_
  refine qR rfl rfl rfl (fun _ => aC (.slice _ _ _) rfl) ?_
  refine qR rfl rfl rfl (fun _ => cS Tryz.underlying22 rfl) ?_
  refine aGe ?_ ?_
  · refine eB [] rfl (by kernel_rfl) ?_
    refine fS (n) [.int .i64 0] jW tM rfl M1 rfl rfl rfl rfl rfl rfl (by omega) (by omega) (fun b2 w2 M2 => ?_)
    have hL10 := gW (T := 2) (sz := 1) (b := b2) (nn := n) (List.replicate n [.int .i64 0]) (fun l hl => by rw [List.eq_of_mem_replicate hl]; rfl) (by simp) (by omega)
    rw [hz0 (·.nx)] at hL10
    rw [hz0 (·.nx)] at M2
    refine aE (aF ⟨dZ, ?_⟩)
    refine eB [] rfl (by kernel_rfl) ?_
    refine fS (n) [.int .i64 0] jW tM rfl M2 rfl rfl rfl rfl rfl rfl (by omega) (by omega) (fun b3 w3 M3 => ?_)
    have hL13 := gW (T := 2) (sz := 1) (b := b3) (nn := n) (List.replicate n [.int .i64 0]) (fun l hl => by rw [List.eq_of_mem_replicate hl]; rfl) (by simp) (by omega)
    rw [hz0 (·.ny)] at hL13
    rw [hz0 (·.ny)] at M3
    refine aE (aF ⟨dZ, ?_⟩)
    refine aW rfl rfl rfl (fun _ => cC [(0, .slice _ _ _), (1, .slice _ _ _), (2, .slice _ _ _)] _ vZ rfl rfl) ?_
    refine eB [] rfl (by kernel_rfl) ?_
    refine bK (.agg (List.toArray _)) M3 rfl rfl rfl (fun b4 w4 M4 => ?_)
    refine aE (aF ⟨dZ, ?_⟩)
    refine aW rfl rfl rfl (fun _ => aD (.pointer _) rfl) ?_
    refine cE ?_
    refine aF (aG (aB ?_))
    refine aA (aC (.slice _ _ _) rfl) rfl rfl ?_
    refine aA (aC (.pointer _) rfl) rfl rfl ?_
    refine aA (dC [.pointer _] [] rfl rfl) rfl rfl ?_
    have M5 : Mem _ _ [_, _, _] _ := Mem.rot3' M4
    refine aL aNv rfl rfl rfl ?_
    refine (zO _ b4 ⟨some ⟨b2, 0, none⟩, n, n, (some b2, bc ((xs.map (fun b => eM xs (cs.take 0) (·.nx) b)).map bN).flatten 2)⟩ ⟨some ⟨b3, 0, none⟩, n, n, (some b3, bc ((xs.map (fun b => eM xs (cs.take 0) (·.ny) b)).map bN).flatten 2)⟩ A n c xs (R.mem M5) hs hb B mc c' cs (R'.mem M5) hcs hmc hL10 hL13 (M5.ownSeg 0 3) (M5.away 0 3 R (by simp)) (M5.away 0 3 R' (by simp))).mono ?_
    rintro _ w6 ⟨v6, rfl, ⟨rfl, ex, ey, hqx, hqy, hM6⟩⟩
    refine ⟨_, rfl, ?_⟩
    have M6 : Mem _ _ [_, _, _] _ := M5.seg 0 3 hM6
    refine aE (aF (aG ?_))
    refine bZ [(0, 0), (1, 0), (2, 0), (3, 1), (4, 0), (5, 0), (6, 0), (7, 1), (8, 0), (9, 0)] mixed rfl (by kernel_rfl) (fun w7 hb7 hh7 => ?_)
    have M7 := M6.drew hb7 hh7
    refine aW rfl rfl rfl (fun _ => aC (.pointer _) rfl) ?_
    refine aW rfl rfl rfl (fun _ => aV rfl) ?_
    refine aW rfl rfl rfl (fun _ => aH 1 kX rfl) ?_
    refine cB rfl rfl rfl (aZ 0 (.slice _ _ _) iK M7 rfl rfl rfl) ?_
    refine aW rfl rfl rfl (fun _ => aC (.pointer _) rfl) ?_
    refine aW rfl rfl rfl (fun _ => aV rfl) ?_
    refine aW rfl rfl rfl (fun _ => aH 2 kS rfl) ?_
    refine cB rfl rfl rfl (aZ 0 (.slice _ _ _) iK M7 rfl rfl rfl) ?_
    refine aW rfl rfl rfl (fun _ => aD (.slice _ _ _) rfl) ?_
    refine aW rfl rfl rfl (fun _ => aD (.slice _ _ _) rfl) ?_
    refine cE ?_
    refine aF (aR ?_)
    refine fG (.slice _ _ _) (.slice _ _ _) rfl rfl ?_
    exact ⟨⟨(some ⟨b2, 0, none⟩), n, n, ex⟩, ⟨(some ⟨b3, 0, none⟩), n, n, ey⟩, rfl, hqx, hqy, M7.keep [false, true, true]⟩
  · refine eB [] rfl (by kernel_rfl) ?_
    refine fS (n) [.int .i64 0] jW tM rfl M1 rfl rfl rfl rfl rfl rfl (by omega) (by omega) (fun b8 w8 M8 => ?_)
    have hL13 := gW (T := 2) (sz := 1) (b := b8) (nn := n) (List.replicate n [.int .i64 0]) (fun l hl => by rw [List.eq_of_mem_replicate hl]; rfl) (by simp) (by omega)
    rw [hz0 (·.ny)] at hL13
    rw [hz0 (·.ny)] at M8
    refine aE (aF ⟨dZ, ?_⟩)
    refine eB [] rfl (by kernel_rfl) ?_
    refine fS (n) [.int .i64 0] jW tM rfl M8 rfl rfl rfl rfl rfl rfl (by omega) (by omega) (fun b9 w9 M9 => ?_)
    have hL10 := gW (T := 2) (sz := 1) (b := b9) (nn := n) (List.replicate n [.int .i64 0]) (fun l hl => by rw [List.eq_of_mem_replicate hl]; rfl) (by simp) (by omega)
    rw [hz0 (·.nx)] at hL10
    rw [hz0 (·.nx)] at M9
    refine aE (aF ⟨dZ, ?_⟩)
    refine aW rfl rfl rfl (fun _ => cC [(0, .slice _ _ _), (1, .slice _ _ _), (2, .slice _ _ _)] _ vZ rfl rfl) ?_
    refine eB [] rfl (by kernel_rfl) ?_
    refine bK (.agg (List.toArray _)) M9 rfl rfl rfl (fun b10 w10 M10 => ?_)
    refine aE (aF ⟨dZ, ?_⟩)
    refine aW rfl rfl rfl (fun _ => aD (.pointer _) rfl) ?_
    refine cE ?_
    refine aF (aG (aB ?_))
    refine aA (aC (.slice _ _ _) rfl) rfl rfl ?_
    refine aA (aC (.pointer _) rfl) rfl rfl ?_
    refine aA (dC [.pointer _] [] rfl rfl) rfl rfl ?_
    have M11 : Mem _ _ [_, _, _] _ := Mem.rot3 M10
    refine aL aNv rfl rfl rfl ?_
    refine (zO _ b10 ⟨some ⟨b9, 0, none⟩, n, n, (some b9, bc ((xs.map (fun b => eM xs (cs.take 0) (·.nx) b)).map bN).flatten 2)⟩ ⟨some ⟨b8, 0, none⟩, n, n, (some b8, bc ((xs.map (fun b => eM xs (cs.take 0) (·.ny) b)).map bN).flatten 2)⟩ A n c xs (R.mem M11) hs hb B mc c' cs (R'.mem M11) hcs hmc hL10 hL13 (M11.ownSeg 0 3) (M11.away 0 3 R (by simp)) (M11.away 0 3 R' (by simp))).mono ?_
    rintro _ w12 ⟨v12, rfl, ⟨rfl, ex, ey, hqx, hqy, hM12⟩⟩
    refine ⟨_, rfl, ?_⟩
    have M12 : Mem _ _ [_, _, _] _ := M11.seg 0 3 hM12
    refine aE (aF (aG ?_))
    refine bZ [(0, 0), (1, 0), (2, 0), (3, 1), (4, 0), (5, 0), (6, 0), (7, 1), (8, 0), (9, 0)] mixed rfl (by kernel_rfl) (fun w13 hb13 hh13 => ?_)
    have M13 := M12.drew hb13 hh13
    refine aW rfl rfl rfl (fun _ => aC (.pointer _) rfl) ?_
    refine aW rfl rfl rfl (fun _ => aV rfl) ?_
    refine aW rfl rfl rfl (fun _ => aH 1 kX rfl) ?_
    refine cB rfl rfl rfl (aZ 0 (.slice _ _ _) iK M13 rfl rfl rfl) ?_
    refine aW rfl rfl rfl (fun _ => aC (.pointer _) rfl) ?_
    refine aW rfl rfl rfl (fun _ => aV rfl) ?_
    refine aW rfl rfl rfl (fun _ => aH 2 kS rfl) ?_
    refine cB rfl rfl rfl (aZ 0 (.slice _ _ _) iK M13 rfl rfl rfl) ?_
    refine aW rfl rfl rfl (fun _ => aD (.slice _ _ _) rfl) ?_
    refine aW rfl rfl rfl (fun _ => aD (.slice _ _ _) rfl) ?_
    refine cE ?_
    refine aF (aR ?_)
    refine fG (.slice _ _ _) (.slice _ _ _) rfl rfl ?_
    exact ⟨⟨(some ⟨b9, 0, none⟩), n, n, ex⟩, ⟨(some ⟨b8, 0, none⟩), n, n, ey⟩, rfl, hqx, hqy, M13.keep [false, true, true]⟩
end Go.Proofs.YtlmcphcgiclanaaGreatDoor

namespace Go.Proofs.YtlmcphcgiclanaaGreatDoor
open Go.Bil
open Go.RowKit (Below)
open Go.Proofs
set_option maxHeartbeats 8000000 in
theorem aIc (w : World) (A : Option Addr) (n c : Nat) (xs : List Body) (R : Rd w 10 A n (xs.map aI)) (hs : bL xs) (hb : ∀ b ∈ xs, Okb b) (hn : n ≤ 1048576) (B : Option Addr) (mc c' : Nat) (cs : List Con) (R' : Rd w 5 B mc (cs.map bY)) (hcs : ∀ c ∈ cs, OkC xs c) (hmc : mc ≤ 8589934592) :
    Calls Tryz.prog 108 #[.slice A n c, .slice B mc c'] w (fun ex w' => ∃ v, ex = .returned v ∧ (fun v w' => ∃ r : Row, v = .tuple #[.slice r.A r.n r.c, .bool (aMn xs cs)] ∧ aX 40 10 r.A r.n r.c ((xU xs cs).map aI) r.e ∧ Mem w [] [r.e] w') v w') := by
  have hlen : xs.length = n := by simpa using R.len
  have hbd := R.bound
  have hclen : cs.length = mc := by simpa using R'.len
  have hbd' := R'.bound
  refine aJ #[.tmp 4, .tmp 5] 75 Tryz.func108 rfl Tryz.results108 Tryz.ntmps108 rfl ?_
  have M0 := Mem.refl w
  refine aG (aB ?_)
  refine aA (aD (.slice _ _ _) rfl) rfl rfl ?_
  refine aA (aD (.bool false) rfl) rfl rfl ?_
  refine aE (aF (aG (aB ?_)))
  refine aA (aC (.slice _ _ _) rfl) rfl rfl ?_
  refine aA (aC (.slice _ _ _) rfl) rfl rfl ?_
  refine aL aUv rfl rfl rfl ?_
  refine (aMo _ A n c xs (R.mem M0) hs hb hn B mc c' cs (R'.mem M0) hcs hmc).mono ?_
  rintro _ w1 ⟨v1, rfl, ⟨rx, ry, rfl, hrx, hry, hM1⟩⟩
  refine ⟨_, rfl, ?_⟩
  have M1 : Mem _ _ [_, _] _ := M0.call0 hM1
  have hrxn : xs.length = rx.n := by simpa using hrx.1
  have hryn : xs.length = ry.n := by simpa using hry.1
  refine aA (aC (.tuple (List.toArray _)) rfl) rfl rfl ?_
  refine aA (bE (.slice _ _ _) rfl rfl) rfl rfl ?_
  refine aA (bE (.slice _ _ _) rfl rfl) rfl rfl ?_
  refine aA (aD (.slice _ _ _) rfl) rfl rfl ?_
  refine aA (aD (.slice _ _ _) rfl) rfl rfl ?_
  refine aE (aF (aG (aB ?_)))
  refine aA (aD (.bool false) rfl) rfl rfl ?_
  refine aE (aF (aG (aB ?_)))
  refine aA (aD (.slice _ _ _) rfl) rfl rfl ?_
  have M2 := M1.dummy default
  refine aE (aF (aG (aG (aB ?_))))
  refine aA (aC (.slice _ _ _) rfl) rfl rfl ?_
  refine aA (cS Tryz.underlying22 rfl) rfl rfl ?_
  refine aA (aC (.int _ _) rfl) rfl rfl ?_
  refine aE (aF (bA ?_))
  refine dI (σ := Nat × Row) [4, 5, 6, 7, 22, 23] (fun (k, q) => [(8, .bool ((xs.take k).any (aQv xs cs))), (9, .slice q.A q.n q.c), (24, .int .i64 (k : Int))]) (fun (k, q) w' => (k ≤ n ∧ aX 40 10 q.A q.n q.c (((xs.take k).map (aBt xs cs)).map aI) q.e) ∧ Mem w [] [rx.e, ry.e, q.e] w') (fun (k, q) => n - k) (0, gE) (bS (bv rfl rfl) (bS rfl (bS rfl eV))) (⟨⟨by omega, aX.nil _ _ _⟩, M2⟩) ?_
  rintro ⟨k, q⟩ ρ3 w3 ⟨⟨hk, hq⟩, hM3⟩
  have htl := List.length_take_le k xs
  have hqn : (xs.take k).length = q.n := by simpa using hq.1
  refine aG (aB ?_)
  refine aA (aO (.bool (decide _)) rfl rfl rfl) rfl rfl ?_
  refine aE (aF (aG ?_))
  refine aY rfl (fun h25 => ?_) (fun h25 => ?_)
  · obtain ⟨xb, hxb⟩ := cN (xs := xs) (k := k) hlen (by omega)
    have hxm := List.mem_of_getElem? hxb
    have hsb := aQw hs hb hcs hclen hmc hxm
    have hvb := (hb xb hxm).v
    have hlx := eQ (xb.vx + eM xs cs (·.nx) xb) (l := 16777216) (by decide)
    have hly := eQ (xb.vy + eM xs cs (·.ny) xb) (l := 16777216) (by decide)
    refine aN (aF (aG (bA (aG (aB ?_)))))
    refine aA (aC (.int _ _) rfl) rfl rfl ?_
    refine aA (bO (k) dD rfl rfl rfl ((R.mem hM3).below_len (aK aI hxb)) ((R.mem hM3).someK (aK aI hxb))) rfl rfl ?_
    refine aA (dO _ bW (R.mem hM3) (aK aI hxb) rfl) rfl rfl ?_
    refine aS kD hM3 rfl rfl (fun b4 w4 M4 => ?_)
    refine aA (aD (.int _ _) rfl) rfl rfl ?_
    refine bJ 3 _ bW M4 rfl rfl rfl rfl rfl (aU rfl) rfl (fun w5 M5 => ?_)
    refine aE (aF (aG ?_))
    refine bZ [(0, 0), (1, 0), (2, 1), (3, 0), (4, 0), (5, 0), (6, 1), (7, 1), (8, 0), (9, 2), (10, 0), (11, 0), (12, 0), (13, 0), (14, 0)] mixed rfl (by kernel_rfl) (fun w6 hb6 hh6 => ?_)
    have M6 := M5.drew hb6 hh6
    refine aW rfl rfl rfl (fun _ => aH 8 eF rfl) ?_
    refine aW rfl rfl rfl (fun _ => aH 0 dQ rfl) ?_
    refine cB rfl rfl rfl (aZ 3 (.int _ _) bH M6 rfl rfl rfl) ?_
    refine aW rfl rfl rfl (fun _ => bR fQ Tryz.underlying2 rfl (jL _ (by omega) (by omega))) ?_
    refine aW rfl rfl rfl (fun _ => aC (.slice _ _ _) rfl) ?_
    refine aW rfl rfl rfl (fun _ => aC (.int _ _) rfl) ?_
    refine cB rfl rfl rfl (bO (k) jW rfl rfl rfl ((hrx.rd M6 (aP (i := 0) rfl)).below_len (aK bN (aK _ hxb))) ((hrx.rd M6 (aP (i := 0) rfl)).someK (aK bN (aK _ hxb)))) ?_
    refine cB rfl rfl rfl (jJ (.int _ _) jE (hrx.rd M6 (aP (i := 0) rfl)) (aK bN (aK _ hxb)) rfl) ?_
    refine aW rfl rfl rfl (fun _ => bX rfl rfl (by omega) (by omega)) ?_
    refine eB [true, true, true] rfl (by kernel_rfl) ?_
    refine aL aDj rfl rfl rfl ?_
    refine (tR _ (xb.vx + eM xs cs (·.nx) xb) 16777216 ⟨by decide, by decide⟩).mono ?_
    rintro _ w7 ⟨v7, rfl, ⟨rfl, hb7⟩⟩
    refine ⟨_, rfl, ?_⟩
    have M7 := M6.callB hb7
    refine aE (aF ⟨dZ, ?_⟩)
    refine aW rfl rfl rfl (fun _ => aC (.tuple (List.toArray _)) rfl) ?_
    refine aW rfl rfl rfl (fun _ => bE (.int _ _) rfl rfl) ?_
    refine aW rfl rfl rfl (fun _ => bE (.bool (decide _)) rfl rfl) ?_
    refine aW rfl rfl rfl (fun _ => aD (.int _ _) rfl) ?_
    refine aW rfl rfl rfl (fun _ => aD (.bool (decide _)) rfl) ?_
    refine cE ?_
    refine aF (aG ?_)
    refine bZ [(0, 0), (1, 0), (2, 1), (3, 0), (4, 0), (5, 0), (6, 1), (7, 1), (8, 0), (9, 2), (10, 0), (11, 0), (12, 0), (13, 0), (14, 0)] mixed rfl (by kernel_rfl) (fun w8 hb8 hh8 => ?_)
    have M8 := M7.drew hb8 hh8
    refine aW rfl rfl rfl (fun _ => aH 8 eF rfl) ?_
    refine aW rfl rfl rfl (fun _ => aH 1 dH rfl) ?_
    refine cB rfl rfl rfl (aZ 3 (.int _ _) bH M8 rfl rfl rfl) ?_
    refine aW rfl rfl rfl (fun _ => bR fQ Tryz.underlying2 rfl (jL _ (by omega) (by omega))) ?_
    refine aW rfl rfl rfl (fun _ => aC (.slice _ _ _) rfl) ?_
    refine aW rfl rfl rfl (fun _ => aC (.int _ _) rfl) ?_
    refine cB rfl rfl rfl (bO (k) jW rfl rfl rfl ((hry.rd M8 (aP (i := 1) rfl)).below_len (aK bN (aK _ hxb))) ((hry.rd M8 (aP (i := 1) rfl)).someK (aK bN (aK _ hxb)))) ?_
    refine cB rfl rfl rfl (jJ (.int _ _) jE (hry.rd M8 (aP (i := 1) rfl)) (aK bN (aK _ hxb)) rfl) ?_
    refine aW rfl rfl rfl (fun _ => bX rfl rfl (by omega) (by omega)) ?_
    refine eB [true, true, true] rfl (by kernel_rfl) ?_
    refine aL aDj rfl rfl rfl ?_
    refine (tR _ (xb.vy + eM xs cs (·.ny) xb) 16777216 ⟨by decide, by decide⟩).mono ?_
    rintro _ w9 ⟨v9, rfl, ⟨rfl, hb9⟩⟩
    refine ⟨_, rfl, ?_⟩
    have M9 := M8.callB hb9
    refine aE (aF ⟨dZ, ?_⟩)
    refine aW rfl rfl rfl (fun _ => aC (.tuple (List.toArray _)) rfl) ?_
    refine aW rfl rfl rfl (fun _ => bE (.int _ _) rfl rfl) ?_
    refine aW rfl rfl rfl (fun _ => bE (.bool (decide _)) rfl rfl) ?_
    refine aW rfl rfl rfl (fun _ => aD (.int _ _) rfl) ?_
    refine aW rfl rfl rfl (fun _ => aD (.bool (decide _)) rfl) ?_
    refine cE ?_
    refine aF (aG (aB ?_))
    refine aA (aC (.int _ _) rfl) rfl rfl ?_
    refine aA (bR us2 Tryz.underlying21 rfl (jM _ (by omega) (by omega))) rfl rfl ?_
    refine aA (aC (.int _ _) rfl) rfl rfl ?_
    refine aA (bR us2 Tryz.underlying21 rfl (jM _ (by omega) (by omega))) rfl rfl ?_
    refine aA (cC [(0, .int _ _), (1, .int _ _)] _ dY rfl rfl) rfl rfl ?_
    refine aA (aH 8 eF rfl) rfl rfl ?_
    refine qK 3 _ bI M9 rfl rfl rfl rfl rfl (aU rfl) (Nat.le_of_ble_eq_true rfl) (fun w10 M10 => ?_)
    refine aE (aF (aG (aB ?_)))
    refine aA (aC (.bool _) rfl) rfl rfl ?_
    refine aA (aC (.bool _) rfl) rfl rfl ?_
    refine iS 62 _ rfl (fun g62 => ?_) (fun g62 => ?_)
    · refine aT rfl rfl ?_
      refine aA (bP true (.bool true) rfl rfl) rfl rfl ?_
      refine aA (aC (.bool true) rfl) rfl rfl ?_
      refine aT rfl rfl ?_
      refine aA (bP true (.bool true) rfl rfl) rfl rfl ?_
      refine aA (aD (.bool true) rfl) rfl rfl ?_
      refine aE (aF (aB ?_))
      refine aA (aC (.slice _ _ _) rfl) rfl rfl ?_
      refine aA (bB 3 bW M10 rfl rfl rfl) rfl rfl ?_
      refine cM [.agg (List.toArray _)] [aI (aBt xs cs xb)] rfl dD M10 rfl rfl rfl rfl (cW rfl) (by decide) (fun b11 w11 M11 => ?_)
      refine dM 2 [aI (aBt xs cs xb)] dD M11 rfl rfl rfl rfl rfl hq rfl (by simp [aI, Go.Bil.one]) (cO.ofMem 4 M11 rfl) (by omega) (fun A12 c12 e12 w12 M12 hR12 => ?_)
      refine aA (aD (.slice _ _ _) rfl) rfl rfl ?_
      refine aE ?_
      refine dJ ?_
      refine aF (aB ?_)
      refine aA (bX rfl rfl (by omega) (by omega)) rfl rfl ?_
      refine aA (aC (.int _ _) rfl) rfl rfl ?_
      refine aE ?_
      refine cF (k + 1, ⟨A12, q.n + 1, c12, e12⟩) (bS (bv rfl (by rw [cJ hxb, List.any_append, List.any_cons, List.any_nil, Bool.or_false]; rw [g62, Bool.true_or])) (bS rfl (bS rfl eV))) (cL rfl (cL rfl (cL rfl (cL rfl (cL rfl (cL rfl iI)))))) ?_ ?_
      · exact ⟨⟨by omega, by rw [cJ hxb, List.map_append, List.map_append]; exact hR12⟩, M12.keep [true, true, true, false, false]⟩
      · (show n - (k + 1) < n - k; omega)
    · refine aA (aC (.bool (decide _)) rfl) rfl rfl ?_
      refine aA (bP false (.bool (decide _)) rfl rfl) rfl rfl ?_
      refine aA (aC (.bool (decide _)) rfl) rfl rfl ?_
      refine dK 65 rfl (fun g65 => ?_) (fun g65 => ?_)
      · refine aT rfl rfl ?_
        refine aA (bP true (.bool true) rfl rfl) rfl rfl ?_
        refine aA (aD (.bool true) rfl) rfl rfl ?_
        refine aE (aF (aB ?_))
        refine aA (aC (.slice _ _ _) rfl) rfl rfl ?_
        refine aA (bB 3 bW M10 rfl rfl rfl) rfl rfl ?_
        refine cM [.agg (List.toArray _)] [aI (aBt xs cs xb)] rfl dD M10 rfl rfl rfl rfl (cW rfl) (by decide) (fun b13 w13 M13 => ?_)
        refine dM 2 [aI (aBt xs cs xb)] dD M13 rfl rfl rfl rfl rfl hq rfl (by simp [aI, Go.Bil.one]) (cO.ofMem 4 M13 rfl) (by omega) (fun A14 c14 e14 w14 M14 hR14 => ?_)
        refine aA (aD (.slice _ _ _) rfl) rfl rfl ?_
        refine aE ?_
        refine dJ ?_
        refine aF (aB ?_)
        refine aA (bX rfl rfl (by omega) (by omega)) rfl rfl ?_
        refine aA (aC (.int _ _) rfl) rfl rfl ?_
        refine aE ?_
        refine cF (k + 1, ⟨A14, q.n + 1, c14, e14⟩) (bS (bv rfl (by rw [cJ hxb, List.any_append, List.any_cons, List.any_nil, Bool.or_false]; rw [g62]; simp [aQv, g65])) (bS rfl (bS rfl eV))) (cL rfl (cL rfl (cL rfl (cL rfl (cL rfl (cL rfl iI)))))) ?_ ?_
        · exact ⟨⟨by omega, by rw [cJ hxb, List.map_append, List.map_append]; exact hR14⟩, M14.keep [true, true, true, false, false]⟩
        · (show n - (k + 1) < n - k; omega)
      · refine aA (aC (.bool (decide _)) rfl) rfl rfl ?_
        refine aA (bP false (.bool (decide _)) rfl rfl) rfl rfl ?_
        refine aA (aD (.bool (decide _)) rfl) rfl rfl ?_
        refine aE (aF (aB ?_))
        refine aA (aC (.slice _ _ _) rfl) rfl rfl ?_
        refine aA (bB 3 bW M10 rfl rfl rfl) rfl rfl ?_
        refine cM [.agg (List.toArray _)] [aI (aBt xs cs xb)] rfl dD M10 rfl rfl rfl rfl (cW rfl) (by decide) (fun b15 w15 M15 => ?_)
        refine dM 2 [aI (aBt xs cs xb)] dD M15 rfl rfl rfl rfl rfl hq rfl (by simp [aI, Go.Bil.one]) (cO.ofMem 4 M15 rfl) (by omega) (fun A16 c16 e16 w16 M16 hR16 => ?_)
        refine aA (aD (.slice _ _ _) rfl) rfl rfl ?_
        refine aE ?_
        refine dJ ?_
        refine aF (aB ?_)
        refine aA (bX rfl rfl (by omega) (by omega)) rfl rfl ?_
        refine aA (aC (.int _ _) rfl) rfl rfl ?_
        refine aE ?_
        refine cF (k + 1, ⟨A16, q.n + 1, c16, e16⟩) (bS (bv rfl (by rw [cJ hxb, List.any_append, List.any_cons, List.any_nil, Bool.or_false]; rw [g62]; simp [aQv, g65])) (bS rfl (bS rfl eV))) (cL rfl (cL rfl (cL rfl (cL rfl (cL rfl (cL rfl iI)))))) ?_ ?_
        · exact ⟨⟨by omega, by rw [cJ hxb, List.map_append, List.map_append]; exact hR16⟩, M16.keep [true, true, true, false, false]⟩
        · (show n - (k + 1) < n - k; omega)
  · have hkn : k = n := by omega
    rw [List.take_of_length_le (by omega)] at hq
    refine cK ?_
    refine dB ?_
    refine cY ?_
    refine eN ?_
    refine aF (aG (aB ?_))
    refine aA (aC (.slice _ _ _) rfl) rfl rfl ?_
    refine aA (aC (.bool _) rfl) rfl rfl ?_
    refine aA (aD (.slice _ _ _) rfl) rfl rfl ?_
    refine aA (aD (.bool _) rfl) rfl rfl ?_
    refine aE (aF (aR ?_))
    refine fG (.slice _ _ _) (.bool _) rfl rfl ?_
    exact ⟨q, rV rfl (congrArg Value.bool (by rw [List.take_of_length_le (by omega)]; rfl)), hq, hM3.keep [false, false, true]⟩
set_option maxHeartbeats 4000000 in
theorem aGk (w : World) (A : Option Addr) (n c : Nat) (xs : List Body) (R : Rd w 10 A n (xs.map aI)) (hs : bL xs) (hb : ∀ b ∈ xs, Okb b) (hn : n ≤ 1048576) (B : Option Addr) (mc c' : Nat) (cs : List Con) (R' : Rd w 5 B mc (cs.map bY)) (hcs : ∀ c ∈ cs, OkC xs c) (hmc : mc ≤ 8589934592) :
    Calls Tryz.prog 73 #[.slice A n c, .slice B mc c'] w (fun ex w' => ∃ v, ex = .returned v ∧ (fun v w' => ∃ r : Row, v = .tuple #[.slice r.A r.n r.c, .bool (fN xs cs 4).2] ∧ aX 40 10 r.A r.n r.c (((fN xs cs 4).1).map aI) r.e ∧ Mem w [] [r.e] w') v w') := by
  have hlen : xs.length = n := by simpa using R.len
  have hbd := R.bound
  have hclen : cs.length = mc := by simpa using R'.len
  have hbd' := R'.bound
  refine aJ #[.tmp 4, .tmp 5] 25 Tryz.func73 rfl Tryz.results73 Tryz.ntmps73 rfl ?_
  have M0 := Mem.refl w
  refine aG (aB ?_)
  refine aA (aD (.slice _ _ _) rfl) rfl rfl ?_
  refine aA (aD (.bool false) rfl) rfl rfl ?_
  refine aE (aF (aG (aB ?_)))
  refine aA (aD (.bool false) rfl) rfl rfl ?_
  have M1 := M0.dummy default
  refine aE (aF (aG (aG (aB ?_))))
  refine aA (aC (.int _ _) rfl) rfl rfl ?_
  refine aE (aF (bA ?_))
  refine dI (σ := Nat × Row) [1, 4, 5] (fun (k, q) => [(0, .slice q.A q.n q.c), (6, .bool (fN xs cs k).2), (9, .int .i64 (k : Int))]) (fun (k, q) w' => (k ≤ 4 ∧ Rd w' 10 q.A q.n ((fN xs cs k).1.map aI) ∧ (0 < k → aX 40 10 q.A q.n q.c (((fN xs cs k).1).map aI) q.e)) ∧ Mem w [] [q.e] w') (fun (k, q) => 4 - k) (0, ⟨A, n, c, (none, default)⟩) (bS rfl (bS (bv rfl rfl) (bS rfl eV))) (⟨⟨by omega, R.mem M1, (fun h => absurd h (by omega))⟩, M1⟩) ?_
  rintro ⟨k, q⟩ ρ2 w2 ⟨⟨hk, hRq, hq⟩, hM2⟩
  have hql : (fN xs cs k).1.length = q.n := by simpa using hRq.len
  have hsl := (iA xs cs k).len
  refine aG (aB ?_)
  refine aA (aO (.bool (decide _)) rfl rfl rfl) rfl rfl ?_
  refine aE (aF (aG ?_))
  refine aY rfl (fun h10 => ?_) (fun h10 => ?_)
  · refine aN (aF (aG (bA (aG (aB ?_)))))
    refine aA (aC (.slice _ _ _) rfl) rfl rfl ?_
    refine aA (aC (.slice _ _ _) rfl) rfl rfl ?_
    refine aL aSu rfl rfl rfl ?_
    refine (aIc _ q.A q.n q.c (fN xs cs k).1 hRq ((iA xs cs k).sorted hs) (pJ hb k) (by omega) B mc c' cs (R'.mem hM2) (fun c h => (iA xs cs k).okc (hcs c h)) hmc).mono ?_
    rintro _ w3 ⟨v3, rfl, ⟨r, rfl, hr, hM3⟩⟩
    refine ⟨_, rfl, ?_⟩
    have M3 : Mem _ _ [_, _] _ := hM2.call0 hM3
    refine aA (aC (.tuple (List.toArray _)) rfl) rfl rfl ?_
    refine aA (bE (.slice _ _ _) rfl rfl) rfl rfl ?_
    refine aA (bE (.bool _) rfl rfl) rfl rfl ?_
    refine aA (aD (.slice _ _ _) rfl) rfl rfl ?_
    refine aA (aD (.bool _) rfl) rfl rfl ?_
    refine aE (aF (aB ?_))
    refine aA (aC (.slice _ _ _) rfl) rfl rfl ?_
    refine aA (aC (.bool _) rfl) rfl rfl ?_
    refine aA (aC (.bool _) rfl) rfl rfl ?_
    refine iS 19 _ rfl (fun g19 => ?_) (fun g19 => ?_)
    · refine aT rfl rfl ?_
      refine aA (bP true (.bool true) rfl rfl) rfl rfl ?_
      refine aA (aD (.slice _ _ _) rfl) rfl rfl ?_
      refine aA (aD (.bool true) rfl) rfl rfl ?_
      refine aE ?_
      refine dJ ?_
      refine aF (aB ?_)
      refine aA (bX rfl rfl (by omega) (by omega)) rfl rfl ?_
      refine aA (aC (.int _ _) rfl) rfl rfl ?_
      refine aE ?_
      refine cF (k + 1, r) (bS rfl (bS (bv rfl (by show true = (_ || _); rw [g19, Bool.true_or])) (bS rfl eV))) (cL rfl (cL rfl (cL rfl iI))) ?_ ?_
      · exact ⟨⟨by omega, hr.rd M3 (aP (i := 1) rfl), (fun _ => hr)⟩, M3.keep [false, true]⟩
      · (show 4 - (k + 1) < 4 - k; omega)
    · refine aA (aC (.bool _) rfl) rfl rfl ?_
      refine aA (bP false (.bool _) rfl rfl) rfl rfl ?_
      refine aA (aD (.slice _ _ _) rfl) rfl rfl ?_
      refine aA (aD (.bool _) rfl) rfl rfl ?_
      refine aE ?_
      refine dJ ?_
      refine aF (aB ?_)
      refine aA (bX rfl rfl (by omega) (by omega)) rfl rfl ?_
      refine aA (aC (.int _ _) rfl) rfl rfl ?_
      refine aE ?_
      refine cF (k + 1, r) (bS rfl (bS (bv rfl (by show _ = (_ || _); rw [g19, Bool.false_or])) (bS rfl eV))) (cL rfl (cL rfl (cL rfl iI))) ?_ ?_
      · exact ⟨⟨by omega, hr.rd M3 (aP (i := 1) rfl), (fun _ => hr)⟩, M3.keep [false, true]⟩
      · (show 4 - (k + 1) < 4 - k; omega)
  · have hk4 : k = 4 := by omega
    rw [hk4] at hq
    refine cK ?_
    refine dB ?_
    refine cY ?_
    refine eN ?_
    refine aF (aG (aB ?_))
    refine aA (aC (.slice _ _ _) rfl) rfl rfl ?_
    refine aA (aC (.bool _) rfl) rfl rfl ?_
    refine aA (aD (.slice _ _ _) rfl) rfl rfl ?_
    refine aA (aD (.bool _) rfl) rfl rfl ?_
    refine aE (aF (aR ?_))
    refine fG (.slice _ _ _) (.bool _) rfl rfl ?_
    exact ⟨q, rV rfl (congrArg Value.bool (by rw [hk4])), hq (by omega), hM2⟩
end Go.Proofs.YtlmcphcgiclanaaGreatDoor

namespace Go.Proofs.YtlmcphcgiclanaaGreatDoor
open Go.Bil
open Go.RowKit (Below)
open Go.Proofs
set_option maxHeartbeats 4000000 in
theorem uA (w : World) (c : Con) (a b : Body) (hc : Okn c) (ha : Okb a) (hb : Okb b) :
    Calls Tryz.prog 142 #[.agg (bY c).toArray, (.agg (aI a).toArray), (.agg (aI b).toArray)] w (fun ex w' => ∃ v, ex = .returned v ∧ (fun v w' => v = .int .i64 (mC c a b) ∧ Below w.heap.size w w') v w') := by
  have hdp := hc.d
  have hm1 := ha.m
  have hm2 := hb.m
  refine aJ #[.tmp 6] 27 Tryz.func142 rfl Tryz.results142 Tryz.ntmps142 rfl ?_
  have M0 := Mem.refl w
  refine aG (aB ?_)
  refine bK (.agg (List.toArray _)) M0 rfl rfl rfl (fun b1 w1 M1 => ?_)
  refine bK (.agg (List.toArray _)) M1 rfl rfl rfl (fun b2 w2 M2 => ?_)
  refine bK (.agg (List.toArray _)) M2 rfl rfl rfl (fun b3 w3 M3 => ?_)
  refine aA (aD (.int _ _) rfl) rfl rfl ?_
  refine aE (aF (aG (aB ?_)))
  refine aA (aH 4 aLn rfl) rfl rfl ?_
  refine aA (aZ 0 (.int _ _) bH M3 rfl rfl rfl) rfl rfl ?_
  refine aA (bR fQ Tryz.underlying2 rfl (jL _ (by omega) (by omega))) rfl rfl ?_
  refine aA (mL rfl rfl (by omega) (by omega)) rfl rfl ?_
  refine aA (aD (.int _ _) rfl) rfl rfl ?_
  refine aE (aF (aG (aG (aB ?_))))
  refine aA (aC (.int _ _) rfl) rfl rfl ?_
  refine aA (aO (.bool (decide _)) rfl rfl rfl) rfl rfl ?_
  refine aA (aC (.bool (decide _)) rfl) rfl rfl ?_
  refine dK 14 rfl (fun g14 => ?_) (fun g14 => ?_)
  · refine aT rfl rfl ?_
    refine aT rfl rfl ?_
    refine aT rfl rfl ?_
    refine aT rfl rfl ?_
    refine aT rfl rfl ?_
    refine aT rfl rfl ?_
    refine aT rfl rfl ?_
    refine aT rfl rfl ?_
    refine aA (bP true (.bool true) rfl rfl) rfl rfl ?_
    refine aE (aF ?_)
    refine dP rfl ?_
    refine aG (aB ?_)
    refine aA (aD (.int _ _) rfl) rfl rfl ?_
    refine aE (aF (aR (cP ?_)))
    refine cI (.int _ _) rfl ?_
    exact ⟨iE (by unfold mC; rw [if_pos (by omega)]), M3.below⟩
  · refine aA (aH 4 fB rfl) rfl rfl ?_
    refine aA (aZ 1 (.int _ _) bH M3 rfl rfl rfl) rfl rfl ?_
    refine aA (aO (.bool (decide _)) rfl rfl rfl) rfl rfl ?_
    refine aA (aC (.bool (decide _)) rfl) rfl rfl ?_
    refine dK 18 rfl (fun g18 => ?_) (fun g18 => ?_)
    · refine aA (aH 4 fB rfl) rfl rfl ?_
      refine aA (aZ 2 (.int _ _) bH M3 rfl rfl rfl) rfl rfl ?_
      refine aA (aO (.bool (decide _)) rfl rfl rfl) rfl rfl ?_
      refine aA (bP true (.bool (decide _)) rfl rfl) rfl rfl ?_
      refine aA (bP false (.bool (decide _)) rfl rfl) rfl rfl ?_
      refine aE (aF ?_)
      refine aY rfl (fun h23 => ?_) (fun h23 => ?_)
      · refine aG (aB ?_)
        refine aA (aD (.int _ _) rfl) rfl rfl ?_
        refine aE (aF (aR (cP ?_)))
        refine cI (.int _ _) rfl ?_
        exact ⟨iE (by unfold mC; rw [if_pos (by omega)]), M3.below⟩
      · refine aN (aF (aG (aB ?_)))
        refine aA (aC (.int _ _) rfl) rfl rfl ?_
        refine aA (jR rfl rfl (by omega) (by omega)) rfl rfl ?_
        refine aA (gQ rfl rfl (by decide)) rfl rfl ?_
        refine aA (aD (.int _ _) rfl) rfl rfl ?_
        refine aE (aF (aR ?_))
        refine cI (.int _ _) rfl ?_
        exact ⟨iE (by unfold mC; rw [if_neg (by omega)]; exact nJ _), M3.below⟩
    · refine aT rfl rfl ?_
      refine aT rfl rfl ?_
      refine aT rfl rfl ?_
      refine aA (bP false (.bool false) rfl rfl) rfl rfl ?_
      refine aA (bP false (.bool false) rfl rfl) rfl rfl ?_
      refine aE (aF ?_)
      refine cH rfl ?_
      refine aN (aF (aG (aB ?_)))
      refine aA (aC (.int _ _) rfl) rfl rfl ?_
      refine aA (jR rfl rfl (by omega) (by omega)) rfl rfl ?_
      refine aA (gQ rfl rfl (by decide)) rfl rfl ?_
      refine aA (aD (.int _ _) rfl) rfl rfl ?_
      refine aE (aF (aR ?_))
      refine cI (.int _ _) rfl ?_
      exact ⟨iE (by unfold mC; rw [if_neg (by omega)]; exact nJ _), M3.below⟩
set_option maxHeartbeats 4000000 in
theorem wU (w : World) (c : Con) (a b : Body) (hc : Okn c) (ha : Okb a) (hb : Okb b) (hi : Bool) :
    Calls Tryz.prog 111 #[.agg (bY c).toArray, (.agg (aI a).toArray), (.agg (aI b).toArray), .bool hi] w (fun ex w' => ∃ v, ex = .returned v ∧ (fun v w' => v = .int .i64 (lX c a b (if hi = true then b.mass else a.mass)) ∧ Below w.heap.size w w') v w') := by
  have hdp := hc.d
  have hm1 := ha.m
  have hm2 := hb.m
  have hm0 : 0 ≤ (if hi = true then b.mass else a.mass) ∧ (if hi = true then b.mass else a.mass) ≤ 1048576 := by split <;> omega
  have hsr := aPs (a := a) (b := b) hc hm0
  have har := xS (a := a) (b := b) hc
  refine aJ #[.tmp 8] 36 Tryz.func111 rfl Tryz.results111 Tryz.ntmps111 rfl ?_
  have M0 := Mem.refl w
  refine aG (aB ?_)
  refine bK (.agg (List.toArray _)) M0 rfl rfl rfl (fun b1 w1 M1 => ?_)
  refine bK (.agg (List.toArray _)) M1 rfl rfl rfl (fun b2 w2 M2 => ?_)
  refine bK (.agg (List.toArray _)) M2 rfl rfl rfl (fun b3 w3 M3 => ?_)
  refine aA (aD (.int _ _) rfl) rfl rfl ?_
  refine aE (aF (aG (aB ?_)))
  refine aA (aH 4 fB rfl) rfl rfl ?_
  refine aA (aZ 1 (.int _ _) bH M3 rfl rfl rfl) rfl rfl ?_
  refine aA (aD (.int _ _) rfl) rfl rfl ?_
  refine aE (aF (aG (aG (aB ?_))))
  refine aA (aC (.bool _) rfl) rfl rfl ?_
  refine aE (aF ?_)
  refine iJ _ rfl (fun h14 => ?_) (fun h14 => ?_)
  · refine aB ?_
    refine aA (aH 4 fB rfl) rfl rfl ?_
    refine aA (aZ 2 (.int _ _) bH M3 rfl rfl rfl) rfl rfl ?_
    refine aA (aD (.int _ _) rfl) rfl rfl ?_
    refine aE (aF (aG ?_))
    refine bZ [(0, 1), (1, 1), (2, 1), (4, 0), (5, 0), (6, 0), (7, 1), (8, 0), (9, 0), (10, 1), (11, 0), (12, 0), (13, 0), (3, 2), (14, 2), (15, 0), (16, 0), (17, 0), (18, 0), (19, 0)] mixed rfl (by kernel_rfl) (fun w4 hb4 hh4 => ?_)
    have M4 := M3.drew hb4 hh4
    refine cB rfl rfl rfl (bB 0 eX M4 rfl rfl rfl) ?_
    refine cB rfl rfl rfl (bB 1 bW M4 rfl rfl rfl) ?_
    refine cB rfl rfl rfl (bB 2 bW M4 rfl rfl rfl) ?_
    refine aW rfl rfl rfl (fun _ => aC (.int _ _) rfl) ?_
    refine aW rfl rfl rfl (fun _ => bR fQ Tryz.underlying2 rfl (jL _ (by omega) (by omega))) ?_
    refine mN 23 (.int .i64 (if hi = true then b.mass else a.mass)) (iE (by rw [h14]; rfl)) ?_
    refine aW rfl rfl rfl (fun _ => aH 4 fB rfl) ?_
    refine cB rfl rfl rfl (aZ 1 (.int _ _) bH M4 rfl rfl rfl) ?_
    refine aW rfl rfl rfl (fun _ => bR fQ Tryz.underlying2 rfl (jL _ (by omega) (by omega))) ?_
    refine aW rfl rfl rfl (fun _ => aH 4 fB rfl) ?_
    refine cB rfl rfl rfl (aZ 2 (.int _ _) bH M4 rfl rfl rfl) ?_
    refine aW rfl rfl rfl (fun _ => bR fQ Tryz.underlying2 rfl (jL _ (by omega) (by omega))) ?_
    refine aW rfl rfl rfl (fun _ => bX rfl rfl (by omega) (by omega)) ?_
    refine aW rfl rfl rfl (fun _ => kH rfl rfl ) ?_
    refine eB [false, false, true, true, true] rfl (by kernel_rfl) ?_
    refine aL aMq rfl rfl rfl ?_
    refine (uA _ c a b hc ha hb).mono ?_
    rintro _ w5 ⟨v5, rfl, ⟨rfl, hb5⟩⟩
    refine ⟨_, rfl, ?_⟩
    have M5 := M4.callB hb5
    refine aE (aF ⟨(kO (dG rfl (aZ 2 (.int _ _) bH M5 rfl rfl rfl)) (kO (dG rfl (aZ 1 (.int _ _) bH M5 rfl rfl rfl)) dZ)), ?_⟩)
    refine eB [true, true] rfl (by kernel_rfl) ?_
    refine aL yJ rfl rfl rfl ?_
    refine (yX _ (mC c a b) (if hi = true then b.mass else a.mass) (max 1 (a.mass + b.mass)) (by omega) hm0.1 (by omega) (by omega) (by omega) (by omega) (by omega)).mono ?_
    rintro _ w6 ⟨v6, rfl, ⟨rfl, hb6⟩⟩
    refine ⟨_, rfl, ?_⟩
    have M6 := M5.callB hb6
    refine aE (aF ⟨dZ, ?_⟩)
    refine aW rfl rfl rfl (fun _ => aC (.tuple (List.toArray _)) rfl) ?_
    refine aW rfl rfl rfl (fun _ => bE (.int _ _) rfl rfl) ?_
    refine aW rfl rfl rfl (fun _ => bE (.int _ _) rfl rfl) ?_
    refine aW rfl rfl rfl (fun _ => aD (.int _ _) rfl) ?_
    refine aW rfl rfl rfl (fun _ => aD (.int _ _) rfl) ?_
    refine cE ?_
    refine aF (aG (aB ?_))
    refine aA (aC (.int _ _) rfl) rfl rfl ?_
    refine aA (aD (.int _ _) rfl) rfl rfl ?_
    refine aE (aF (aR ?_))
    refine cI (.int _ _) rfl ?_
    exact ⟨rfl, M6.below⟩
  · refine aN (aF (aG ?_))
    refine bZ [(0, 1), (1, 1), (2, 1), (4, 0), (5, 0), (6, 0), (7, 1), (8, 0), (9, 0), (10, 1), (11, 0), (12, 0), (13, 0), (3, 2), (14, 2), (15, 0), (16, 0), (17, 0), (18, 0), (19, 0)] mixed rfl (by kernel_rfl) (fun w7 hb7 hh7 => ?_)
    have M7 := M3.drew hb7 hh7
    refine cB rfl rfl rfl (bB 0 eX M7 rfl rfl rfl) ?_
    refine cB rfl rfl rfl (bB 1 bW M7 rfl rfl rfl) ?_
    refine cB rfl rfl rfl (bB 2 bW M7 rfl rfl rfl) ?_
    refine aW rfl rfl rfl (fun _ => aC (.int _ _) rfl) ?_
    refine aW rfl rfl rfl (fun _ => bR fQ Tryz.underlying2 rfl (jL _ (by omega) (by omega))) ?_
    refine mN 23 (.int .i64 (if hi = true then b.mass else a.mass)) (iE (by rw [h14]; rfl)) ?_
    refine aW rfl rfl rfl (fun _ => aH 4 fB rfl) ?_
    refine cB rfl rfl rfl (aZ 1 (.int _ _) bH M7 rfl rfl rfl) ?_
    refine aW rfl rfl rfl (fun _ => bR fQ Tryz.underlying2 rfl (jL _ (by omega) (by omega))) ?_
    refine aW rfl rfl rfl (fun _ => aH 4 fB rfl) ?_
    refine cB rfl rfl rfl (aZ 2 (.int _ _) bH M7 rfl rfl rfl) ?_
    refine aW rfl rfl rfl (fun _ => bR fQ Tryz.underlying2 rfl (jL _ (by omega) (by omega))) ?_
    refine aW rfl rfl rfl (fun _ => bX rfl rfl (by omega) (by omega)) ?_
    refine aW rfl rfl rfl (fun _ => kH rfl rfl ) ?_
    refine eB [false, false, true, true, true] rfl (by kernel_rfl) ?_
    refine aL aMq rfl rfl rfl ?_
    refine (uA _ c a b hc ha hb).mono ?_
    rintro _ w8 ⟨v8, rfl, ⟨rfl, hb8⟩⟩
    refine ⟨_, rfl, ?_⟩
    have M8 := M7.callB hb8
    refine aE (aF ⟨(kO (dG rfl (aZ 2 (.int _ _) bH M8 rfl rfl rfl)) (kO (dG rfl (aZ 1 (.int _ _) bH M8 rfl rfl rfl)) dZ)), ?_⟩)
    refine eB [true, true] rfl (by kernel_rfl) ?_
    refine aL yJ rfl rfl rfl ?_
    refine (yX _ (mC c a b) (if hi = true then b.mass else a.mass) (max 1 (a.mass + b.mass)) (by omega) hm0.1 (by omega) (by omega) (by omega) (by omega) (by omega)).mono ?_
    rintro _ w9 ⟨v9, rfl, ⟨rfl, hb9⟩⟩
    refine ⟨_, rfl, ?_⟩
    have M9 := M8.callB hb9
    refine aE (aF ⟨dZ, ?_⟩)
    refine aW rfl rfl rfl (fun _ => aC (.tuple (List.toArray _)) rfl) ?_
    refine aW rfl rfl rfl (fun _ => bE (.int _ _) rfl rfl) ?_
    refine aW rfl rfl rfl (fun _ => bE (.int _ _) rfl rfl) ?_
    refine aW rfl rfl rfl (fun _ => aD (.int _ _) rfl) ?_
    refine aW rfl rfl rfl (fun _ => aD (.int _ _) rfl) ?_
    refine cE ?_
    refine aF (aG (aB ?_))
    refine aA (aC (.int _ _) rfl) rfl rfl ?_
    refine aA (aD (.int _ _) rfl) rfl rfl ?_
    refine aE (aF (aR ?_))
    refine cI (.int _ _) rfl ?_
    exact ⟨rfl, M9.below⟩
set_option maxHeartbeats 4000000 in
theorem uV (w : World) (bo bk : Nat) (cn : Con) (q : Row) (l : List (Int × Int)) (hq : aX 135 2 q.A q.n q.c ((l).map bQ) q.e) (p : Nat) (s z : Int) (f : Int × Int) (hp : l[p]? = some f) (hs : 0 ≤ s ∧ s ≤ 1073741824) (hz : z = 1 ∨ z = -1) (hc : Okn cn) (hf : (-1152921504606846976 ≤ f.1 ∧ f.1 ≤ 1152921504606846976) ∧ -1152921504606846976 ≤ f.2 ∧ f.2 ≤ 1152921504606846976) (hO : Own [(some bo, bc [.slice q.A q.n q.c] 97), q.e, (some bk, bc (bY cn) 121)] w) :
    Calls Tryz.prog 110 #[.int .i64 (p : Int), .int .i64 s, .int .i64 z, .pointer (some ⟨bo, 0, none⟩), .pointer (some ⟨bk, 0, none⟩)] w (fun ex w' => ∃ v, ex = .returned v ∧ (fun v w' => v = .tuple #[] ∧ ∃ e : dL, aX 135 2 q.A q.n q.c ((l.set p (aBf s z cn f)).map bQ) e ∧ Mem w (bU [(some bo, bc [.slice q.A q.n q.c] 97), q.e, (some bk, bc (bY cn) 121)]) [(some bo, bc [.slice q.A q.n q.c] 97), e, (some bk, bc (bY cn) 121)] w') v w') := by
  have hcx := hc.x
  have hcy := hc.y
  have hl : l.length = q.n := by simpa using hq.1
  have hpl := (List.getElem?_eq_some_iff.1 hp).1
  have r1 := nE hs hc.x
  have r2 := nE hs hc.y
  have hp2 : (l.set p (f.1 + z * (s * cn.nx / 65536), f.2))[p]? = some (f.1 + z * (s * cn.nx / 65536), f.2) := by rw [List.getElem?_set_self hpl]
  have z1 : -1073741824 ≤ z * (s * cn.nx / 65536) ∧ z * (s * cn.nx / 65536) ≤ 1073741824 := by rcases hz with rfl | rfl <;> omega
  have z2 : -1073741824 ≤ z * (s * cn.ny / 65536) ∧ z * (s * cn.ny / 65536) ≤ 1073741824 := by rcases hz with rfl | rfl <;> omega
  refine aJ #[] 42 Tryz.func110 rfl Tryz.results110 Tryz.ntmps110 rfl ?_
  have M0 := hO.mem
  refine aG ?_
  refine bZ [(0, 1), (1, 0), (2, 1), (3, 1), (4, 1), (5, 0), (6, 0), (7, 0), (8, 0), (9, 1), (10, 0), (11, 0), (12, 0), (13, 0), (14, 0), (15, 1), (16, 1), (17, 2)] mixed rfl (by kernel_rfl) (fun w1 hb1 hh1 => ?_)
  have M1 := M0.drew hb1 hh1
  refine cB rfl rfl rfl (aZ 0 (.slice _ _ _) xH M1 rfl rfl rfl) ?_
  refine aW rfl rfl rfl (fun _ => aC (.int _ _) rfl) ?_
  refine cB rfl rfl rfl (bO (p) aBk rfl rfl rfl ((hq.rd M1 (aP (i := 1) rfl)).below_len (aK bQ hp)) ((hq.rd M1 (aP (i := 1) rfl)).someK (aK bQ hp))) ?_
  refine cB rfl rfl rfl (bM 0 uC (hq.rd M1 (aP (i := 1) rfl)) (Nat.lt_of_le_of_lt (Nat.zero_le _) ((hq.rd M1 (aP (i := 1) rfl)).below_len (aK bQ hp))) rfl) ?_
  refine cB rfl rfl rfl (eI (o := 0) (.int _ _) jE (hq.rd M1 (aP (i := 1) rfl)) (aK bQ hp) rfl rfl) ?_
  refine aW rfl rfl rfl (fun _ => aC (.int _ _) rfl) ?_
  refine aW rfl rfl rfl (fun _ => aC (.int _ _) rfl) ?_
  refine aW rfl rfl rfl (fun _ => aH 2 kV rfl) ?_
  refine aW rfl rfl rfl (fun _ => aH 0 dQ rfl) ?_
  refine cB rfl rfl rfl (aZ 2 (.int _ _) bH M1 rfl rfl rfl) ?_
  refine aW rfl rfl rfl (fun _ => bR fQ Tryz.underlying2 rfl (jL _ (by omega) (by omega))) ?_
  refine aW rfl rfl rfl (fun _ => jR rfl rfl (by omega) (by omega)) ?_
  refine aW rfl rfl rfl (fun _ => gQ rfl rfl (by decide)) ?_
  refine mN 20 (.int .i64 (s * cn.nx / 65536)) (iE (nJ _)) ?_
  refine aW rfl rfl rfl (fun _ => jR rfl rfl (by omega) (by omega)) ?_
  refine aW rfl rfl rfl (fun _ => bX rfl rfl (by omega) (by omega)) ?_
  refine cB rfl rfl rfl (bO (p) aBk rfl rfl rfl ((hq.rd M1 (aP (i := 1) rfl)).below_len (aK bQ hp)) ((hq.rd M1 (aP (i := 1) rfl)).someK (aK bQ hp))) ?_
  refine cB rfl rfl rfl (bM 0 uC (hq.rd M1 (aP (i := 1) rfl)) (Nat.lt_of_le_of_lt (Nat.zero_le _) ((hq.rd M1 (aP (i := 1) rfl)).below_len (aK bQ hp))) rfl) ?_
  refine eB [true, true, true, true, true, true, true] rfl (by kernel_rfl) ?_
  refine xT (o := 0) 1 (.int _ _) jE M1 rfl hq (aK bQ hp) rfl rfl rfl rfl rfl (fun e2 w2 hR2 M2 => ?_)
  have hQ2 := hR2.mapSet (f := bQ) (x := (f.1 + z * (s * cn.nx / 65536), f.2)) rfl
  refine aE (aF ⟨dZ, ?_⟩)
  refine cE ?_
  refine aF ?_
  refine bZ [(0, 1), (1, 0), (2, 1), (3, 1), (4, 1), (5, 0), (6, 0), (7, 0), (8, 0), (9, 1), (10, 0), (11, 0), (12, 0), (13, 0), (14, 0), (15, 1), (16, 1), (17, 2)] mixed rfl (by kernel_rfl) (fun w3 hb3 hh3 => ?_)
  have M3 := M2.drew hb3 hh3
  refine cB rfl rfl rfl (aZ 0 (.slice _ _ _) xH M3 rfl rfl rfl) ?_
  refine aW rfl rfl rfl (fun _ => aC (.int _ _) rfl) ?_
  refine cB rfl rfl rfl (bO (p) aBk rfl rfl rfl ((hQ2.rd M3 (aP (i := 1) rfl)).below_len (aK bQ hp2)) ((hQ2.rd M3 (aP (i := 1) rfl)).someK (aK bQ hp2))) ?_
  refine cB rfl rfl rfl (bM 1 tB (hQ2.rd M3 (aP (i := 1) rfl)) (Nat.lt_of_le_of_lt (Nat.zero_le _) ((hQ2.rd M3 (aP (i := 1) rfl)).below_len (aK bQ hp2))) rfl) ?_
  refine cB rfl rfl rfl (eI (o := 1) (.int _ _) jE (hQ2.rd M3 (aP (i := 1) rfl)) (aK bQ hp2) rfl rfl) ?_
  refine aW rfl rfl rfl (fun _ => aC (.int _ _) rfl) ?_
  refine aW rfl rfl rfl (fun _ => aC (.int _ _) rfl) ?_
  refine aW rfl rfl rfl (fun _ => aH 2 kV rfl) ?_
  refine aW rfl rfl rfl (fun _ => aH 1 dH rfl) ?_
  refine cB rfl rfl rfl (aZ 2 (.int _ _) bH M3 rfl rfl rfl) ?_
  refine aW rfl rfl rfl (fun _ => bR fQ Tryz.underlying2 rfl (jL _ (by omega) (by omega))) ?_
  refine aW rfl rfl rfl (fun _ => jR rfl rfl (by omega) (by omega)) ?_
  refine aW rfl rfl rfl (fun _ => gQ rfl rfl (by decide)) ?_
  refine mN 37 (.int .i64 (s * cn.ny / 65536)) (iE (nJ _)) ?_
  refine aW rfl rfl rfl (fun _ => jR rfl rfl (by omega) (by omega)) ?_
  refine aW rfl rfl rfl (fun _ => bX rfl rfl (by omega) (by omega)) ?_
  refine cB rfl rfl rfl (bO (p) aBk rfl rfl rfl ((hQ2.rd M3 (aP (i := 1) rfl)).below_len (aK bQ hp2)) ((hQ2.rd M3 (aP (i := 1) rfl)).someK (aK bQ hp2))) ?_
  refine cB rfl rfl rfl (bM 1 tB (hQ2.rd M3 (aP (i := 1) rfl)) (Nat.lt_of_le_of_lt (Nat.zero_le _) ((hQ2.rd M3 (aP (i := 1) rfl)).below_len (aK bQ hp2))) rfl) ?_
  refine eB [true, true, true, true, true, true, true] rfl (by kernel_rfl) ?_
  refine xT (o := 1) 1 (.int _ _) jE M3 rfl hQ2 (aK bQ hp2) rfl rfl rfl rfl rfl (fun e4 w4 hR4 M4 => ?_)
  have hQ4 := hR4.mapSet (f := bQ) (x := aBf s z cn f) rfl
  rw [List.set_set] at hQ4
  refine aE (aF ⟨dZ, ?_⟩)
  refine cE ?_
  refine gM ?_
  exact ⟨rfl, e4, hQ4, M4⟩
end Go.Proofs.YtlmcphcgiclanaaGreatDoor

namespace Go.Proofs.YtlmcphcgiclanaaGreatDoor
open Go.Bil
open Go.RowKit (Below)
open Go.Proofs
theorem Mem.swap2 {w0 w : World} {X : List Nat} {a b : dL} (M : Mem w0 X [a, b] w) : Mem w0 X [b, a] w := M.perm (List.Perm.swap b a [])
theorem xN {xs : List Body} {cs : List Con} {n : Nat} (hs : bL xs) (hb : ∀ b ∈ xs, Okb b) (hcs : ∀ c ∈ cs, OkC xs c) (hn : cs.length = n) (hl : n ≤ 1073741824) (k : Nat) {b : Body} (h : b ∈ xs) : (-1152921504606846976 ≤ (gB xs (cs.take k) b).1 ∧ (gB xs (cs.take k) b).1 ≤ 1152921504606846976) ∧ -1152921504606846976 ≤ (gB xs (cs.take k) b).2 ∧ (gB xs (cs.take k) b).2 ≤ 1152921504606846976 := by
  have ht : (cs.take k).length ≤ cs.length := by rw [List.length_take]; omega
  have h1 := aCc (cs := cs.take k) (g := (·.nx)) hs hb (fun c h => hcs c (List.mem_of_mem_take h)) (fun c h => (hcs c (List.mem_of_mem_take h)).n.x) h
  have h2 := aCc (cs := cs.take k) (g := (·.ny)) hs hb (fun c h => hcs c (List.mem_of_mem_take h)) (fun c h => (hcs c (List.mem_of_mem_take h)).n.y) h
  unfold gB
  simp only
  omega
set_option maxHeartbeats 8000000 in
theorem aEc (w : World) (A : Option Addr) (n c : Nat) (xs : List Body) (R : Rd w 10 A n (xs.map aI)) (hs : bL xs) (hb : ∀ b ∈ xs, Okb b) (hn : n ≤ 1048576) (B : Option Addr) (mc c' : Nat) (cs : List Con) (R' : Rd w 5 B mc (cs.map bY)) (hcs : ∀ c ∈ cs, OkC xs c) (hmc : mc ≤ 1073741824) :
    Calls Tryz.prog 74 #[.slice A n c, .slice B mc c'] w (fun ex w' => ∃ v, ex = .returned v ∧ (fun v w' => ∃ r : Row, v = .slice r.A r.n r.c ∧ aX 135 2 r.A r.n r.c ((xs.map (gB xs cs)).map bQ) r.e ∧ Mem w [] [r.e] w') v w') := by
  have hlen : xs.length = n := by simpa using R.len
  have hbd := R.bound
  have hclen : cs.length = mc := by simpa using R'.len
  have hbd' := R'.bound
  have hz0 : List.replicate n ([.int .i64 0, .int .i64 0] : List Value) = (xs.map (gB xs (cs.take 0))).map bQ := by rw [aOw, aFq hlen ((0, 0) : Int × Int)]; exact congrArg (List.map bQ) (List.map_congr_left (fun b _ => Prod.ext (wJ xs cs (·.nx) b).symm (wJ xs cs (·.ny) b).symm))
  refine aJ #[.tmp 4] 67 Tryz.func74 rfl Tryz.results74 Tryz.ntmps74 rfl ?_
  have M0 := Mem.refl w
  refine aG (aB ?_)
  refine aA (aD (.slice _ _ _) rfl) rfl rfl ?_
  refine aE (aF (aG (aB ?_)))
  refine aA (aC (.slice _ _ _) rfl) rfl rfl ?_
  refine aA (cS Tryz.underlying22 rfl) rfl rfl ?_
  refine fS (n) [.int .i64 0, .int .i64 0] aBk aFc rfl M0 rfl rfl rfl rfl rfl rfl (by omega) (by omega) (fun b1 w1 M1 => ?_)
  have hL15 := gW (T := 135) (sz := 2) (b := b1) (nn := n) (List.replicate n [.int .i64 0, .int .i64 0]) (fun l hl => by rw [List.eq_of_mem_replicate hl]; rfl) (by simp) (by omega)
  rw [hz0] at hL15
  rw [hz0] at M1
  refine aS aVn M1 rfl rfl (fun b2 w2 M2 => ?_)
  refine eC 1 (.slice _ _ _) xH M2 rfl rfl rfl rfl rfl rfl (fun w3 M3 => ?_)
  refine aE (aF (aG (aG (aB ?_))))
  have M4 : Mem _ _ [_, _] _ := Mem.swap2 M3
  refine aA (aC (.slice _ _ _) rfl) rfl rfl ?_
  refine aA (cS Tryz.underlying82 rfl) rfl rfl ?_
  refine aA (aC (.int _ _) rfl) rfl rfl ?_
  refine aE (aF (bA ?_))
  refine dI (σ := Nat × dL) [0, 4, 5, 16, 17] (fun (k, e) => [(18, .int .i64 (k : Int))]) (fun (k, e) w' => (k ≤ mc ∧ aX 135 2 (some ⟨b1, 0, none⟩) n n ((xs.map (gB xs (cs.take k))).map bQ) e) ∧ Mem w [] [(some b2, bc [.slice (some ⟨b1, 0, none⟩) n n] 97), e] w') (fun (k, e) => mc - k) (0, (some b1, bc ((xs.map (gB xs (cs.take 0))).map bQ).flatten 135)) (bS rfl eV) (⟨⟨by omega, hL15⟩, M4⟩) ?_
  rintro ⟨k, e⟩ ρ5 w5 ⟨⟨hk, hq⟩, hM5⟩
  refine aG (aB ?_)
  refine aA (aO (.bool (decide _)) rfl rfl rfl) rfl rfl ?_
  refine aE (aF (aG ?_))
  refine aY rfl (fun h19 => ?_) (fun h19 => ?_)
  · obtain ⟨cn, hcn⟩ := cN (xs := cs) (k := k) hclen (by omega)
    have hc := hcs cn (List.mem_of_getElem? hcn)
    obtain ⟨pa, xa, hxa, hka, hla, hba, hma⟩ := nL hs hc.l
    obtain ⟨pb, xb, hxb, hkb, hlb, hbb, hmb⟩ := nL hs hc.h
    have hoa := hb xa hma
    have hob := hb xb hmb
    have hne := hc.ne
    have ma := hoa.m
    have mb := hob.m
    have hpab : pa ≠ pb := fun g => by subst g; rw [hxa] at hxb; injection hxb with hxb; subst hxb; omega
    refine aN (aF (aG (bA (aG (aB ?_)))))
    refine aA (bO (k) aGz rfl rfl rfl ((R'.mem hM5).below_len (aK bY hcn)) ((R'.mem hM5).someK (aK bY hcn))) rfl rfl ?_
    refine aA (dO _ eX (R'.mem hM5) (aK bY hcn) rfl) rfl rfl ?_
    refine aS oL hM5 rfl rfl (fun b6 w6 M6 => ?_)
    refine bJ 2 _ eX M6 rfl rfl rfl rfl rfl (aU rfl) rfl (fun w7 M7 => ?_)
    refine aE (aF (aG (aB ?_)))
    refine aA (aC (.slice _ _ _) rfl) rfl rfl ?_
    refine aA (aH 0 pI rfl) rfl rfl ?_
    refine aA (aH 0 kU rfl) rfl rfl ?_
    refine aA (aZ 2 (.int _ _) cR M7 rfl rfl rfl) rfl rfl ?_
    refine aL xQ rfl rfl rfl ?_
    refine (nA _ cn.low _ _ _ xs (R.mem M7) hs).mono ?_
    rintro _ w8 ⟨v8, rfl, ⟨rfl, hb8⟩⟩
    refine ⟨_, rfl, ?_⟩
    have M8 := M7.callB hb8
    refine aA (aC (.tuple (List.toArray _)) rfl) rfl rfl ?_
    refine aA (bE (.int _ _) rfl rfl) rfl rfl ?_
    refine aM 28 (.int .i64 (pa : Int)) (iE (by rw [hla])) ?_
    refine aA (bE (.bool (decide _)) rfl rfl) rfl rfl ?_
    refine aA (aD (.int _ _) rfl) rfl rfl ?_
    refine aA (aD (.bool (decide _)) rfl) rfl rfl ?_
    refine aE (aF (aG (aB ?_)))
    refine aA (aC (.slice _ _ _) rfl) rfl rfl ?_
    refine aA (aH 0 pI rfl) rfl rfl ?_
    refine aA (aH 1 kQ rfl) rfl rfl ?_
    refine aA (aZ 2 (.int _ _) cR M8 rfl rfl rfl) rfl rfl ?_
    refine aL xQ rfl rfl rfl ?_
    refine (nA _ cn.high _ _ _ xs (R.mem M8) hs).mono ?_
    rintro _ w9 ⟨v9, rfl, ⟨rfl, hb9⟩⟩
    refine ⟨_, rfl, ?_⟩
    have M9 := M8.callB hb9
    refine aA (aC (.tuple (List.toArray _)) rfl) rfl rfl ?_
    refine aA (bE (.int _ _) rfl rfl) rfl rfl ?_
    refine aM 36 (.int .i64 (pb : Int)) (iE (by rw [hlb])) ?_
    refine aA (bE (.bool (decide _)) rfl rfl) rfl rfl ?_
    refine aA (aD (.int _ _) rfl) rfl rfl ?_
    refine aA (aD (.bool (decide _)) rfl) rfl rfl ?_
    refine aE (aF (aG (aB ?_)))
    refine aA (dC [] [.pointer _, .pointer _] rfl rfl) rfl rfl ?_
    refine aA (aD (.func _ _ _) rfl) rfl rfl ?_
    refine aE (aF (aG ?_))
    refine bZ [(0, 0), (1, 0), (2, 1), (3, 0), (4, 0), (5, 1), (6, 1), (7, 0), (8, 0), (9, 1), (10, 1), (11, 2), (12, 2)] mixed rfl (by kernel_rfl) (fun w10 hb10 hh10 => ?_)
    have M10 := M9.drew hb10 hh10
    refine aW rfl rfl rfl (fun _ => aC (.func _ _ _) rfl) ?_
    refine aW rfl rfl rfl (fun _ => aC (.int _ _) rfl) ?_
    refine cB rfl rfl rfl (bB 2 eX M10 rfl rfl rfl) ?_
    refine aW rfl rfl rfl (fun _ => aC (.slice _ _ _) rfl) ?_
    refine aW rfl rfl rfl (fun _ => aC (.int _ _) rfl) ?_
    refine cB rfl rfl rfl (bO (pa) dD rfl rfl rfl ((R.mem M10).below_len (aK aI hxa)) ((R.mem M10).someK (aK aI hxa))) ?_
    refine cB rfl rfl rfl (dO _ bW (R.mem M10) (aK aI hxa) rfl) ?_
    refine aW rfl rfl rfl (fun _ => aC (.slice _ _ _) rfl) ?_
    refine aW rfl rfl rfl (fun _ => aC (.int _ _) rfl) ?_
    refine cB rfl rfl rfl (bO (pb) dD rfl rfl rfl ((R.mem M10).below_len (aK aI hxb)) ((R.mem M10).someK (aK aI hxb))) ?_
    refine cB rfl rfl rfl (dO _ bW (R.mem M10) (aK aI hxb) rfl) ?_
    refine eB [true, true, true, true, true] rfl (by kernel_rfl) ?_
    refine aL aLs rfl rfl rfl ?_
    refine (wU _ cn xa xb hc.n hoa hob false).mono ?_
    rintro _ w11 ⟨v11, rfl, ⟨rfl, hb11⟩⟩
    refine ⟨_, rfl, ?_⟩
    have M11 := M10.callB hb11
    refine aE (aF ⟨dZ, ?_⟩)
    refine mN 50 (.int .i64 (lX cn xa xb xa.mass)) rfl ?_
    refine eB [] rfl (by kernel_rfl) ?_
    refine aL aKj rfl rfl rfl ?_
    refine (uV _ b2 b6 cn ⟨some ⟨b1, 0, none⟩, n, n, e⟩ (xs.map (gB xs (cs.take k))) hq pa (lX cn xa xb xa.mass) (-1) (gB xs (cs.take k) xa) (aK _ hxa) (xP hc.n (by omega)) (.inr rfl) hc.n (xN hs hb hcs hclen hmc k hma) (M11.ownSeg 0 3)).mono ?_
    rintro _ w12 ⟨v12, rfl, ⟨rfl, e1, hq1, hM12⟩⟩
    refine ⟨_, rfl, ?_⟩
    have M12 : Mem _ _ [_, _, _] _ := M11.seg 0 3 hM12
    refine aE (aF ⟨dZ, ?_⟩)
    refine cE ?_
    refine aF ?_
    refine bZ [(0, 0), (1, 0), (2, 1), (3, 0), (4, 0), (5, 1), (6, 1), (7, 0), (8, 0), (9, 1), (10, 1), (11, 2), (12, 2)] mixed rfl (by kernel_rfl) (fun w13 hb13 hh13 => ?_)
    have M13 := M12.drew hb13 hh13
    refine aW rfl rfl rfl (fun _ => aC (.func _ _ _) rfl) ?_
    refine aW rfl rfl rfl (fun _ => aC (.int _ _) rfl) ?_
    refine cB rfl rfl rfl (bB 2 eX M13 rfl rfl rfl) ?_
    refine aW rfl rfl rfl (fun _ => aC (.slice _ _ _) rfl) ?_
    refine aW rfl rfl rfl (fun _ => aC (.int _ _) rfl) ?_
    refine cB rfl rfl rfl (bO (pa) dD rfl rfl rfl ((R.mem M13).below_len (aK aI hxa)) ((R.mem M13).someK (aK aI hxa))) ?_
    refine cB rfl rfl rfl (dO _ bW (R.mem M13) (aK aI hxa) rfl) ?_
    refine aW rfl rfl rfl (fun _ => aC (.slice _ _ _) rfl) ?_
    refine aW rfl rfl rfl (fun _ => aC (.int _ _) rfl) ?_
    refine cB rfl rfl rfl (bO (pb) dD rfl rfl rfl ((R.mem M13).below_len (aK aI hxb)) ((R.mem M13).someK (aK aI hxb))) ?_
    refine cB rfl rfl rfl (dO _ bW (R.mem M13) (aK aI hxb) rfl) ?_
    refine eB [true, true, true, true, true] rfl (by kernel_rfl) ?_
    refine aL aLs rfl rfl rfl ?_
    refine (wU _ cn xa xb hc.n hoa hob true).mono ?_
    rintro _ w14 ⟨v14, rfl, ⟨rfl, hb14⟩⟩
    refine ⟨_, rfl, ?_⟩
    have M14 := M13.callB hb14
    refine aE (aF ⟨dZ, ?_⟩)
    refine mN 63 (.int .i64 (lX cn xa xb xb.mass)) rfl ?_
    refine eB [] rfl (by kernel_rfl) ?_
    refine aL aKj rfl rfl rfl ?_
    refine (uV _ b2 b6 cn ⟨some ⟨b1, 0, none⟩, n, n, e1⟩ _ hq1 pb (lX cn xa xb xb.mass) (1) (gB xs (cs.take k) xb) (oH (aK _ hxb) hpab) (xP hc.n (by omega)) (.inl rfl) hc.n (xN hs hb hcs hclen hmc k hmb) (M14.ownSeg 0 3)).mono ?_
    rintro _ w15 ⟨v15, rfl, ⟨rfl, e2, hq2, hM15⟩⟩
    refine ⟨_, rfl, ?_⟩
    have M15 : Mem _ _ [_, _, _] _ := M14.seg 0 3 hM15
    refine aE (aF ⟨dZ, ?_⟩)
    refine cE ?_
    refine dJ ?_
    refine aF (aB ?_)
    refine aA (bX rfl rfl (by omega) (by omega)) rfl rfl ?_
    refine aA (aC (.int _ _) rfl) rfl rfl ?_
    refine aE ?_
    refine cF (k + 1, e2) (bS rfl eV) (cL rfl (cL rfl (cL rfl (cL rfl (cL rfl iI))))) ?_ ?_
    · exact ⟨⟨by omega, by rw [← aJc hcn, ← aPg hs hxa hxb hka hkb hc hba hbb]; exact hq2⟩, M15.keep [true, true, false]⟩
    · (show mc - (k + 1) < mc - k; omega)
  · have hkn : k = mc := by omega
    rw [List.take_of_length_le (by omega)] at hq
    refine cK ?_
    refine dB ?_
    refine cY ?_
    refine eN ?_
    refine aF (aG (aB ?_))
    refine aA (aZ 0 (.slice _ _ _) xH hM5 rfl rfl rfl) rfl rfl ?_
    refine aA (aD (.slice _ _ _) rfl) rfl rfl ?_
    refine aE (aF (aR ?_))
    refine cI (.slice _ _ _) rfl ?_
    exact ⟨⟨(some ⟨b1, 0, none⟩), n, n, e⟩, rfl, hq, hM5.keep [false, true]⟩
end Go.Proofs.YtlmcphcgiclanaaGreatDoor
