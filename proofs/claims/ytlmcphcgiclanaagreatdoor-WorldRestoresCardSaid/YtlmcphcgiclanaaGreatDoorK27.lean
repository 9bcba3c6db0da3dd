/- Part of the proof of the laws of this seat: S20c, S20d, S20e, S20f, S20g, S20h. No conditions. -/
import Derived.Test.YtlmcphcgiclanaaGreatDoorK2
import Derived.Test.YtlmcphcgiclanaaGreatDoorK5
import Derived.Test.YtlmcphcgiclanaaGreatDoorK20
import Derived.Test.YtlmcphcgiclanaaGreatDoorK18
import Derived.Test.YtlmcphcgiclanaaGreatDoorK24
import Derived.Test.YtlmcphcgiclanaaGreatDoorK26
set_option linter.unusedVariables false
set_option linter.unusedSimpArgs false
set_option linter.unnecessarySimpa false
namespace Go.Proofs.YtlmcphcgiclanaaGreatDoor
open Go.Bil
open Go.RowKit (Below)
open Go.Proofs
set_option maxHeartbeats 8000000 in
theorem aYp (w : World) (bs : Nat) (rx ry : Row) (F G : Body → Int) (A : Option Addr) (n c : Nat) (xs : List Body) (R : Rd w 10 A n (xs.map aF)) (hs : bW xs) (hb : ∀ b ∈ xs, Okb b) (hrx : aX 2 1 rx.A rx.n rx.c ((xs.map F).map cA) rx.e) (hry : aX 2 1 ry.A ry.n ry.c ((xs.map G).map cA) ry.e) (hF : ∀ b ∈ xs, -1152921504606846976 ≤ F b ∧ F b ≤ 1152921504606846976) (hG : ∀ b ∈ xs, -1152921504606846976 ≤ G b ∧ G b ≤ 1152921504606846976) (cn : Con) (hc : OkC xs cn) (hO : Own [(some bs, bc [.slice A n c, .slice rx.A rx.n rx.c, .slice ry.A ry.n ry.c] 246), rx.e, ry.e] w) (hdA : 0 < n → ∀ q off, A = some ⟨q, off, none⟩ → q ∉ bS [(some bs, bc [.slice A n c, .slice rx.A rx.n rx.c, .slice ry.A ry.n ry.c] 246), rx.e, ry.e]) :
  Calls Tryz.prog 177 #[.pointer (some ⟨bs, 0, none⟩), .agg (cK cn).toArray] w (fun ex w' => ∃ v, ex = .returned v ∧ (fun v w' => v = .tuple #[] ∧ ∃ ex ey : dR, aX 2 1 rx.A rx.n rx.c ((xs.map (aCt xs (·.nx) cn F)).map cA) ex ∧ aX 2 1 ry.A ry.n ry.c ((xs.map (aCt xs (·.ny) cn G)).map cA) ey ∧ Mem w (bS [(some bs, bc [.slice A n c, .slice rx.A rx.n rx.c, .slice ry.A ry.n ry.c] 246), rx.e, ry.e]) [(some bs, bc [.slice A n c, .slice rx.A rx.n rx.c, .slice ry.A ry.n ry.c] 246), ex, ey] w') v w') := by
 have hlen : xs.length = n := by simpa using R.len
 have hbd := R.bound
 have hlx : xs.length = rx.n := by simpa using hrx.1
 have hly : xs.length = ry.n := by simpa using hry.1
 obtain ⟨pa, xa, hxa, hka, hla, hba, hma⟩ := pV hs hc.l
 obtain ⟨pb, xb, hxb, hkb, hlb, hbb, hmb⟩ := pV hs hc.h
 have hoa := hb xa hma
 have hob := hb xb hmb
 have hne := hc.ne
 have hpl := (List.getElem?_eq_some_iff.1 hxa).1
 have hpl2 := (List.getElem?_eq_some_iff.1 hxb).1
 have hpab : pa ≠ pb := fun g => by subst g; rw [hxa] at hxb; injection hxb with hxb; subst hxb; omega
 have ma := hoa.m
 have mb := hob.m
 have hra := wM hc.n hoa hob (m := xa.mass) (by omega)
 have hrb := wM hc.n hoa hob (m := xb.mass) (by omega)
 have gax := (mC hra.2.2 hc.n.x).2.2
 have gay := (mC hra.2.2 hc.n.y).2.2
 have gbx := (mC hrb.2.2 hc.n.x).2.2
 have gby := (mC hrb.2.2 hc.n.y).2.2
 have fa := hF xa hma
 have fb := hF xb hmb
 have ga := hG xa hma
 have gb := hG xb hmb
 have hFa : (xs.map F)[pa]? = some (F xa) := by rw [List.getElem?_map, hxa]; rfl
 have hGa : (xs.map G)[pa]? = some (G xa) := by rw [List.getElem?_map, hxa]; rfl
 have hFb : ((xs.map F).set pa (F xa - pD (lS cn xa xb) xa.mass cn.nx))[pb]? = some (F xb) := rM (by rw [List.getElem?_map, hxb]; rfl) hpab
 have hGb : ((xs.map G).set pa (G xa - pD (lS cn xa xb) xa.mass cn.ny))[pb]? = some (G xb) := rM (by rw [List.getElem?_map, hxb]; rfl) hpab
 refine aH #[] 139 Tryz.func177 rfl Tryz.results177 Tryz.ntmps177 rfl ?_
 have M0 := hO.mem
 refine aD (aA (bK (.agg (List.toArray _)) M0 rfl rfl rfl (fun b1 w1 M1 => (aB (aC (aD (bQ [(0, 0), (1, 0), (2, 0), (3, 1), (4, 0), (5, 0), (6, 1), (7, 2), (8, 0), (9, 0), (10, 0), (11, 0), (12, 0)] mixed rfl (by kernel_rfl) (fun w2 hb2 hh2 => ?_))))))))
 have M2 := M1.drew hb2 hh2
 refine aY rfl rfl rfl (fun _ => aG (.pointer _) rfl) (aY rfl rfl rfl (fun _ => aL rfl) (aY rfl rfl rfl (fun _ => aE 0 nH rfl) (cD rfl rfl rfl (aM 0 (.slice _ _ _) fB M2 rfl rfl rfl) (aY rfl rfl rfl (fun _ => aE 0 sV rfl) (aY rfl rfl rfl (fun _ => aE 0 nG rfl) ?_)))))
 refine cD rfl rfl rfl (aM 3 (.int _ _) bZ M2 rfl rfl rfl) (dP [true, true] rfl (by kernel_rfl) (bV aDn rfl rfl (qI _ cn.low _ _ _ xs (R.memY M2 hdA) hs) ?_))
 rintro v3 w3 ⟨rfl, hb3⟩
 have M3 := M2.callB hb3
 refine aB (aC ⟨dQ, ?_⟩)
 refine aY rfl rfl rfl (fun _ => aG (.tuple (List.toArray _)) rfl) (aY rfl rfl rfl (fun _ => bE (.int _ _) rfl rfl) (gB 20 (.int .i64 (pa : Int)) (iE (by rw [hla])) (aY rfl rfl rfl (fun _ => bE (.bool (decide _)) rfl rfl) (pX rfl rfl rfl (aY rfl rfl rfl (fun _ => aI (.bool (decide _)) rfl) ?_)))))
 refine cF (aC (aD (bQ [(0, 0), (1, 0), (2, 0), (3, 1), (4, 0), (5, 0), (6, 1), (7, 2), (8, 0), (9, 0), (10, 0), (11, 0), (12, 0)] mixed rfl (by kernel_rfl) (fun w4 hb4 hh4 => ?_))))
 have M4 := M3.drew hb4 hh4
 refine aY rfl rfl rfl (fun _ => aG (.pointer _) rfl) (aY rfl rfl rfl (fun _ => aL rfl) (aY rfl rfl rfl (fun _ => aE 0 nH rfl) (cD rfl rfl rfl (aM 0 (.slice _ _ _) fB M4 rfl rfl rfl) (aY rfl rfl rfl (fun _ => aE 0 sV rfl) (aY rfl rfl rfl (fun _ => aE 1 nC rfl) ?_)))))
 refine cD rfl rfl rfl (aM 3 (.int _ _) bZ M4 rfl rfl rfl) (dP [true, true] rfl (by kernel_rfl) (bV aDn rfl rfl (qI _ cn.high _ _ _ xs (R.memY M4 hdA) hs) ?_))
 rintro v5 w5 ⟨rfl, hb5⟩
 have M5 := M4.callB hb5
 refine aB (aC ⟨dQ, ?_⟩)
 refine aY rfl rfl rfl (fun _ => aG (.tuple (List.toArray _)) rfl) (aY rfl rfl rfl (fun _ => bE (.int _ _) rfl rfl) (gB 31 (.int .i64 (pb : Int)) (iE (by rw [hlb])) (aY rfl rfl rfl (fun _ => bE (.bool (decide _)) rfl rfl) (pX rfl rfl rfl (aY rfl rfl rfl (fun _ => aI (.bool (decide _)) rfl) ?_)))))
 refine cF (aC (aD (bQ [(0, 1), (1, 0), (2, 0), (3, 0), (4, 1), (5, 0), (6, 1), (7, 1), (8, 0), (9, 0), (10, 0), (11, 1), (12, 0), (13, 1), (14, 1), (15, 2), (16, 0)] mixed rfl (by kernel_rfl) (fun w6 hb6 hh6 => ?_))))
 have M6 := M5.drew hb6 hh6
 refine cD rfl rfl rfl (bA 3 gE M6 rfl rfl rfl) (aY rfl rfl rfl (fun _ => aG (.pointer _) rfl) (aY rfl rfl rfl (fun _ => aL rfl) (aY rfl rfl rfl (fun _ => aE 0 nH rfl) (cD rfl rfl rfl (aM 0 (.slice _ _ _) fB M6 rfl rfl rfl) (gG rfl rfl rfl ?_)))))
 refine cD rfl rfl rfl (bO (pa) eP rfl rfl rfl ((R.memY M6 hdA).below_len (aJ aF hxa)) ((R.memY M6 hdA).someK (aJ aF hxa))) (cD rfl rfl rfl (cZ _ bP (R.memY M6 hdA) (aJ aF hxa) rfl) (aY rfl rfl rfl (fun _ => aG (.pointer _) rfl) (aY rfl rfl rfl (fun _ => aL rfl) ?_)))
 refine aY rfl rfl rfl (fun _ => aE 0 nH rfl) (cD rfl rfl rfl (aM 0 (.slice _ _ _) fB M6 rfl rfl rfl) (gG rfl rfl rfl (cD rfl rfl rfl (bO (pb) eP rfl rfl rfl ((R.memY M6 hdA).below_len (aJ aF hxb)) ((R.memY M6 hdA).someK (aJ aF hxb))) (cD rfl rfl rfl (cZ _ bP (R.memY M6 hdA) (aJ aF hxb) rfl) ?_))))
 refine dP [true, true, true, true, true, true, true] rfl (by kernel_rfl) (bV bCk rfl rfl (aEb _ cn xa xb hc.n hoa hob) ?_)
 rintro v7 w7 ⟨rfl, hb7⟩
 have M7 := M6.callB hb7
 refine aB (aC ⟨dQ, ?_⟩)
 refine pX rfl rfl rfl (cF (aC (aD (bQ [(0, 0), (1, 0), (2, 0), (3, 0), (4, 1), (5, 0), (6, 1), (7, 1), (8, 1), (9, 0), (10, 1), (11, 2), (12, 0), (13, 0), (14, 0), (15, 0), (16, 0)] mixed rfl (by kernel_rfl) (fun w8 hb8 hh8 => ?_)))))
 have M8 := M7.drew hb8 hh8
 refine gG rfl rfl rfl (aY rfl rfl rfl (fun _ => aG (.pointer _) rfl) (aY rfl rfl rfl (fun _ => aL rfl) (aY rfl rfl rfl (fun _ => aE 0 nH rfl) (cD rfl rfl rfl (aM 0 (.slice _ _ _) fB M8 rfl rfl rfl) (gG rfl rfl rfl ?_)))))
 refine cD rfl rfl rfl (bO (pa) eP rfl rfl rfl ((R.memY M8 hdA).below_len (aJ aF hxa)) ((R.memY M8 hdA).someK (aJ aF hxa))) (cD rfl rfl rfl (bR 4 fF (R.memY M8 hdA) (Nat.lt_of_le_of_lt (Nat.zero_le _) ((R.memY M8 hdA).below_len (aJ aF hxa))) rfl) (cD rfl rfl rfl (eQ (o := 4) (.int _ _) aU (R.memY M8 hdA) (aJ aF hxa) rfl rfl) ?_))
 refine aY rfl rfl rfl (fun _ => aE 2 mX rfl) (cD rfl rfl rfl (mS 3 _ bH M8 rfl rfl rfl rfl) (dP [true, true, true, true, true] rfl (by kernel_rfl) (bV aUw rfl rfl (xL _ (lS cn xa xb) xa.mass cn.nx cn.ny ⟨hra.1, hra.2.1⟩ (by omega) hra.2.2 hc.n.x hc.n.y) ?_)))
 rintro v9 w9 ⟨rfl, hb9⟩
 have M9 := M8.callB hb9
 refine aB (aC ⟨dQ, ?_⟩)
 refine aY rfl rfl rfl (fun _ => aG (.tuple (List.toArray _)) rfl) (aY rfl rfl rfl (fun _ => bE (.int _ _) rfl rfl) (aY rfl rfl rfl (fun _ => bE (.int _ _) rfl rfl) (pX rfl rfl rfl (pX rfl rfl rfl (cF ?_)))))
 refine aC (aD (bQ [(0, 0), (1, 0), (2, 0), (3, 1), (4, 0), (5, 0), (6, 0), (7, 0), (8, 1), (9, 0), (10, 0), (11, 0), (12, 0), (13, 1), (14, 0), (15, 1), (16, 1), (17, 0), (18, 0), (19, 0), (20, 0), (21, 0), (22, 1), (23, 0), (24, 1), (25, 1), (26, 0), (27, 0), (28, 1), (29, 2), (30, 1), (31, 2)] mixed rfl (by kernel_rfl) (fun w10 hb10 hh10 => ?_)))
 have M10 := M9.drew hb10 hh10
 refine aY rfl rfl rfl (fun _ => aG (.pointer _) rfl) (aY rfl rfl rfl (fun _ => aL rfl) (aY rfl rfl rfl (fun _ => aE 1 mW rfl) (cD rfl rfl rfl (aM 0 (.slice _ _ _) kL M10 rfl rfl rfl) (gG rfl rfl rfl (aY rfl rfl rfl (fun _ => aG (.pointer _) rfl) ?_)))))
 refine aY rfl rfl rfl (fun _ => aL rfl) (aY rfl rfl rfl (fun _ => aE 2 mZ rfl) (cD rfl rfl rfl (aM 0 (.slice _ _ _) kL M10 rfl rfl rfl) (gG rfl rfl rfl (aY rfl rfl rfl (fun _ => aG (.pointer _) rfl) (aY rfl rfl rfl (fun _ => aL rfl) ?_)))))
 refine aY rfl rfl rfl (fun _ => aE 1 mW rfl) (cD rfl rfl rfl (aM 0 (.slice _ _ _) kL M10 rfl rfl rfl) (gG rfl rfl rfl (cD rfl rfl rfl (bO (pa) lZ rfl rfl rfl ((hrx.rd M10 (aZ (i := 1) rfl)).below_len (aJ cA hFa)) ((hrx.rd M10 (aZ (i := 1) rfl)).someK (aJ cA hFa))) ?_)))
 refine cD rfl rfl rfl (gT (.int _ _) lF (hrx.rd M10 (aZ (i := 1) rfl)) (aJ cA hFa) rfl) (gG rfl rfl rfl (aY rfl rfl rfl (fun _ => nE rfl rfl (by omega) (by omega)) (aY rfl rfl rfl (fun _ => aG (.pointer _) rfl) (aY rfl rfl rfl (fun _ => aL rfl) (aY rfl rfl rfl (fun _ => aE 2 mZ rfl) ?_)))))
 refine cD rfl rfl rfl (aM 0 (.slice _ _ _) kL M10 rfl rfl rfl) (gG rfl rfl rfl (cD rfl rfl rfl (bO (pa) lZ rfl rfl rfl ((hry.rd M10 (aZ (i := 2) rfl)).below_len (aJ cA hGa)) ((hry.rd M10 (aZ (i := 2) rfl)).someK (aJ cA hGa))) (cD rfl rfl rfl (gT (.int _ _) lF (hry.rd M10 (aZ (i := 2) rfl)) (aJ cA hGa) rfl) ?_)))
 refine gG rfl rfl rfl (aY rfl rfl rfl (fun _ => nE rfl rfl (by omega) (by omega)) (cD rfl rfl rfl (bO (pa) lZ rfl rfl rfl ((hrx.rd M10 (aZ (i := 1) rfl)).below_len (aJ cA hFa)) ((hrx.rd M10 (aZ (i := 1) rfl)).someK (aJ cA hFa))) (dP [true, true, true, true, true, true, true, true, true] rfl (by kernel_rfl) ?_)))
 refine vY 1 (.int _ _) lF M10 rfl hrx (aJ cA hFa) rfl rfl rfl rfl (fun e11 w11 hR11 M11 => ?_)
 have hQ11 := hR11.mapSet (f := cA) (x := F xa - pD (lS cn xa xb) xa.mass cn.nx) rfl
 refine aB (aC ⟨dQ, ?_⟩)
 refine cD rfl rfl rfl (bO (pa) lZ rfl rfl rfl ((hry.rd M11 (aZ (i := 2) rfl)).below_len (aJ cA hGa)) ((hry.rd M11 (aZ (i := 2) rfl)).someK (aJ cA hGa))) (dP [true] rfl (by kernel_rfl) (vY 2 (.int _ _) lF M11 rfl hry (aJ cA hGa) rfl rfl rfl rfl (fun e12 w12 hR12 M12 => ?_)))
 have hQ12 := hR12.mapSet (f := cA) (x := G xa - pD (lS cn xa xb) xa.mass cn.ny) rfl
 refine aB (aC ⟨dQ, ?_⟩)
 refine cF (aC (aD (bQ [(0, 0), (1, 0), (2, 0), (3, 0), (4, 1), (5, 0), (6, 1), (7, 1), (8, 1), (9, 0), (10, 1), (11, 2), (12, 0), (13, 0), (14, 0), (15, 0), (16, 0)] mixed rfl (by kernel_rfl) (fun w13 hb13 hh13 => ?_))))
 have M13 := M12.drew hb13 hh13
 refine gG rfl rfl rfl (aY rfl rfl rfl (fun _ => aG (.pointer _) rfl) (aY rfl rfl rfl (fun _ => aL rfl) (aY rfl rfl rfl (fun _ => aE 0 nH rfl) (cD rfl rfl rfl (aM 0 (.slice _ _ _) fB M13 rfl rfl rfl) (gG rfl rfl rfl ?_)))))
 refine cD rfl rfl rfl (bO (pb) eP rfl rfl rfl ((R.memY M13 hdA).below_len (aJ aF hxb)) ((R.memY M13 hdA).someK (aJ aF hxb))) (cD rfl rfl rfl (bR 4 fF (R.memY M13 hdA) (Nat.lt_of_le_of_lt (Nat.zero_le _) ((R.memY M13 hdA).below_len (aJ aF hxb))) rfl) (cD rfl rfl rfl (eQ (o := 4) (.int _ _) aU (R.memY M13 hdA) (aJ aF hxb) rfl rfl) ?_))
 refine aY rfl rfl rfl (fun _ => aE 2 mX rfl) (cD rfl rfl rfl (mS 3 _ bH M13 rfl rfl rfl rfl) (dP [true, true, true, true, true] rfl (by kernel_rfl) (bV aUw rfl rfl (xL _ (lS cn xa xb) xb.mass cn.nx cn.ny ⟨hrb.1, hrb.2.1⟩ (by omega) hrb.2.2 hc.n.x hc.n.y) ?_)))
 rintro v14 w14 ⟨rfl, hb14⟩
 have M14 := M13.callB hb14
 refine aB (aC ⟨dQ, ?_⟩)
 refine aY rfl rfl rfl (fun _ => aG (.tuple (List.toArray _)) rfl) (aY rfl rfl rfl (fun _ => bE (.int _ _) rfl rfl) (aY rfl rfl rfl (fun _ => bE (.int _ _) rfl rfl) (pX rfl rfl rfl (pX rfl rfl rfl (cF ?_)))))
 refine aC (bQ [(0, 0), (1, 0), (2, 0), (3, 1), (4, 0), (5, 0), (6, 0), (7, 0), (8, 1), (9, 0), (10, 0), (11, 0), (12, 0), (13, 1), (14, 0), (15, 1), (16, 1), (17, 0), (18, 0), (19, 0), (20, 0), (21, 0), (22, 1), (23, 0), (24, 1), (25, 1), (26, 0), (27, 0), (28, 1), (29, 2), (30, 1), (31, 2)] mixed rfl (by kernel_rfl) (fun w15 hb15 hh15 => ?_))
 have M15 := M14.drew hb15 hh15
 refine aY rfl rfl rfl (fun _ => aG (.pointer _) rfl) (aY rfl rfl rfl (fun _ => aL rfl) (aY rfl rfl rfl (fun _ => aE 1 mW rfl) (cD rfl rfl rfl (aM 0 (.slice _ _ _) kL M15 rfl rfl rfl) (gG rfl rfl rfl (aY rfl rfl rfl (fun _ => aG (.pointer _) rfl) ?_)))))
 refine aY rfl rfl rfl (fun _ => aL rfl) (aY rfl rfl rfl (fun _ => aE 2 mZ rfl) (cD rfl rfl rfl (aM 0 (.slice _ _ _) kL M15 rfl rfl rfl) (gG rfl rfl rfl (aY rfl rfl rfl (fun _ => aG (.pointer _) rfl) (aY rfl rfl rfl (fun _ => aL rfl) ?_)))))
 refine aY rfl rfl rfl (fun _ => aE 1 mW rfl) (cD rfl rfl rfl (aM 0 (.slice _ _ _) kL M15 rfl rfl rfl) (gG rfl rfl rfl (cD rfl rfl rfl (bO (pb) lZ rfl rfl rfl ((hQ11.rd M15 (aZ (i := 1) rfl)).below_len (aJ cA hFb)) ((hQ11.rd M15 (aZ (i := 1) rfl)).someK (aJ cA hFb))) ?_)))
 refine cD rfl rfl rfl (gT (.int _ _) lF (hQ11.rd M15 (aZ (i := 1) rfl)) (aJ cA hFb) rfl) (gG rfl rfl rfl (aY rfl rfl rfl (fun _ => bM rfl rfl (by omega) (by omega)) (aY rfl rfl rfl (fun _ => aG (.pointer _) rfl) (aY rfl rfl rfl (fun _ => aL rfl) (aY rfl rfl rfl (fun _ => aE 2 mZ rfl) ?_)))))
 refine cD rfl rfl rfl (aM 0 (.slice _ _ _) kL M15 rfl rfl rfl) (gG rfl rfl rfl (cD rfl rfl rfl (bO (pb) lZ rfl rfl rfl ((hQ12.rd M15 (aZ (i := 2) rfl)).below_len (aJ cA hGb)) ((hQ12.rd M15 (aZ (i := 2) rfl)).someK (aJ cA hGb))) (cD rfl rfl rfl (gT (.int _ _) lF (hQ12.rd M15 (aZ (i := 2) rfl)) (aJ cA hGb) rfl) ?_)))
 refine gG rfl rfl rfl (aY rfl rfl rfl (fun _ => bM rfl rfl (by omega) (by omega)) (cD rfl rfl rfl (bO (pb) lZ rfl rfl rfl ((hQ11.rd M15 (aZ (i := 1) rfl)).below_len (aJ cA hFb)) ((hQ11.rd M15 (aZ (i := 1) rfl)).someK (aJ cA hFb))) (dP [true, true, true, true, true, true, true, true, true] rfl (by kernel_rfl) ?_)))
 refine vY 1 (.int _ _) lF M15 rfl hQ11 (aJ cA hFb) rfl rfl rfl rfl (fun e16 w16 hR16 M16 => ?_)
 have hQ16 := hR16.mapSet (f := cA) (x := F xb + pD (lS cn xa xb) xb.mass cn.nx) rfl
 refine aB (aC ⟨dQ, ?_⟩)
 refine cD rfl rfl rfl (bO (pb) lZ rfl rfl rfl ((hQ12.rd M16 (aZ (i := 2) rfl)).below_len (aJ cA hGb)) ((hQ12.rd M16 (aZ (i := 2) rfl)).someK (aJ cA hGb))) (dP [true] rfl (by kernel_rfl) (vY 2 (.int _ _) lF M16 rfl hQ12 (aJ cA hGb) rfl rfl rfl rfl (fun e17 w17 hR17 M17 => ?_)))
 have hQ17 := hR17.mapSet (f := cA) (x := G xb + pD (lS cn xa xb) xb.mass cn.ny) rfl
 refine aB (aC ⟨dQ, ?_⟩)
 refine cF (iP ?_)
 exact ⟨rfl, e16, e17, by rw [← aLa hs hxa hxb hka hkb hc hba hbb]; exact hQ16, by rw [← aLa hs hxa hxb hka hkb hc hba hbb]; exact hQ17, M17.keep [true, true, true, false]⟩
set_option maxHeartbeats 4000000 in
theorem aHa (w : World) (bs : Nat) (rx ry : Row) (A : Option Addr) (n c : Nat) (xs : List Body) (R : Rd w 10 A n (xs.map aF)) (hs : bW xs) (hb : ∀ b ∈ xs, Okb b) (B : Option Addr) (mc c' : Nat) (cs : List Con) (R' : Rd w 5 B mc (cs.map cK)) (hcs : ∀ c ∈ cs, OkC xs c) (hmc : mc ≤ 8589934592) (hrx : aX 2 1 rx.A rx.n rx.c ((xs.map (fun b => fM xs (cs.take 0) (·.nx) b)).map cA) rx.e) (hry : aX 2 1 ry.A ry.n ry.c ((xs.map (fun b => fM xs (cs.take 0) (·.ny) b)).map cA) ry.e) (hO : Own [(some bs, bc [.slice A n c, .slice rx.A rx.n rx.c, .slice ry.A ry.n ry.c] 246), rx.e, ry.e] w) (hdA : 0 < n → ∀ q off, A = some ⟨q, off, none⟩ → q ∉ bS [(some bs, bc [.slice A n c, .slice rx.A rx.n rx.c, .slice ry.A ry.n ry.c] 246), rx.e, ry.e]) (hdB : 0 < mc → ∀ q off, B = some ⟨q, off, none⟩ → q ∉ bS [(some bs, bc [.slice A n c, .slice rx.A rx.n rx.c, .slice ry.A ry.n ry.c] 246), rx.e, ry.e]) :
  Calls Tryz.prog 176 #[.slice B mc c', .func (.func 177) #[.pointer (some ⟨bs, 0, none⟩)] #[]] w (fun ex w' => ∃ v, ex = .returned v ∧ (fun v w' => v = .tuple #[] ∧ ∃ ex ey : dR, aX 2 1 rx.A rx.n rx.c ((xs.map (fun b => fM xs cs (·.nx) b)).map cA) ex ∧ aX 2 1 ry.A ry.n ry.c ((xs.map (fun b => fM xs cs (·.ny) b)).map cA) ey ∧ Mem w (bS [(some bs, bc [.slice A n c, .slice rx.A rx.n rx.c, .slice ry.A ry.n ry.c] 246), rx.e, ry.e]) [(some bs, bc [.slice A n c, .slice rx.A rx.n rx.c, .slice ry.A ry.n ry.c] 246), ex, ey] w') v w') := by
 have hlen : xs.length = n := by simpa using R.len
 have hbd := R.bound
 have hclen : cs.length = mc := by simpa using R'.len
 have hbd' := R'.bound
 refine aH #[] 16 Tryz.func176 rfl Tryz.results176 Tryz.ntmps176 rfl ?_
 have M0 := hO.mem
 refine aD (aA (eF rfl rfl (wq (cM Tryz.underlying82 rfl) rfl (aV rfl rfl (aB (aC (aS (dM (σ := Nat × dR × dR) [1, 6, 7] (fun (k, ex, ey) => [(8, .int .i64 (k : Int))]) (fun (k, ex, ey) w' => (k ≤ mc ∧ aX 2 1 rx.A rx.n rx.c ((xs.map (fun b => fM xs (cs.take k) (·.nx) b)).map cA) ex ∧ aX 2 1 ry.A ry.n ry.c ((xs.map (fun b => fM xs (cs.take k) (·.ny) b)).map cA) ey) ∧ Mem w (bS [(some bs, bc [.slice A n c, .slice rx.A rx.n rx.c, .slice ry.A ry.n ry.c] 246), rx.e, ry.e]) [(some bs, bc [.slice A n c, .slice rx.A rx.n rx.c, .slice ry.A ry.n ry.c] 246), ex, ey] w') (fun (k, ex, ey) => mc - k) (0, rx.e, ry.e) (bL rfl eV) (⟨⟨by omega, hrx, hry⟩, M0⟩) ?_))))))))
 rintro ⟨k, ex, ey⟩ ρ1 w1 ⟨⟨hk, hqx, hqy⟩, hM1⟩
 refine aD (aA (cT rfl rfl rfl rfl (aB (aC (aD ?_)))))
 refine aW rfl (fun h9 => ?_) (fun h9 => ?_)
 ·obtain ⟨cn, hcn⟩ := cI (xs := cs) (k := k) hclen (by omega)
  have hkx : ∀ b ∈ xs, -1152921504606846976 ≤ fM xs (cs.take k) (·.nx) b ∧ fM xs (cs.take k) (·.nx) b ≤ 1152921504606846976 := fun b hbm => by have := rU (cs := cs.take k) (g := (·.nx)) hs hb (fun c h => hcs c (List.mem_of_mem_take h)) (fun c h => (hcs c (List.mem_of_mem_take h)).n.x) hbm; have := List.length_take_le k cs; omega
  have hky : ∀ b ∈ xs, -1152921504606846976 ≤ fM xs (cs.take k) (·.ny) b ∧ fM xs (cs.take k) (·.ny) b ≤ 1152921504606846976 := fun b hbm => by have := rU (cs := cs.take k) (g := (·.ny)) hs hb (fun c h => hcs c (List.mem_of_mem_take h)) (fun c h => (hcs c (List.mem_of_mem_take h)).n.y) hbm; have := List.length_take_le k cs; omega
  refine aK (aC (aD (aS (aD (aA (wq (bO (k) aOd rfl rfl rfl ((R'.memY hM1 hdB).below_len (aJ cK hcn)) ((R'.memY hM1 hdB).someK (aJ cK hcn))) rfl (wq (cZ _ gE (R'.memY hM1 hdB) (aJ cK hcn) rfl) rfl (aR sJ hM1 rfl rfl (fun b2 w2 M2 => ?_)))))))))
  refine bC 3 _ gE M2 rfl rfl rfl rfl rfl (aQ rfl) rfl (fun w3 M3 => (aB (aC (aA (wq (aG (.func _ _ _) rfl) rfl (wq (bA 3 gE M3 rfl rfl rfl) rfl (bV bCq rfl rfl (aYp _ bs ⟨rx.A, rx.n, rx.c, ex⟩ ⟨ry.A, ry.n, ry.c, ey⟩ (fun b => fM xs (cs.take k) (·.nx) b) (fun b => fM xs (cs.take k) (·.ny) b) A n c xs (R.memY M3 hdA) hs hb hqx hqy hkx hky cn (hcs cn (List.mem_of_getElem? hcn)) (M3.ownSeg 0 3) (M3.away 0 3 R hdA)) ?_)))))))
  rintro v4 w4 ⟨rfl, ex2, ey2, hqx2, hqy2, hM4⟩
  have M4 : Mem _ _ [_, _, _, _] _ := M3.seg 0 3 hM4
  refine aB (cX (aC (aA (wq (bM rfl rfl (by omega) (by omega)) rfl (aV rfl rfl (aB ?_))))))
  refine cQ (k + 1, ex2, ey2) (bL rfl eV) (cU rfl (cU rfl (cU rfl jS))) ?_ ?_
  ·exact ⟨⟨by omega, by rw [← aBc hcn]; exact hqx2, by rw [← aBc hcn]; exact hqy2⟩, M4.keep [true, true, true, false]⟩
  ·(show mc - (k + 1) < mc - k; omega)
 ·have hkn : k = mc := by omega
  rw [List.take_of_length_le (by omega)] at hqx hqy
  refine cP (dA (cY (eT (iP ?_))))
  exact ⟨rfl, ex, ey, hqx, hqy, hM1⟩
theorem Mem.rot3 {w0 w : World} {X : List Nat} {a b c : dR} (M : Mem w0 X [a, b, c] w) : Mem w0 X [c, b, a] w := M.perm (List.reverse_perm [a, b, c]).symm
theorem Mem.rot3' {w0 w : World} {X : List Nat} {a b c : dR} (M : Mem w0 X [a, b, c] w) : Mem w0 X [c, a, b] w := M.perm (List.perm_append_comm (l₁ := [a, b]) (l₂ := [c]))
theorem aYm {xs : List Body} {cs : List Con} {n : Nat} (hs : bW xs) (hb : ∀ b ∈ xs, Okb b) (hcs : ∀ c ∈ cs, OkC xs c) (hn : cs.length = n) (hl : n ≤ 8589934592) {b : Body} (h : b ∈ xs) : (-1152921504606846976 ≤ fM xs cs (·.nx) b ∧ fM xs cs (·.nx) b ≤ 1152921504606846976) ∧ -1152921504606846976 ≤ fM xs cs (·.ny) b ∧ fM xs cs (·.ny) b ≤ 1152921504606846976 := by
 have h1 := rU (cs := cs) (g := (·.nx)) hs hb hcs (fun c h => (hcs c h).n.x) h
 have h2 := rU (cs := cs) (g := (·.ny)) hs hb hcs (fun c h => (hcs c h).n.y) h
 omega
set_option maxHeartbeats 4000000 in
theorem aSw (w : World) (A : Option Addr) (n c : Nat) (xs : List Body) (R : Rd w 10 A n (xs.map aF)) (hs : bW xs) (hb : ∀ b ∈ xs, Okb b) (hn : n ≤ 1048576) (B : Option Addr) (mc c' : Nat) (cs : List Con) (R' : Rd w 5 B mc (cs.map cK)) (hcs : ∀ c ∈ cs, OkC xs c) (hmc : mc ≤ 8589934592) :
  Calls Tryz.prog 138 #[.slice A n c, .slice B mc c'] w (fun ex w' => ∃ v, ex = .returned v ∧ (fun v w' => ∃ rx ry : Row, v = .tuple #[.slice rx.A rx.n rx.c, .slice ry.A ry.n ry.c] ∧ aX 2 1 rx.A rx.n rx.c ((xs.map (fun b => fM xs cs (·.nx) b)).map cA) rx.e ∧ aX 2 1 ry.A ry.n ry.c ((xs.map (fun b => fM xs cs (·.ny) b)).map cA) ry.e ∧ Mem w [] [rx.e, ry.e] w') v w') := by
 have hlen : xs.length = n := by simpa using R.len
 have hbd := R.bound
 have hclen : cs.length = mc := by simpa using R'.len
 have hbd' := R'.bound
 have hz0 : ∀ g : Con → Int, List.replicate n ([.int .i64 0] : List Value) = (xs.map (fun b => fM xs (cs.take 0) g b)).map cA := fun g => by rw [aXn, aMu hlen (0 : Int)]; exact congrArg (List.map cA) (List.map_congr_left (fun b _ => (aNk xs cs g b).symm))
 refine aH #[.tmp 4, .tmp 5] 28 Tryz.func138 rfl Tryz.results138 Tryz.ntmps138 rfl ?_
 have M0 := Mem.refl w
 refine aD (aA (gC rfl rfl (gC rfl rfl (aB (aC (aD (aUu [(0, 0), (1, 0), (2, 0), (4, 0), (5, 0)] 3 6 [(6, 2), (7, 0), (8, 2), (9, 0)] [(3, 2), (7, 0), (8, 2), (9, 0)] mixed rfl (by kernel_rfl) (fun w1 hb1 hh1 => ?_))))))))
 have M1 := M0.drew hb1 hh1
 refine tW rfl rfl rfl (fun _ => aG (.slice _ _ _) rfl) (tW rfl rfl rfl (fun _ => aG (.slice _ _ _) rfl) (tW rfl rfl rfl (fun _ => cM Tryz.underlying22 rfl) (tW rfl rfl rfl (fun _ => aG (.slice _ _ _) rfl) (tW rfl rfl rfl (fun _ => cM Tryz.underlying22 rfl) ?_))))
 refine aMp ?_ ?_
 ·refine dP [] rfl (by kernel_rfl) (jD (n) [.int .i64 0] lZ zM rfl M1 rfl rfl rfl rfl rfl rfl (by omega) (by omega) (fun b2 w2 M2 => ?_))
  have hL10 := jR (T := 2) (sz := 1) (b := b2) (nn := n) (List.replicate n [.int .i64 0]) (fun l hl => by rw [List.eq_of_mem_replicate hl]; rfl) (by simp) (by omega)
  rw [hz0 (·.nx)] at hL10
  rw [hz0 (·.nx)] at M2
  refine aB (aC ⟨dQ, ?_⟩)
  refine dP [] rfl (by kernel_rfl) (jD (n) [.int .i64 0] lZ zM rfl M2 rfl rfl rfl rfl rfl rfl (by omega) (by omega) (fun b3 w3 M3 => ?_))
  have hL13 := jR (T := 2) (sz := 1) (b := b3) (nn := n) (List.replicate n [.int .i64 0]) (fun l hl => by rw [List.eq_of_mem_replicate hl]; rfl) (by simp) (by omega)
  rw [hz0 (·.ny)] at hL13
  rw [hz0 (·.ny)] at M3
  refine aB (aC ⟨dQ, ?_⟩)
  refine aY rfl rfl rfl (fun _ => cN [(0, .slice _ _ _), (1, .slice _ _ _), (2, .slice _ _ _)] _ aCm rfl rfl) (dP [] rfl (by kernel_rfl) (bK (.agg (List.toArray _)) M3 rfl rfl rfl (fun b4 w4 M4 => ?_)))
  refine aB (aC ⟨dQ, ?_⟩)
  refine aY rfl rfl rfl (fun _ => aI (.pointer _) rfl) (cF (aC (aD (aA (eF rfl rfl (wq (aG (.pointer _) rfl) rfl (wq (cR [.pointer _] [] rfl rfl) rfl ?_)))))))
  have M5 : Mem _ _ [_, _, _] _ := Mem.rot3' M4
  refine bV aTc rfl rfl (aHa _ b4 ⟨some ⟨b2, 0, none⟩, n, n, (some b2, bc ((xs.map (fun b => fM xs (cs.take 0) (·.nx) b)).map cA).flatten 2)⟩ ⟨some ⟨b3, 0, none⟩, n, n, (some b3, bc ((xs.map (fun b => fM xs (cs.take 0) (·.ny) b)).map cA).flatten 2)⟩ A n c xs (R.mem M5) hs hb B mc c' cs (R'.mem M5) hcs hmc hL10 hL13 (M5.ownSeg 0 3) (M5.away 0 3 R (by simp)) (M5.away 0 3 R' (by simp))) ?_
  rintro v6 w6 ⟨rfl, ex, ey, hqx, hqy, hM6⟩
  have M6 : Mem _ _ [_, _, _] _ := M5.seg 0 3 hM6
  refine aB (aC (aD (bQ [(0, 0), (1, 0), (2, 0), (3, 1), (4, 0), (5, 0), (6, 0), (7, 1), (8, 0), (9, 0)] mixed rfl (by kernel_rfl) (fun w7 hb7 hh7 => ?_))))
  have M7 := M6.drew hb7 hh7
  refine aY rfl rfl rfl (fun _ => aG (.pointer _) rfl) (aY rfl rfl rfl (fun _ => aL rfl) (aY rfl rfl rfl (fun _ => aE 1 mW rfl) (cD rfl rfl rfl (aM 0 (.slice _ _ _) kL M7 rfl rfl rfl) (aY rfl rfl rfl (fun _ => aG (.pointer _) rfl) (aY rfl rfl rfl (fun _ => aL rfl) ?_)))))
  refine aY rfl rfl rfl (fun _ => aE 2 mZ rfl) (cD rfl rfl rfl (aM 0 (.slice _ _ _) kL M7 rfl rfl rfl) (aY rfl rfl rfl (fun _ => aI (.slice _ _ _) rfl) (aY rfl rfl rfl (fun _ => aI (.slice _ _ _) rfl) (cF (aC (aN ?_))))))
  refine iD (.slice _ _ _) (.slice _ _ _) rfl rfl ?_
  exact ⟨⟨(some ⟨b2, 0, none⟩), n, n, ex⟩, ⟨(some ⟨b3, 0, none⟩), n, n, ey⟩, rfl, hqx, hqy, M7.keep [false, true, true]⟩
 ·refine dP [] rfl (by kernel_rfl) (jD (n) [.int .i64 0] lZ zM rfl M1 rfl rfl rfl rfl rfl rfl (by omega) (by omega) (fun b8 w8 M8 => ?_))
  have hL13 := jR (T := 2) (sz := 1) (b := b8) (nn := n) (List.replicate n [.int .i64 0]) (fun l hl => by rw [List.eq_of_mem_replicate hl]; rfl) (by simp) (by omega)
  rw [hz0 (·.ny)] at hL13
  rw [hz0 (·.ny)] at M8
  refine aB (aC ⟨dQ, ?_⟩)
  refine dP [] rfl (by kernel_rfl) (jD (n) [.int .i64 0] lZ zM rfl M8 rfl rfl rfl rfl rfl rfl (by omega) (by omega) (fun b9 w9 M9 => ?_))
  have hL10 := jR (T := 2) (sz := 1) (b := b9) (nn := n) (List.replicate n [.int .i64 0]) (fun l hl => by rw [List.eq_of_mem_replicate hl]; rfl) (by simp) (by omega)
  rw [hz0 (·.nx)] at hL10
  rw [hz0 (·.nx)] at M9
  refine aB (aC ⟨dQ, ?_⟩)
  refine aY rfl rfl rfl (fun _ => cN [(0, .slice _ _ _), (1, .slice _ _ _), (2, .slice _ _ _)] _ aCm rfl rfl) (dP [] rfl (by kernel_rfl) (bK (.agg (List.toArray _)) M9 rfl rfl rfl (fun b10 w10 M10 => ?_)))
  refine aB (aC ⟨dQ, ?_⟩)
  refine aY rfl rfl rfl (fun _ => aI (.pointer _) rfl) (cF (aC (aD (aA (eF rfl rfl (wq (aG (.pointer _) rfl) rfl (wq (cR [.pointer _] [] rfl rfl) rfl ?_)))))))
  have M11 : Mem _ _ [_, _, _] _ := Mem.rot3 M10
  refine bV aTc rfl rfl (aHa _ b10 ⟨some ⟨b9, 0, none⟩, n, n, (some b9, bc ((xs.map (fun b => fM xs (cs.take 0) (·.nx) b)).map cA).flatten 2)⟩ ⟨some ⟨b8, 0, none⟩, n, n, (some b8, bc ((xs.map (fun b => fM xs (cs.take 0) (·.ny) b)).map cA).flatten 2)⟩ A n c xs (R.mem M11) hs hb B mc c' cs (R'.mem M11) hcs hmc hL10 hL13 (M11.ownSeg 0 3) (M11.away 0 3 R (by simp)) (M11.away 0 3 R' (by simp))) ?_
  rintro v12 w12 ⟨rfl, ex, ey, hqx, hqy, hM12⟩
  have M12 : Mem _ _ [_, _, _] _ := M11.seg 0 3 hM12
  refine aB (aC (aD (bQ [(0, 0), (1, 0), (2, 0), (3, 1), (4, 0), (5, 0), (6, 0), (7, 1), (8, 0), (9, 0)] mixed rfl (by kernel_rfl) (fun w13 hb13 hh13 => ?_))))
  have M13 := M12.drew hb13 hh13
  refine aY rfl rfl rfl (fun _ => aG (.pointer _) rfl) (aY rfl rfl rfl (fun _ => aL rfl) (aY rfl rfl rfl (fun _ => aE 1 mW rfl) (cD rfl rfl rfl (aM 0 (.slice _ _ _) kL M13 rfl rfl rfl) (aY rfl rfl rfl (fun _ => aG (.pointer _) rfl) (aY rfl rfl rfl (fun _ => aL rfl) ?_)))))
  refine aY rfl rfl rfl (fun _ => aE 2 mZ rfl) (cD rfl rfl rfl (aM 0 (.slice _ _ _) kL M13 rfl rfl rfl) (aY rfl rfl rfl (fun _ => aI (.slice _ _ _) rfl) (aY rfl rfl rfl (fun _ => aI (.slice _ _ _) rfl) (cF (aC (aN ?_))))))
  refine iD (.slice _ _ _) (.slice _ _ _) rfl rfl ?_
  exact ⟨⟨(some ⟨b9, 0, none⟩), n, n, ex⟩, ⟨(some ⟨b8, 0, none⟩), n, n, ey⟩, rfl, hqx, hqy, M13.keep [false, true, true]⟩
set_option maxHeartbeats 8000000 in
theorem aOn (w : World) (A : Option Addr) (n c : Nat) (xs : List Body) (R : Rd w 10 A n (xs.map aF)) (hs : bW xs) (hb : ∀ b ∈ xs, Okb b) (hn : n ≤ 1048576) (B : Option Addr) (mc c' : Nat) (cs : List Con) (R' : Rd w 5 B mc (cs.map cK)) (hcs : ∀ c ∈ cs, OkC xs c) (hmc : mc ≤ 8589934592) :
  Calls Tryz.prog 108 #[.slice A n c, .slice B mc c'] w (fun ex w' => ∃ v, ex = .returned v ∧ (fun v w' => ∃ r : Row, v = .tuple #[.slice r.A r.n r.c, .bool (aQj xs cs)] ∧ aX 40 10 r.A r.n r.c ((aCu xs cs).map aF) r.e ∧ Mem w [] [r.e] w') v w') := by
 have hlen : xs.length = n := by simpa using R.len
 have hbd := R.bound
 have hclen : cs.length = mc := by simpa using R'.len
 have hbd' := R'.bound
 refine aH #[.tmp 4, .tmp 5] 75 Tryz.func108 rfl Tryz.results108 Tryz.ntmps108 rfl ?_
 have M0 := Mem.refl w
 refine aD (aA (gC rfl rfl (wq (aI (.bool false) rfl) rfl (aB (aC (aD (aA (eF rfl rfl (eF rfl rfl ?_)))))))))
 refine bV bBu rfl rfl (aSw _ A n c xs (R.mem M0) hs hb hn B mc c' cs (R'.mem M0) hcs hmc) ?_
 rintro v1 w1 ⟨rx, ry, rfl, hrx, hry, hM1⟩
 have M1 : Mem _ _ [_, _] _ := M0.call0 hM1
 have hrxn : xs.length = rx.n := by simpa using hrx.1
 have hryn : xs.length = ry.n := by simpa using hry.1
 refine wq (aG (.tuple (List.toArray _)) rfl) rfl (wq (bE (.slice _ _ _) rfl rfl) rfl (wq (bE (.slice _ _ _) rfl rfl) rfl (gC rfl rfl (gC rfl rfl (aB (aC (aD (aA ?_))))))))
 refine wq (aI (.bool false) rfl) rfl (aB (aC (aD (aA (gC rfl rfl ?_)))))
 have M2 := M1.dummy default
 refine aB (aC (aD (aD (aA (eF rfl rfl (wq (cM Tryz.underlying22 rfl) rfl (aV rfl rfl (aB (aC (aS (dM (σ := Nat × Row) [4, 5, 6, 7, 22, 23] (fun (k, q) => [(8, .bool ((xs.take k).any (aXu xs cs))), (9, .slice q.A q.n q.c), (24, .int .i64 (k : Int))]) (fun (k, q) w' => (k ≤ n ∧ aX 40 10 q.A q.n q.c (((xs.take k).map (aHh xs cs)).map aF) q.e) ∧ Mem w [] [rx.e, ry.e, q.e] w') (fun (k, q) => n - k) (0, iK) (bL (bv rfl rfl) (bL rfl (bL rfl eV))) (⟨⟨by omega, aX.nil _ _ _⟩, M2⟩) ?_)))))))))))
 rintro ⟨k, q⟩ ρ3 w3 ⟨⟨hk, hq⟩, hM3⟩
 have htl := List.length_take_le k xs
 have hqn : (xs.take k).length = q.n := by simpa using hq.1
 refine aD (aA (cT rfl rfl rfl rfl (aB (aC (aD ?_)))))
 refine aW rfl (fun h25 => ?_) (fun h25 => ?_)
 ·obtain ⟨xb, hxb⟩ := cI (xs := xs) (k := k) hlen (by omega)
  have hxm := List.mem_of_getElem? hxb
  have hsb := aYm hs hb hcs hclen hmc hxm
  have hvb := (hb xb hxm).v
  have hlx := dZ (xb.vx + fM xs cs (·.nx) xb) (l := 16777216) (by decide)
  have hly := dZ (xb.vy + fM xs cs (·.ny) xb) (l := 16777216) (by decide)
  refine aK (aC (aD (aS (aD (aA (aV rfl rfl (wq (bO (k) eP rfl rfl rfl ((R.mem hM3).below_len (aJ aF hxb)) ((R.mem hM3).someK (aJ aF hxb))) rfl (wq (cZ _ bP (R.mem hM3) (aJ aF hxb) rfl) rfl (aR gI hM3 rfl rfl (fun b4 w4 M4 => (bJ rfl rfl ?_)))))))))))
  refine bC 3 _ bP M4 rfl rfl rfl rfl rfl (aQ rfl) rfl (fun w5 M5 => (aB (aC (aD (bQ [(0, 0), (1, 0), (2, 1), (3, 0), (4, 0), (5, 0), (6, 1), (7, 1), (8, 0), (9, 2), (10, 0), (11, 0), (12, 0), (13, 0), (14, 0)] mixed rfl (by kernel_rfl) (fun w6 hb6 hh6 => ?_))))))
  have M6 := M5.drew hb6 hh6
  refine aY rfl rfl rfl (fun _ => aE 8 fG rfl) (aY rfl rfl rfl (fun _ => aE 0 dU rfl) (cD rfl rfl rfl (aM 3 (.int _ _) aU M6 rfl rfl rfl) (aY rfl rfl rfl (fun _ => bU fL Tryz.underlying2 rfl (kJ _ (by omega) (by omega))) (vB rfl rfl rfl (gG rfl rfl rfl ?_)))))
  refine cD rfl rfl rfl (bO (k) lZ rfl rfl rfl ((hrx.rd M6 (aZ (i := 0) rfl)).below_len (aJ cA (aJ _ hxb))) ((hrx.rd M6 (aZ (i := 0) rfl)).someK (aJ cA (aJ _ hxb)))) (cD rfl rfl rfl (gT (.int _ _) lF (hrx.rd M6 (aZ (i := 0) rfl)) (aJ cA (aJ _ hxb)) rfl) ?_)
  refine aY rfl rfl rfl (fun _ => bM rfl rfl (by omega) (by omega)) (dP [true, true, true] rfl (by kernel_rfl) (bV aJp rfl rfl (yV _ (xb.vx + fM xs cs (·.nx) xb) 16777216 ⟨by decide, by decide⟩) ?_))
  rintro v7 w7 ⟨rfl, hb7⟩
  have M7 := M6.callB hb7
  refine aB (aC ⟨dQ, ?_⟩)
  refine aY rfl rfl rfl (fun _ => aG (.tuple (List.toArray _)) rfl) (aY rfl rfl rfl (fun _ => bE (.int _ _) rfl rfl) (aY rfl rfl rfl (fun _ => bE (.bool (decide _)) rfl rfl) (pX rfl rfl rfl (aY rfl rfl rfl (fun _ => aI (.bool (decide _)) rfl) (cF ?_)))))
  refine aC (aD (bQ [(0, 0), (1, 0), (2, 1), (3, 0), (4, 0), (5, 0), (6, 1), (7, 1), (8, 0), (9, 2), (10, 0), (11, 0), (12, 0), (13, 0), (14, 0)] mixed rfl (by kernel_rfl) (fun w8 hb8 hh8 => ?_)))
  have M8 := M7.drew hb8 hh8
  refine aY rfl rfl rfl (fun _ => aE 8 fG rfl) (aY rfl rfl rfl (fun _ => aE 1 dN rfl) (cD rfl rfl rfl (aM 3 (.int _ _) aU M8 rfl rfl rfl) (aY rfl rfl rfl (fun _ => bU fL Tryz.underlying2 rfl (kJ _ (by omega) (by omega))) (vB rfl rfl rfl (gG rfl rfl rfl ?_)))))
  refine cD rfl rfl rfl (bO (k) lZ rfl rfl rfl ((hry.rd M8 (aZ (i := 1) rfl)).below_len (aJ cA (aJ _ hxb))) ((hry.rd M8 (aZ (i := 1) rfl)).someK (aJ cA (aJ _ hxb)))) (cD rfl rfl rfl (gT (.int _ _) lF (hry.rd M8 (aZ (i := 1) rfl)) (aJ cA (aJ _ hxb)) rfl) ?_)
  refine aY rfl rfl rfl (fun _ => bM rfl rfl (by omega) (by omega)) (dP [true, true, true] rfl (by kernel_rfl) (bV aJp rfl rfl (yV _ (xb.vy + fM xs cs (·.ny) xb) 16777216 ⟨by decide, by decide⟩) ?_))
  rintro v9 w9 ⟨rfl, hb9⟩
  have M9 := M8.callB hb9
  refine aB (aC ⟨dQ, ?_⟩)
  refine aY rfl rfl rfl (fun _ => aG (.tuple (List.toArray _)) rfl) (aY rfl rfl rfl (fun _ => bE (.int _ _) rfl rfl) (aY rfl rfl rfl (fun _ => bE (.bool (decide _)) rfl rfl) (pX rfl rfl rfl (aY rfl rfl rfl (fun _ => aI (.bool (decide _)) rfl) (cF ?_)))))
  refine aC (aD (aA (aV rfl rfl (wq (bU us2 Tryz.underlying21 rfl (lU _ (by omega) (by omega))) rfl (aV rfl rfl (wq (bU us2 Tryz.underlying21 rfl (lU _ (by omega) (by omega))) rfl (wq (cN [(0, .int _ _), (1, .int _ _)] _ eO rfl rfl) rfl ?_)))))))
  refine wq (aE 8 fG rfl) rfl (xM 3 _ bH M9 rfl rfl rfl rfl rfl (aQ rfl) (Nat.le_of_ble_eq_true rfl) (fun w10 M10 => (aB (aC (aD (aA (wq (aG (.bool _) rfl) rfl (wq (aG (.bool _) rfl) rfl ?_))))))))
  refine nF 62 _ rfl (fun g62 => ?_) (fun g62 => ?_)
  ·refine aO rfl rfl (wq (bI true (.bool true) rfl rfl) rfl (wq (aG (.bool true) rfl) rfl (aO rfl rfl (wq (bI true (.bool true) rfl rfl) rfl (wq (aI (.bool true) rfl) rfl ?_)))))
   refine aB (aC (aA (eF rfl rfl (wq (bA 3 bP M10 rfl rfl rfl) rfl (dC [.agg (List.toArray _)] [aF (aHh xs cs xb)] rfl eP M10 rfl rfl rfl rfl (dI rfl) (by decide) (fun b11 w11 M11 => (eH 2 [aF (aHh xs cs xb)] eP M11 rfl rfl rfl rfl rfl hq rfl (by simp [aF, Go.Bil.one]) (dD.ofMem 4 M11 rfl) (by omega) (fun A12 c12 e12 w12 M12 hR12 => ?_))))))))
   refine gC rfl rfl (aB (cX (aC (aA (wq (bM rfl rfl (by omega) (by omega)) rfl (aV rfl rfl ?_))))))
   refine aB ?_
   refine cQ (k + 1, ⟨A12, q.n + 1, c12, e12⟩) (bL (bv rfl (by rw [cV hxb, List.any_append, List.any_cons, List.any_nil, Bool.or_false]; rw [g62, Bool.true_or])) (bL rfl (bL rfl eV))) (cU rfl (cU rfl (cU rfl (cU rfl (cU rfl (cU rfl jS)))))) ?_ ?_
   ·exact ⟨⟨by omega, by rw [cV hxb, List.map_append, List.map_append]; exact hR12⟩, M12.keep [true, true, true, false, false]⟩
   ·(show n - (k + 1) < n - k; omega)
  ·refine wq (aG (.bool (decide _)) rfl) rfl (wq (bI false (.bool (decide _)) rfl rfl) rfl (wq (aG (.bool (decide _)) rfl) rfl ?_))
   refine cW 65 rfl (fun g65 => ?_) (fun g65 => ?_)
   ·refine aO rfl rfl (wq (bI true (.bool true) rfl rfl) rfl (wq (aI (.bool true) rfl) rfl (aB (aC (aA (eF rfl rfl (wq (bA 3 bP M10 rfl rfl rfl) rfl ?_)))))))
    refine dC [.agg (List.toArray _)] [aF (aHh xs cs xb)] rfl eP M10 rfl rfl rfl rfl (dI rfl) (by decide) (fun b13 w13 M13 => (eH 2 [aF (aHh xs cs xb)] eP M13 rfl rfl rfl rfl rfl hq rfl (by simp [aF, Go.Bil.one]) (dD.ofMem 4 M13 rfl) (by omega) (fun A14 c14 e14 w14 M14 hR14 => ?_)))
    refine gC rfl rfl (aB (cX (aC (aA (wq (bM rfl rfl (by omega) (by omega)) rfl (aV rfl rfl ?_))))))
    refine aB ?_
    refine cQ (k + 1, ⟨A14, q.n + 1, c14, e14⟩) (bL (bv rfl (by rw [cV hxb, List.any_append, List.any_cons, List.any_nil, Bool.or_false]; rw [g62]; simp [aXu, g65])) (bL rfl (bL rfl eV))) (cU rfl (cU rfl (cU rfl (cU rfl (cU rfl (cU rfl jS)))))) ?_ ?_
    ·exact ⟨⟨by omega, by rw [cV hxb, List.map_append, List.map_append]; exact hR14⟩, M14.keep [true, true, true, false, false]⟩
    ·(show n - (k + 1) < n - k; omega)
   ·refine wq (aG (.bool (decide _)) rfl) rfl (wq (bI false (.bool (decide _)) rfl rfl) rfl (wq (aI (.bool (decide _)) rfl) rfl (aB (aC (aA (eF rfl rfl (wq (bA 3 bP M10 rfl rfl rfl) rfl ?_)))))))
    refine dC [.agg (List.toArray _)] [aF (aHh xs cs xb)] rfl eP M10 rfl rfl rfl rfl (dI rfl) (by decide) (fun b15 w15 M15 => (eH 2 [aF (aHh xs cs xb)] eP M15 rfl rfl rfl rfl rfl hq rfl (by simp [aF, Go.Bil.one]) (dD.ofMem 4 M15 rfl) (by omega) (fun A16 c16 e16 w16 M16 hR16 => ?_)))
    refine gC rfl rfl (aB (cX (aC (aA (wq (bM rfl rfl (by omega) (by omega)) rfl (aV rfl rfl ?_))))))
    refine aB ?_
    refine cQ (k + 1, ⟨A16, q.n + 1, c16, e16⟩) (bL (bv rfl (by rw [cV hxb, List.any_append, List.any_cons, List.any_nil, Bool.or_false]; rw [g62]; simp [aXu, g65])) (bL rfl (bL rfl eV))) (cU rfl (cU rfl (cU rfl (cU rfl (cU rfl (cU rfl jS)))))) ?_ ?_
    ·exact ⟨⟨by omega, by rw [cV hxb, List.map_append, List.map_append]; exact hR16⟩, M16.keep [true, true, true, false, false]⟩
    ·(show n - (k + 1) < n - k; omega)
 ·have hkn : k = n := by omega
  rw [List.take_of_length_le (by omega)] at hq
  refine cP (dA (cY (eT (aC (aD (aA (eF rfl rfl ?_)))))))
  refine wq (aG (.bool _) rfl) rfl (gC rfl rfl (wq (aI (.bool _) rfl) rfl (aB (aC (aN (iD (.slice _ _ _) (.bool _) rfl rfl ?_))))))
  exact ⟨q, aAi rfl (congrArg Value.bool (by rw [List.take_of_length_le (by omega)]; rfl)), hq, hM3.keep [false, false, true]⟩
set_option maxHeartbeats 4000000 in
theorem aOs (w : World) (A : Option Addr) (n c : Nat) (xs : List Body) (R : Rd w 10 A n (xs.map aF)) (hs : bW xs) (hb : ∀ b ∈ xs, Okb b) (hn : n ≤ 1048576) (B : Option Addr) (mc c' : Nat) (cs : List Con) (R' : Rd w 5 B mc (cs.map cK)) (hcs : ∀ c ∈ cs, OkC xs c) (hmc : mc ≤ 8589934592) :
  Calls Tryz.prog 73 #[.slice A n c, .slice B mc c'] w (fun ex w' => ∃ v, ex = .returned v ∧ (fun v w' => ∃ r : Row, v = .tuple #[.slice r.A r.n r.c, .bool (gZ xs cs 4).2] ∧ aX 40 10 r.A r.n r.c (((gZ xs cs 4).1).map aF) r.e ∧ Mem w [] [r.e] w') v w') := by
 have hlen : xs.length = n := by simpa using R.len
 have hbd := R.bound
 have hclen : cs.length = mc := by simpa using R'.len
 have hbd' := R'.bound
 refine aH #[.tmp 4, .tmp 5] 25 Tryz.func73 rfl Tryz.results73 Tryz.ntmps73 rfl ?_
 have M0 := Mem.refl w
 refine aD (aA (gC rfl rfl (wq (aI (.bool false) rfl) rfl (aB (aC (aD (aA (wq (aI (.bool false) rfl) rfl ?_))))))))
 have M1 := M0.dummy default
 refine aB (aC (aD (aD (aA (aV rfl rfl (aB (aC (aS (dM (σ := Nat × Row) [1, 4, 5] (fun (k, q) => [(0, .slice q.A q.n q.c), (6, .bool (gZ xs cs k).2), (9, .int .i64 (k : Int))]) (fun (k, q) w' => (k ≤ 4 ∧ Rd w' 10 q.A q.n ((gZ xs cs k).1.map aF) ∧ (0 < k → aX 40 10 q.A q.n q.c (((gZ xs cs k).1).map aF) q.e)) ∧ Mem w [] [q.e] w') (fun (k, q) => 4 - k) (0, ⟨A, n, c, (none, default)⟩) (bL rfl (bL (bv rfl rfl) (bL rfl eV))) (⟨⟨by omega, R.mem M1, (fun h => absurd h (by omega))⟩, M1⟩) ?_)))))))))
 rintro ⟨k, q⟩ ρ2 w2 ⟨⟨hk, hRq, hq⟩, hM2⟩
 have hql : (gZ xs cs k).1.length = q.n := by simpa using hRq.len
 have hsl := (jO xs cs k).len
 refine aD (aA (cT rfl rfl rfl rfl (aB (aC (aD ?_)))))
 refine aW rfl (fun h10 => ?_) (fun h10 => ?_)
 ·refine aK (aC (aD (aS (aD (aA (eF rfl rfl (eF rfl rfl (bV bAc rfl rfl (aOn _ q.A q.n q.c (gZ xs cs k).1 hRq ((jO xs cs k).sorted hs) (sO hb k) (by omega) B mc c' cs (R'.mem hM2) (fun c h => (jO xs cs k).okc (hcs c h)) hmc) ?_))))))))
  rintro v3 w3 ⟨r, rfl, hr, hM3⟩
  have M3 : Mem _ _ [_, _] _ := hM2.call0 hM3
  refine wq (aG (.tuple (List.toArray _)) rfl) rfl (wq (bE (.slice _ _ _) rfl rfl) rfl (wq (bE (.bool _) rfl rfl) rfl (gC rfl rfl (wq (aI (.bool _) rfl) rfl (aB (aC (aA ?_)))))))
  refine eF rfl rfl (wq (aG (.bool _) rfl) rfl (wq (aG (.bool _) rfl) rfl ?_))
  refine nF 19 _ rfl (fun g19 => ?_) (fun g19 => ?_)
  ·refine aO rfl rfl (wq (bI true (.bool true) rfl rfl) rfl (gC rfl rfl (wq (aI (.bool true) rfl) rfl (aB (cX ?_)))))
   refine aC (aA (wq (bM rfl rfl (by omega) (by omega)) rfl (aV rfl rfl (aB ?_))))
   refine cQ (k + 1, r) (bL rfl (bL (bv rfl (by show true = (_ || _); rw [g19, Bool.true_or])) (bL rfl eV))) (cU rfl (cU rfl (cU rfl jS))) ?_ ?_
   ·exact ⟨⟨by omega, hr.rd M3 (aZ (i := 1) rfl), (fun _ => hr)⟩, M3.keep [false, true]⟩
   ·(show 4 - (k + 1) < 4 - k; omega)
  ·refine wq (aG (.bool _) rfl) rfl (wq (bI false (.bool _) rfl rfl) rfl (gC rfl rfl (wq (aI (.bool _) rfl) rfl (aB (cX ?_)))))
   refine aC (aA (wq (bM rfl rfl (by omega) (by omega)) rfl (aV rfl rfl (aB ?_))))
   refine cQ (k + 1, r) (bL rfl (bL (bv rfl (by show _ = (_ || _); rw [g19, Bool.false_or])) (bL rfl eV))) (cU rfl (cU rfl (cU rfl jS))) ?_ ?_
   ·exact ⟨⟨by omega, hr.rd M3 (aZ (i := 1) rfl), (fun _ => hr)⟩, M3.keep [false, true]⟩
   ·(show 4 - (k + 1) < 4 - k; omega)
 ·have hk4 : k = 4 := by omega
  rw [hk4] at hq
  refine cP (dA (cY (eT (aC (aD (aA (eF rfl rfl ?_)))))))
  refine wq (aG (.bool _) rfl) rfl (gC rfl rfl (wq (aI (.bool _) rfl) rfl (aB (aC (aN (iD (.slice _ _ _) (.bool _) rfl rfl ?_))))))
  exact ⟨q, aAi rfl (congrArg Value.bool (by rw [hk4])), hq (by omega), hM2⟩
set_option maxHeartbeats 4000000 in
theorem wT (w : World) (c : Con) (a b : Body) (hc : Okn c) (ha : Okb a) (hb : Okb b) :
  Calls Tryz.prog 142 #[.agg (cK c).toArray, (.agg (aF a).toArray), (.agg (aF b).toArray)] w (fun ex w' => ∃ v, ex = .returned v ∧ (fun v w' => v = .int .i64 (pM c a b) ∧ Below w.heap.size w w') v w') := by
 have hdp := hc.d
 have hm1 := ha.m
 have hm2 := hb.m
 refine aH #[.tmp 6] 27 Tryz.func142 rfl Tryz.results142 Tryz.ntmps142 rfl ?_
 have M0 := Mem.refl w
 refine aD (aA (bK (.agg (List.toArray _)) M0 rfl rfl rfl (fun b1 w1 M1 => (bK (.agg (List.toArray _)) M1 rfl rfl rfl (fun b2 w2 M2 => (bK (.agg (List.toArray _)) M2 rfl rfl rfl (fun b3 w3 M3 => (bJ rfl rfl (aB (aC (aD (aA ?_))))))))))))
 refine wq (aE 4 aTs rfl) rfl (wq (aM 0 (.int _ _) aU M3 rfl rfl rfl) rfl (wq (bU fL Tryz.underlying2 rfl (kJ _ (by omega) (by omega))) rfl (wq (nE rfl rfl (by omega) (by omega)) rfl (bJ rfl rfl (aB (aC (aD (aD (aA ?_)))))))))
 refine aV rfl rfl (cT rfl rfl rfl rfl (wq (aG (.bool (decide _)) rfl) rfl ?_))
 refine cW 14 rfl (fun g14 => ?_) (fun g14 => ?_)
 ·refine aO rfl rfl (aO rfl rfl (aO rfl rfl (aO rfl rfl (aO rfl rfl (aO rfl rfl ?_)))))
  refine aO rfl rfl (aO rfl rfl (wq (bI true (.bool true) rfl rfl) rfl (aB (aC (cO rfl (aD (aA ?_)))))))
  refine bJ rfl rfl (aB (aC (aN (cE (cC (.int _ _) rfl ?_)))))
  exact ⟨iE (by unfold pM; rw [if_pos (by omega)]), M3.below⟩
 ·refine wq (aE 4 fF rfl) rfl (wq (aM 1 (.int _ _) aU M3 rfl rfl rfl) rfl (cT rfl rfl rfl rfl (wq (aG (.bool (decide _)) rfl) rfl ?_)))
  refine cW 18 rfl (fun g18 => ?_) (fun g18 => ?_)
  ·refine wq (aE 4 fF rfl) rfl (wq (aM 2 (.int _ _) aU M3 rfl rfl rfl) rfl (cT rfl rfl rfl rfl (wq (bI true (.bool (decide _)) rfl rfl) rfl (wq (bI false (.bool (decide _)) rfl rfl) rfl (aB (aC ?_))))))
   refine aW rfl (fun h23 => ?_) (fun h23 => ?_)
   ·refine aD (aA (bJ rfl rfl (aB (aC (aN (cE (cC (.int _ _) rfl ?_)))))))
    exact ⟨iE (by unfold pM; rw [if_pos (by omega)]), M3.below⟩
   ·refine aK (aC (aD (aA (aV rfl rfl (wq (fT rfl rfl (by omega) (by omega)) rfl (wq (gH rfl rfl (by decide)) rfl (bJ rfl rfl (aB (aC (aN ?_))))))))))
    refine cC (.int _ _) rfl ?_
    exact ⟨iE (by unfold pM; rw [if_neg (by omega)]; exact mE _), M3.below⟩
  ·refine aO rfl rfl (aO rfl rfl (aO rfl rfl (wq (bI false (.bool false) rfl rfl) rfl (wq (bI false (.bool false) rfl rfl) rfl (aB (aC ?_))))))
   refine bX rfl (aK (aC (aD (aA (aV rfl rfl (wq (fT rfl rfl (by omega) (by omega)) rfl (wq (gH rfl rfl (by decide)) rfl (bJ rfl rfl ?_))))))))
   refine aB (aC (aN (cC (.int _ _) rfl ?_)))
   exact ⟨iE (by unfold pM; rw [if_neg (by omega)]; exact mE _), M3.below⟩
set_option maxHeartbeats 4000000 in
theorem aBk (w : World) (c : Con) (a b : Body) (hc : Okn c) (ha : Okb a) (hb : Okb b) (hi : Bool) :
  Calls Tryz.prog 111 #[.agg (cK c).toArray, (.agg (aF a).toArray), (.agg (aF b).toArray), .bool hi] w (fun ex w' => ∃ v, ex = .returned v ∧ (fun v w' => v = .int .i64 (oG c a b (if hi = true then b.mass else a.mass)) ∧ Below w.heap.size w w') v w') := by
 have hdp := hc.d
 have hm1 := ha.m
 have hm2 := hb.m
 have hm0 : 0 ≤ (if hi = true then b.mass else a.mass) ∧ (if hi = true then b.mass else a.mass) ≤ 1048576 := by split <;> omega
 have hsr := aXs (a := a) (b := b) hc hm0
 have har := aDi (a := a) (b := b) hc
 refine aH #[.tmp 8] 36 Tryz.func111 rfl Tryz.results111 Tryz.ntmps111 rfl ?_
 have M0 := Mem.refl w
 refine aD (aA (bK (.agg (List.toArray _)) M0 rfl rfl rfl (fun b1 w1 M1 => (bK (.agg (List.toArray _)) M1 rfl rfl rfl (fun b2 w2 M2 => (bK (.agg (List.toArray _)) M2 rfl rfl rfl (fun b3 w3 M3 => (bJ rfl rfl (aB (aC (aD (aA ?_))))))))))))
 refine wq (aE 4 fF rfl) rfl (wq (aM 1 (.int _ _) aU M3 rfl rfl rfl) rfl (bJ rfl rfl (aB (aC (aD (aD (aA (wq (aG (.bool _) rfl) rfl (aB (aC ?_))))))))))
 refine gU _ rfl (fun h14 => ?_) (fun h14 => ?_)
 ·refine aA (wq (aE 4 fF rfl) rfl (wq (aM 2 (.int _ _) aU M3 rfl rfl rfl) rfl (bJ rfl rfl (aB (aC (aD (bQ [(0, 1), (1, 1), (2, 1), (4, 0), (5, 0), (6, 0), (7, 1), (8, 0), (9, 0), (10, 1), (11, 0), (12, 0), (13, 0), (3, 2), (14, 2), (15, 0), (16, 0), (17, 0), (18, 0), (19, 0)] mixed rfl (by kernel_rfl) (fun w4 hb4 hh4 => ?_))))))))
  have M4 := M3.drew hb4 hh4
  refine cD rfl rfl rfl (bA 0 gE M4 rfl rfl rfl) (cD rfl rfl rfl (bA 1 bP M4 rfl rfl rfl) (cD rfl rfl rfl (bA 2 bP M4 rfl rfl rfl) (gG rfl rfl rfl (aY rfl rfl rfl (fun _ => bU fL Tryz.underlying2 rfl (kJ _ (by omega) (by omega))) (gB 23 (.int .i64 (if hi = true then b.mass else a.mass)) (iE (by rw [h14]; rfl)) ?_)))))
  refine aY rfl rfl rfl (fun _ => aE 4 fF rfl) (cD rfl rfl rfl (aM 1 (.int _ _) aU M4 rfl rfl rfl) (aY rfl rfl rfl (fun _ => bU fL Tryz.underlying2 rfl (kJ _ (by omega) (by omega))) (aY rfl rfl rfl (fun _ => aE 4 fF rfl) (cD rfl rfl rfl (aM 2 (.int _ _) aU M4 rfl rfl rfl) ?_))))
  refine aY rfl rfl rfl (fun _ => bU fL Tryz.underlying2 rfl (kJ _ (by omega) (by omega))) (aY rfl rfl rfl (fun _ => bM rfl rfl (by omega) (by omega)) (aY rfl rfl rfl (fun _ => nR rfl rfl ) (dP [false, false, true, true, true] rfl (by kernel_rfl) (bV aTa rfl rfl (wT _ c a b hc ha hb) ?_))))
  rintro v5 w5 ⟨rfl, hb5⟩
  have M5 := M4.callB hb5
  refine aB (aC ⟨(eK (bN rfl (aM 2 (.int _ _) aU M5 rfl rfl rfl)) (eK (bN rfl (aM 1 (.int _ _) aU M5 rfl rfl rfl)) dQ)), ?_⟩)
  refine dP [true, true] rfl (by kernel_rfl) (bV aDy rfl rfl (aEp _ (pM c a b) (if hi = true then b.mass else a.mass) (max 1 (a.mass + b.mass)) (by omega) hm0.1 (by omega) (by omega) (by omega) (by omega) (by omega)) ?_)
  rintro v6 w6 ⟨rfl, hb6⟩
  have M6 := M5.callB hb6
  refine aB (aC ⟨dQ, ?_⟩)
  refine aY rfl rfl rfl (fun _ => aG (.tuple (List.toArray _)) rfl) (aY rfl rfl rfl (fun _ => bE (.int _ _) rfl rfl) (aY rfl rfl rfl (fun _ => bE (.int _ _) rfl rfl) (pX rfl rfl rfl (pX rfl rfl rfl (cF ?_)))))
  refine aC (aD (aA (aV rfl rfl (bJ rfl rfl (aB (aC (aN (cC (.int _ _) rfl ?_))))))))
  exact ⟨rfl, M6.below⟩
 ·refine aK (aC (aD (bQ [(0, 1), (1, 1), (2, 1), (4, 0), (5, 0), (6, 0), (7, 1), (8, 0), (9, 0), (10, 1), (11, 0), (12, 0), (13, 0), (3, 2), (14, 2), (15, 0), (16, 0), (17, 0), (18, 0), (19, 0)] mixed rfl (by kernel_rfl) (fun w7 hb7 hh7 => ?_))))
  have M7 := M3.drew hb7 hh7
  refine cD rfl rfl rfl (bA 0 gE M7 rfl rfl rfl) (cD rfl rfl rfl (bA 1 bP M7 rfl rfl rfl) (cD rfl rfl rfl (bA 2 bP M7 rfl rfl rfl) (gG rfl rfl rfl (aY rfl rfl rfl (fun _ => bU fL Tryz.underlying2 rfl (kJ _ (by omega) (by omega))) (gB 23 (.int .i64 (if hi = true then b.mass else a.mass)) (iE (by rw [h14]; rfl)) ?_)))))
  refine aY rfl rfl rfl (fun _ => aE 4 fF rfl) (cD rfl rfl rfl (aM 1 (.int _ _) aU M7 rfl rfl rfl) (aY rfl rfl rfl (fun _ => bU fL Tryz.underlying2 rfl (kJ _ (by omega) (by omega))) (aY rfl rfl rfl (fun _ => aE 4 fF rfl) (cD rfl rfl rfl (aM 2 (.int _ _) aU M7 rfl rfl rfl) ?_))))
  refine aY rfl rfl rfl (fun _ => bU fL Tryz.underlying2 rfl (kJ _ (by omega) (by omega))) (aY rfl rfl rfl (fun _ => bM rfl rfl (by omega) (by omega)) (aY rfl rfl rfl (fun _ => nR rfl rfl ) (dP [false, false, true, true, true] rfl (by kernel_rfl) (bV aTa rfl rfl (wT _ c a b hc ha hb) ?_))))
  rintro v8 w8 ⟨rfl, hb8⟩
  have M8 := M7.callB hb8
  refine aB (aC ⟨(eK (bN rfl (aM 2 (.int _ _) aU M8 rfl rfl rfl)) (eK (bN rfl (aM 1 (.int _ _) aU M8 rfl rfl rfl)) dQ)), ?_⟩)
  refine dP [true, true] rfl (by kernel_rfl) (bV aDy rfl rfl (aEp _ (pM c a b) (if hi = true then b.mass else a.mass) (max 1 (a.mass + b.mass)) (by omega) hm0.1 (by omega) (by omega) (by omega) (by omega) (by omega)) ?_)
  rintro v9 w9 ⟨rfl, hb9⟩
  have M9 := M8.callB hb9
  refine aB (aC ⟨dQ, ?_⟩)
  refine aY rfl rfl rfl (fun _ => aG (.tuple (List.toArray _)) rfl) (aY rfl rfl rfl (fun _ => bE (.int _ _) rfl rfl) (aY rfl rfl rfl (fun _ => bE (.int _ _) rfl rfl) (pX rfl rfl rfl (pX rfl rfl rfl (cF ?_)))))
  refine aC (aD (aA (aV rfl rfl (bJ rfl rfl (aB (aC (aN (cC (.int _ _) rfl ?_))))))))
  exact ⟨rfl, M9.below⟩
set_option maxHeartbeats 4000000 in
theorem yQ (w : World) (bo bk : Nat) (cn : Con) (q : Row) (l : List (Int × Int)) (hq : aX 135 2 q.A q.n q.c ((l).map cJ) q.e) (p : Nat) (s z : Int) (f : Int × Int) (hp : l[p]? = some f) (hs : 0 ≤ s ∧ s ≤ 1073741824) (hz : z = 1 ∨ z = -1) (hc : Okn cn) (hf : (-1152921504606846976 ≤ f.1 ∧ f.1 ≤ 1152921504606846976) ∧ -1152921504606846976 ≤ f.2 ∧ f.2 ≤ 1152921504606846976) (hO : Own [(some bo, bc [.slice q.A q.n q.c] 97), q.e, (some bk, bc (cK cn) 121)] w) :
  Calls Tryz.prog 110 #[.int .i64 (p : Int), .int .i64 s, .int .i64 z, .pointer (some ⟨bo, 0, none⟩), .pointer (some ⟨bk, 0, none⟩)] w (fun ex w' => ∃ v, ex = .returned v ∧ (fun v w' => v = .tuple #[] ∧ ∃ e : dR, aX 135 2 q.A q.n q.c ((l.set p (aHz s z cn f)).map cJ) e ∧ Mem w (bS [(some bo, bc [.slice q.A q.n q.c] 97), q.e, (some bk, bc (cK cn) 121)]) [(some bo, bc [.slice q.A q.n q.c] 97), e, (some bk, bc (cK cn) 121)] w') v w') := by
 have hcx := hc.x
 have hcy := hc.y
 have hl : l.length = q.n := by simpa using hq.1
 have hpl := (List.getElem?_eq_some_iff.1 hp).1
 have r1 := pS hs hc.x
 have r2 := pS hs hc.y
 have hp2 : (l.set p (f.1 + z * (s * cn.nx / 65536), f.2))[p]? = some (f.1 + z * (s * cn.nx / 65536), f.2) := by rw [List.getElem?_set_self hpl]
 have z1 : -1073741824 ≤ z * (s * cn.nx / 65536) ∧ z * (s * cn.nx / 65536) ≤ 1073741824 := by rcases hz with rfl | rfl <;> omega
 have z2 : -1073741824 ≤ z * (s * cn.ny / 65536) ∧ z * (s * cn.ny / 65536) ≤ 1073741824 := by rcases hz with rfl | rfl <;> omega
 refine aH #[] 42 Tryz.func110 rfl Tryz.results110 Tryz.ntmps110 rfl ?_
 have M0 := hO.mem
 refine aD (bQ [(0, 1), (1, 0), (2, 1), (3, 1), (4, 1), (5, 0), (6, 0), (7, 0), (8, 0), (9, 1), (10, 0), (11, 0), (12, 0), (13, 0), (14, 0), (15, 1), (16, 1), (17, 2)] mixed rfl (by kernel_rfl) (fun w1 hb1 hh1 => ?_))
 have M1 := M0.drew hb1 hh1
 refine cD rfl rfl rfl (aM 0 (.slice _ _ _) aCn M1 rfl rfl rfl) (gG rfl rfl rfl (cD rfl rfl rfl (bO (p) aJr rfl rfl rfl ((hq.rd M1 (aZ (i := 1) rfl)).below_len (aJ cJ hp)) ((hq.rd M1 (aZ (i := 1) rfl)).someK (aJ cJ hp))) (cD rfl rfl rfl (bR 0 wX (hq.rd M1 (aZ (i := 1) rfl)) (Nat.lt_of_le_of_lt (Nat.zero_le _) ((hq.rd M1 (aZ (i := 1) rfl)).below_len (aJ cJ hp))) rfl) ?_)))
 refine cD rfl rfl rfl (eQ (o := 0) (.int _ _) lF (hq.rd M1 (aZ (i := 1) rfl)) (aJ cJ hp) rfl rfl) (gG rfl rfl rfl (gG rfl rfl rfl (aY rfl rfl rfl (fun _ => aE 2 mX rfl) (aY rfl rfl rfl (fun _ => aE 0 dU rfl) (cD rfl rfl rfl (aM 2 (.int _ _) aU M1 rfl rfl rfl) ?_)))))
 refine aY rfl rfl rfl (fun _ => bU fL Tryz.underlying2 rfl (kJ _ (by omega) (by omega))) (aY rfl rfl rfl (fun _ => fT rfl rfl (by omega) (by omega)) (aY rfl rfl rfl (fun _ => gH rfl rfl (by decide)) (gB 20 (.int .i64 (s * cn.nx / 65536)) (iE (mE _)) (aY rfl rfl rfl (fun _ => fT rfl rfl (by omega) (by omega)) ?_))))
 refine aY rfl rfl rfl (fun _ => bM rfl rfl (by omega) (by omega)) (cD rfl rfl rfl (bO (p) aJr rfl rfl rfl ((hq.rd M1 (aZ (i := 1) rfl)).below_len (aJ cJ hp)) ((hq.rd M1 (aZ (i := 1) rfl)).someK (aJ cJ hp))) (cD rfl rfl rfl (bR 0 wX (hq.rd M1 (aZ (i := 1) rfl)) (Nat.lt_of_le_of_lt (Nat.zero_le _) ((hq.rd M1 (aZ (i := 1) rfl)).below_len (aJ cJ hp))) rfl) ?_))
 refine dP [true, true, true, true, true, true, true] rfl (by kernel_rfl) (aDo (o := 0) 1 (.int _ _) lF M1 rfl hq (aJ cJ hp) rfl rfl rfl rfl rfl (fun e2 w2 hR2 M2 => ?_))
 have hQ2 := hR2.mapSet (f := cJ) (x := (f.1 + z * (s * cn.nx / 65536), f.2)) rfl
 refine aB (aC ⟨dQ, ?_⟩)
 refine cF (aC (bQ [(0, 1), (1, 0), (2, 1), (3, 1), (4, 1), (5, 0), (6, 0), (7, 0), (8, 0), (9, 1), (10, 0), (11, 0), (12, 0), (13, 0), (14, 0), (15, 1), (16, 1), (17, 2)] mixed rfl (by kernel_rfl) (fun w3 hb3 hh3 => ?_)))
 have M3 := M2.drew hb3 hh3
 refine cD rfl rfl rfl (aM 0 (.slice _ _ _) aCn M3 rfl rfl rfl) (gG rfl rfl rfl (cD rfl rfl rfl (bO (p) aJr rfl rfl rfl ((hQ2.rd M3 (aZ (i := 1) rfl)).below_len (aJ cJ hp2)) ((hQ2.rd M3 (aZ (i := 1) rfl)).someK (aJ cJ hp2))) (cD rfl rfl rfl (bR 1 xN (hQ2.rd M3 (aZ (i := 1) rfl)) (Nat.lt_of_le_of_lt (Nat.zero_le _) ((hQ2.rd M3 (aZ (i := 1) rfl)).below_len (aJ cJ hp2))) rfl) ?_)))
 refine cD rfl rfl rfl (eQ (o := 1) (.int _ _) lF (hQ2.rd M3 (aZ (i := 1) rfl)) (aJ cJ hp2) rfl rfl) (gG rfl rfl rfl (gG rfl rfl rfl (aY rfl rfl rfl (fun _ => aE 2 mX rfl) (aY rfl rfl rfl (fun _ => aE 1 dN rfl) (cD rfl rfl rfl (aM 2 (.int _ _) aU M3 rfl rfl rfl) ?_)))))
 refine aY rfl rfl rfl (fun _ => bU fL Tryz.underlying2 rfl (kJ _ (by omega) (by omega))) (aY rfl rfl rfl (fun _ => fT rfl rfl (by omega) (by omega)) (aY rfl rfl rfl (fun _ => gH rfl rfl (by decide)) (gB 37 (.int .i64 (s * cn.ny / 65536)) (iE (mE _)) (aY rfl rfl rfl (fun _ => fT rfl rfl (by omega) (by omega)) ?_))))
 refine aY rfl rfl rfl (fun _ => bM rfl rfl (by omega) (by omega)) (cD rfl rfl rfl (bO (p) aJr rfl rfl rfl ((hQ2.rd M3 (aZ (i := 1) rfl)).below_len (aJ cJ hp2)) ((hQ2.rd M3 (aZ (i := 1) rfl)).someK (aJ cJ hp2))) (cD rfl rfl rfl (bR 1 xN (hQ2.rd M3 (aZ (i := 1) rfl)) (Nat.lt_of_le_of_lt (Nat.zero_le _) ((hQ2.rd M3 (aZ (i := 1) rfl)).below_len (aJ cJ hp2))) rfl) ?_))
 refine dP [true, true, true, true, true, true, true] rfl (by kernel_rfl) (aDo (o := 1) 1 (.int _ _) lF M3 rfl hQ2 (aJ cJ hp2) rfl rfl rfl rfl rfl (fun e4 w4 hR4 M4 => ?_))
 have hQ4 := hR4.mapSet (f := cJ) (x := aHz s z cn f) rfl
 rw [List.set_set] at hQ4
 refine aB (aC ⟨dQ, ?_⟩)
 refine cF (iP ?_)
 exact ⟨rfl, e4, hQ4, M4⟩
theorem Mem.swap2 {w0 w : World} {X : List Nat} {a b : dR} (M : Mem w0 X [a, b] w) : Mem w0 X [b, a] w := M.perm (List.Perm.swap b a [])
theorem aDv {xs : List Body} {cs : List Con} {n : Nat} (hs : bW xs) (hb : ∀ b ∈ xs, Okb b) (hcs : ∀ c ∈ cs, OkC xs c) (hn : cs.length = n) (hl : n ≤ 1073741824) (k : Nat) {b : Body} (h : b ∈ xs) : (-1152921504606846976 ≤ (iN xs (cs.take k) b).1 ∧ (iN xs (cs.take k) b).1 ≤ 1152921504606846976) ∧ -1152921504606846976 ≤ (iN xs (cs.take k) b).2 ∧ (iN xs (cs.take k) b).2 ≤ 1152921504606846976 := by
 have ht : (cs.take k).length ≤ cs.length := by rw [List.length_take]; omega
 have h1 := aFs (cs := cs.take k) (g := (·.nx)) hs hb (fun c h => hcs c (List.mem_of_mem_take h)) (fun c h => (hcs c (List.mem_of_mem_take h)).n.x) h
 have h2 := aFs (cs := cs.take k) (g := (·.ny)) hs hb (fun c h => hcs c (List.mem_of_mem_take h)) (fun c h => (hcs c (List.mem_of_mem_take h)).n.y) h
 unfold iN
 simp only
 omega
set_option maxHeartbeats 8000000 in
theorem aIo (w : World) (A : Option Addr) (n c : Nat) (xs : List Body) (R : Rd w 10 A n (xs.map aF)) (hs : bW xs) (hb : ∀ b ∈ xs, Okb b) (hn : n ≤ 1048576) (B : Option Addr) (mc c' : Nat) (cs : List Con) (R' : Rd w 5 B mc (cs.map cK)) (hcs : ∀ c ∈ cs, OkC xs c) (hmc : mc ≤ 1073741824) :
  Calls Tryz.prog 74 #[.slice A n c, .slice B mc c'] w (fun ex w' => ∃ v, ex = .returned v ∧ (fun v w' => ∃ r : Row, v = .slice r.A r.n r.c ∧ aX 135 2 r.A r.n r.c ((xs.map (iN xs cs)).map cJ) r.e ∧ Mem w [] [r.e] w') v w') := by
 have hlen : xs.length = n := by simpa using R.len
 have hbd := R.bound
 have hclen : cs.length = mc := by simpa using R'.len
 have hbd' := R'.bound
 have hz0 : List.replicate n ([.int .i64 0, .int .i64 0] : List Value) = (xs.map (iN xs (cs.take 0))).map cJ := by rw [aYf, aMu hlen ((0, 0) : Int × Int)]; exact congrArg (List.map cJ) (List.map_congr_left (fun b _ => Prod.ext (aCb xs cs (·.nx) b).symm (aCb xs cs (·.ny) b).symm))
 refine aH #[.tmp 4] 67 Tryz.func74 rfl Tryz.results74 Tryz.ntmps74 rfl ?_
 have M0 := Mem.refl w
 refine aD (aA (gC rfl rfl (aB (aC (aD (aA (eF rfl rfl (wq (cM Tryz.underlying22 rfl) rfl (jD (n) [.int .i64 0, .int .i64 0] aJr aVz rfl M0 rfl rfl rfl rfl rfl rfl (by omega) (by omega) (fun b1 w1 M1 => ?_))))))))))
 have hL15 := jR (T := 135) (sz := 2) (b := b1) (nn := n) (List.replicate n [.int .i64 0, .int .i64 0]) (fun l hl => by rw [List.eq_of_mem_replicate hl]; rfl) (by simp) (by omega)
 rw [hz0] at hL15
 rw [hz0] at M1
 refine aR bAm M1 rfl rfl (fun b2 w2 M2 => (dH 1 (.slice _ _ _) aCn M2 rfl rfl rfl rfl rfl rfl (fun w3 M3 => (aB (aC (aD (aD (aA ?_))))))))
 have M4 : Mem _ _ [_, _] _ := Mem.swap2 M3
 refine eF rfl rfl (wq (cM Tryz.underlying82 rfl) rfl (aV rfl rfl (aB (aC (aS (dM (σ := Nat × dR) [0, 4, 5, 16, 17] (fun (k, e) => [(18, .int .i64 (k : Int))]) (fun (k, e) w' => (k ≤ mc ∧ aX 135 2 (some ⟨b1, 0, none⟩) n n ((xs.map (iN xs (cs.take k))).map cJ) e) ∧ Mem w [] [(some b2, bc [.slice (some ⟨b1, 0, none⟩) n n] 97), e] w') (fun (k, e) => mc - k) (0, (some b1, bc ((xs.map (iN xs (cs.take 0))).map cJ).flatten 135)) (bL rfl eV) (⟨⟨by omega, hL15⟩, M4⟩) ?_))))))
 rintro ⟨k, e⟩ ρ5 w5 ⟨⟨hk, hq⟩, hM5⟩
 refine aD (aA (cT rfl rfl rfl rfl (aB (aC (aD ?_)))))
 refine aW rfl (fun h19 => ?_) (fun h19 => ?_)
 ·obtain ⟨cn, hcn⟩ := cI (xs := cs) (k := k) hclen (by omega)
  have hc := hcs cn (List.mem_of_getElem? hcn)
  obtain ⟨pa, xa, hxa, hka, hla, hba, hma⟩ := pV hs hc.l
  obtain ⟨pb, xb, hxb, hkb, hlb, hbb, hmb⟩ := pV hs hc.h
  have hoa := hb xa hma
  have hob := hb xb hmb
  have hne := hc.ne
  have ma := hoa.m
  have mb := hob.m
  have hpab : pa ≠ pb := fun g => by subst g; rw [hxa] at hxb; injection hxb with hxb; subst hxb; omega
  refine aK (aC (aD (aS (aD (aA (wq (bO (k) aOd rfl rfl rfl ((R'.mem hM5).below_len (aJ cK hcn)) ((R'.mem hM5).someK (aJ cK hcn))) rfl (wq (cZ _ gE (R'.mem hM5) (aJ cK hcn) rfl) rfl (aR sJ hM5 rfl rfl (fun b6 w6 M6 => (bC 2 _ gE M6 rfl rfl rfl rfl rfl (aQ rfl) rfl (fun w7 M7 => ?_)))))))))))
  refine aB (aC (aD (aA (eF rfl rfl (wq (aE 0 sV rfl) rfl (wq (aE 0 nG rfl) rfl (wq (aM 2 (.int _ _) bZ M7 rfl rfl rfl) rfl (bV aDn rfl rfl (qI _ cn.low _ _ _ xs (R.mem M7) hs) ?_))))))))
  rintro v8 w8 ⟨rfl, hb8⟩
  have M8 := M7.callB hb8
  refine wq (aG (.tuple (List.toArray _)) rfl) rfl (wq (bE (.int _ _) rfl rfl) rfl (aT 28 (.int .i64 (pa : Int)) (iE (by rw [hla])) (wq (bE (.bool (decide _)) rfl rfl) rfl (bJ rfl rfl (wq (aI (.bool (decide _)) rfl) rfl ?_)))))
  refine aB (aC (aD (aA (eF rfl rfl (wq (aE 0 sV rfl) rfl (wq (aE 1 nC rfl) rfl (wq (aM 2 (.int _ _) bZ M8 rfl rfl rfl) rfl (bV aDn rfl rfl (qI _ cn.high _ _ _ xs (R.mem M8) hs) ?_))))))))
  rintro v9 w9 ⟨rfl, hb9⟩
  have M9 := M8.callB hb9
  refine wq (aG (.tuple (List.toArray _)) rfl) rfl (wq (bE (.int _ _) rfl rfl) rfl (aT 36 (.int .i64 (pb : Int)) (iE (by rw [hlb])) (wq (bE (.bool (decide _)) rfl rfl) rfl (bJ rfl rfl (wq (aI (.bool (decide _)) rfl) rfl ?_)))))
  refine aB (aC (aD (aA (wq (cR [] [.pointer _, .pointer _] rfl rfl) rfl (wq (aI (.func _ _ _) rfl) rfl (aB (aC (aD (bQ [(0, 0), (1, 0), (2, 1), (3, 0), (4, 0), (5, 1), (6, 1), (7, 0), (8, 0), (9, 1), (10, 1), (11, 2), (12, 2)] mixed rfl (by kernel_rfl) (fun w10 hb10 hh10 => ?_))))))))))
  have M10 := M9.drew hb10 hh10
  refine aY rfl rfl rfl (fun _ => aG (.func _ _ _) rfl) (gG rfl rfl rfl (cD rfl rfl rfl (bA 2 gE M10 rfl rfl rfl) (vB rfl rfl rfl (gG rfl rfl rfl (cD rfl rfl rfl (bO (pa) eP rfl rfl rfl ((R.mem M10).below_len (aJ aF hxa)) ((R.mem M10).someK (aJ aF hxa))) ?_)))))
  refine cD rfl rfl rfl (cZ _ bP (R.mem M10) (aJ aF hxa) rfl) (vB rfl rfl rfl (gG rfl rfl rfl (cD rfl rfl rfl (bO (pb) eP rfl rfl rfl ((R.mem M10).below_len (aJ aF hxb)) ((R.mem M10).someK (aJ aF hxb))) (cD rfl rfl rfl (cZ _ bP (R.mem M10) (aJ aF hxb) rfl) ?_))))
  refine dP [true, true, true, true, true] rfl (by kernel_rfl) (bV aRo rfl rfl (aBk _ cn xa xb hc.n hoa hob false) ?_)
  rintro v11 w11 ⟨rfl, hb11⟩
  have M11 := M10.callB hb11
  refine aB (aC ⟨dQ, ?_⟩)
  refine gB 50 (.int .i64 (oG cn xa xb xa.mass)) rfl (dP [] rfl (by kernel_rfl) (bV aRt rfl rfl (yQ _ b2 b6 cn ⟨some ⟨b1, 0, none⟩, n, n, e⟩ (xs.map (iN xs (cs.take k))) hq pa (oG cn xa xb xa.mass) (-1) (iN xs (cs.take k) xa) (aJ _ hxa) (aDl hc.n (by omega)) (.inr rfl) hc.n (aDv hs hb hcs hclen hmc k hma) (M11.ownSeg 0 3)) ?_))
  rintro v12 w12 ⟨rfl, e1, hq1, hM12⟩
  have M12 : Mem _ _ [_, _, _] _ := M11.seg 0 3 hM12
  refine aB (aC ⟨dQ, ?_⟩)
  refine cF (aC (bQ [(0, 0), (1, 0), (2, 1), (3, 0), (4, 0), (5, 1), (6, 1), (7, 0), (8, 0), (9, 1), (10, 1), (11, 2), (12, 2)] mixed rfl (by kernel_rfl) (fun w13 hb13 hh13 => ?_)))
  have M13 := M12.drew hb13 hh13
  refine aY rfl rfl rfl (fun _ => aG (.func _ _ _) rfl) (gG rfl rfl rfl (cD rfl rfl rfl (bA 2 gE M13 rfl rfl rfl) (vB rfl rfl rfl (gG rfl rfl rfl (cD rfl rfl rfl (bO (pa) eP rfl rfl rfl ((R.mem M13).below_len (aJ aF hxa)) ((R.mem M13).someK (aJ aF hxa))) ?_)))))
  refine cD rfl rfl rfl (cZ _ bP (R.mem M13) (aJ aF hxa) rfl) (vB rfl rfl rfl (gG rfl rfl rfl (cD rfl rfl rfl (bO (pb) eP rfl rfl rfl ((R.mem M13).below_len (aJ aF hxb)) ((R.mem M13).someK (aJ aF hxb))) (cD rfl rfl rfl (cZ _ bP (R.mem M13) (aJ aF hxb) rfl) ?_))))
  refine dP [true, true, true, true, true] rfl (by kernel_rfl) (bV aRo rfl rfl (aBk _ cn xa xb hc.n hoa hob true) ?_)
  rintro v14 w14 ⟨rfl, hb14⟩
  have M14 := M13.callB hb14
  refine aB (aC ⟨dQ, ?_⟩)
  refine gB 63 (.int .i64 (oG cn xa xb xb.mass)) rfl (dP [] rfl (by kernel_rfl) (bV aRt rfl rfl (yQ _ b2 b6 cn ⟨some ⟨b1, 0, none⟩, n, n, e1⟩ _ hq1 pb (oG cn xa xb xb.mass) (1) (iN xs (cs.take k) xb) (rM (aJ _ hxb) hpab) (aDl hc.n (by omega)) (.inl rfl) hc.n (aDv hs hb hcs hclen hmc k hmb) (M14.ownSeg 0 3)) ?_))
  rintro v15 w15 ⟨rfl, e2, hq2, hM15⟩
  have M15 : Mem _ _ [_, _, _] _ := M14.seg 0 3 hM15
  refine aB (aC ⟨dQ, ?_⟩)
  refine cF (cX (aC (aA (wq (bM rfl rfl (by omega) (by omega)) rfl (aV rfl rfl (aB ?_))))))
  refine cQ (k + 1, e2) (bL rfl eV) (cU rfl (cU rfl (cU rfl (cU rfl (cU rfl jS))))) ?_ ?_
  ·exact ⟨⟨by omega, by rw [← aNn hcn, ← aXf hs hxa hxb hka hkb hc hba hbb]; exact hq2⟩, M15.keep [true, true, false]⟩
  ·(show mc - (k + 1) < mc - k; omega)
 ·have hkn : k = mc := by omega
  rw [List.take_of_length_le (by omega)] at hq
  refine cP (dA (cY (eT (aC (aD (aA (wq (aM 0 (.slice _ _ _) aCn hM5 rfl rfl rfl) rfl ?_)))))))
  refine gC rfl rfl (aB (aC (aN (cC (.slice _ _ _) rfl ?_))))
  exact ⟨⟨(some ⟨b1, 0, none⟩), n, n, e⟩, rfl, hq, hM5.keep [false, true]⟩
end Go.Proofs.YtlmcphcgiclanaaGreatDoor
