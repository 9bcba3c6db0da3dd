import Derived.Test.YtlmcphcgiclanaaGreatDoorK2
import Derived.Test.YtlmcphcgiclanaaGreatDoorK5
import Derived.Test.YtlmcphcgiclanaaGreatDoorK35
import Derived.Test.YtlmcphcgiclanaaGreatDoorRows
import Derived.Test.YtlmcphcgiclanaaGreatDoorK36
import Derived.Test.YtlmcphcgiclanaaGreatDoorTie
import Derived.Test.YtlmcphcgiclanaaGreatDoorCards
import Derived.WalkKit
import Derived.ProofKit
import Derived.OpenShut
import Derived.ShutString
import Derived.ChangeOld
import Derived.Below
import Derived.SizedLaws
set_option linter.unusedVariables false
set_option linter.unusedSimpArgs false
set_option linter.unnecessarySimpa false
namespace Go.Proofs.YtlmcphcgiclanaaGreatDoor
open Go.Bil
open Go.RowKit (Below)
open Go.Proofs
set_option maxHeartbeats 64000000 in
theorem xS (w : World) (F : Rd w 2 (some ⟨0, 0, none⟩) 1 [[.int .u32 73856093, .int .u32 19349663]]) (N : Rd w 4 (some ⟨3, 0, none⟩) 1 [dD iX]) (A : Option Addr) (n c : Nat) (xs : List Body) (R : Rd w 10 A n (xs.map aF)) (hin : ∀ b ∈ xs, InB b) (f : Nat) (hf : f ≤ 255) (OA : Option Addr) (on oc : Nat) (l : List OpRow) (hl : OpsRd w OA on l) :
  Calls Tryz.prog 9 #[.slice A n c, .int .u8 (f : Int), .slice OA on oc] w (fun ex w' => ∃ v, ex = .returned v ∧ (fun v w' => v = .bool true ∧ Below w.heap.size w w') v w') := by
 have hlen : xs.length = n := by simpa using R.len
 have hbd := R.bound
 have hol : l.length = on := by simpa using hl.rd.len
 have hobd := hl.rd.bound
 refine aH #[.tmp 6] 122 Tryz.func9 rfl Tryz.results9 Tryz.ntmps9 rfl ?_
 have M0 := Mem.refl w
 refine aD (aA (wq (aI (.bool false) rfl) rfl (aB (aC (aD (aD (aA (bX aKo rfl rfl (aVd _ (F.mem M0) (N.mem M0)) ?_))))))))
 rintro v1 w1 ⟨rfl, hb1⟩
 have M1 := M0.callB hb1
 refine wq (gS false rfl rfl) rfl (wq (aG (.bool false) rfl) rfl (eF rfl rfl (wq (cK Tryz.underlying22 rfl) rfl (cS rfl rfl rfl rfl (wq (bL false (.bool (decide _)) rfl rfl) rfl ?_)))))
 refine wq (aG (.bool (decide _)) rfl) rfl ?_
 refine dA 21 rfl (fun g21 => ?_) (fun g21 => ?_)
 ·refine aP rfl rfl (aP rfl rfl (aP rfl rfl (wq (bL true (.bool true) rfl rfl) rfl (wq (aG (.bool true) rfl) rfl (aP rfl rfl ?_)))))
  refine aP rfl rfl (aP rfl rfl (wq (bL true (.bool true) rfl rfl) rfl (aB (aC (cO rfl (aD (aA ?_)))))))
  refine bX aKo rfl rfl (aVd _ (F.mem M1) (N.mem M1)) ?_
  rintro v2 w2 ⟨rfl, hb2⟩
  have M2 := M1.callB hb2
  refine wq (aI (.bool true) rfl) rfl (aB (aC (aN (cC (cA (.bool true) rfl ?_)))))
  exact ⟨rfl, M2.below⟩
 ·refine eF rfl rfl (wq (cK Tryz.underlying22 rfl) rfl (cS rfl rfl rfl rfl (wq (bL false (.bool (decide _)) rfl rfl) rfl (wq (aG (.bool (decide _)) rfl) rfl ?_))))
  refine dA 26 rfl (fun g26 => ?_) (fun g26 => ?_)
  ·refine aP rfl rfl (aP rfl rfl (aP rfl rfl (wq (bL true (.bool true) rfl rfl) rfl (aB (aC (cO rfl ?_))))))
   refine aD (aA (bX aKo rfl rfl (aVd _ (F.mem M1) (N.mem M1)) ?_))
   rintro v3 w3 ⟨rfl, hb3⟩
   have M3 := M1.callB hb3
   refine wq (aI (.bool true) rfl) rfl (aB (aC (aN (cC (cA (.bool true) rfl ?_)))))
   exact ⟨rfl, M3.below⟩
  ·refine eF rfl rfl (bX bFi rfl rfl (aMv _ OA on oc l (hl.mem M1)) ?_)
   rintro v4 w4 ⟨⟨g, rfl, hg⟩, hb4⟩
   have M4 := M1.callB hb4
   refine wq (gS _ rfl rfl) rfl (wq (bL false (.bool _) rfl rfl) rfl (aB (aC ?_)))
   refine gP _ rfl (fun h30 => ?_) (fun h30 => ?_)
   ·refine aD (aA (bX aKo rfl rfl (aVd _ (F.mem M4) (N.mem M4)) ?_))
    rintro v5 w5 ⟨rfl, hb5⟩
    have M5 := M4.callB hb5
    refine wq (aI (.bool true) rfl) rfl (aB (aC (aN (cC (cA (.bool true) rfl ?_)))))
    exact ⟨rfl, M5.below⟩
   ·obtain ⟨hn40, hby⟩ := hg (by simpa using h30)
    have hn0 : 0 < n := by omega
    refine aL (aC (aD (aD (aA (bI rfl rfl (aB (aC (aT (dI (σ := Nat) [0, 1, 2] (fun i => [(7, .int .i64 (i : Int))]) (fun i w' => (i ≤ n ∧ ∀ (p q : Nat) (x y : Body), p < q → q < i → xs[p]? = some x → xs[q]? = some y → x.key ≠ y.key) ∧ Mem w [] [] w') (fun i => n - i) 0 (bK rfl eV) (⟨⟨by omega, fun p q x y h1 h2 => by omega⟩, M4⟩) ?_)))))))))
    rintro i ρ6 w6 ⟨⟨hi, hne⟩, hM6⟩
    refine aD (aD (aA (aV rfl rfl (eF rfl rfl (wq (cK Tryz.underlying22 rfl) rfl (cS rfl rfl rfl rfl (aB (aC ?_))))))))
    refine aW rfl (fun h35 => ?_) (fun h35 => ?_)
    ·obtain ⟨xi, hxi⟩ := cE (xs := xs) (k := i) hlen (by omega)
     refine aL (aC (aD (aT (aD (aA (bI rfl rfl (aB (aC (aT (dI (σ := Nat) [0, 1, 2, 7] (fun k => [(8, .int .i64 (k : Int))]) (fun k w' => (k ≤ i ∧ ∀ (j : Nat) (x : Body), j < k → xs[j]? = some x → x.key ≠ xi.key) ∧ Mem w [] [] w') (fun k => i - k) 0 (bK rfl eV) (⟨⟨by omega, fun j x hj => by omega⟩, hM6⟩) ?_))))))))))
     rintro k ρ7 w7 ⟨⟨hk, hin2⟩, hM7⟩
     refine aD (aD (aA (aV rfl rfl (aV rfl rfl (cS rfl rfl rfl rfl (aB (aC ?_)))))))
     refine aW rfl (fun h40 => ?_) (fun h40 => ?_)
     ·obtain ⟨xk, hxk⟩ := cE (xs := xs) (k := k) hlen (by omega)
      refine aL (aC (aD (aT (aD (bS [(0, 0), (1, 0), (2, 1), (3, 1), (4, 1), (5, 0), (6, 0), (7, 1), (8, 1), (9, 1), (10, 0)] mixed rfl (by kernel_rfl) (fun w8 hb8 hh8 => ?_))))))
      have M8 := hM7.drew hb8 hh8
      refine vY rfl rfl rfl (gD rfl rfl rfl (cB rfl rfl rfl (bQ (i) eM rfl rfl rfl ((R.mem M8).below_len (aJ aF hxi)) ((R.mem M8).someK (aJ aF hxi))) (cB rfl rfl rfl (bP 0 eK (R.mem M8) (Nat.lt_of_le_of_lt (Nat.zero_le _) ((R.mem M8).below_len (aJ aF hxi))) rfl) ?_)))
      refine cB rfl rfl rfl (eJ (o := 0) (.int _ _) bW (R.mem M8) (aJ aF hxi) rfl rfl) (vY rfl rfl rfl (gD rfl rfl rfl (cB rfl rfl rfl (bQ (k) eM rfl rfl rfl ((R.mem M8).below_len (aJ aF hxk)) ((R.mem M8).someK (aJ aF hxk))) (cB rfl rfl rfl (bP 0 eK (R.mem M8) (Nat.lt_of_le_of_lt (Nat.zero_le _) ((R.mem M8).below_len (aJ aF hxk))) rfl) ?_))))
      refine cB rfl rfl rfl (eJ (o := 0) (.int _ _) bW (R.mem M8) (aJ aF hxk) rfl rfl) (aY rfl rfl rfl (fun _ => dV (.bool (decide _)) rfl rfl rfl) (cF (aC ?_)))
      refine aW rfl (fun h53 => ?_) (fun h53 => ?_)
      ·refine aD (aA (wq (aI (.bool true) rfl) rfl (aB (aC (aN (gZ (cC (nL ?_))))))))
       refine gZ (gZ (cC (nL (gZ (cC ?_)))))
       refine cA (.bool true) rfl ?_
       exact ⟨rfl, M8.below⟩
      ·refine aL (cV (aC (aA (aV rfl rfl (wq (bM rfl rfl (by omega) (by omega)) rfl (bI rfl rfl ?_))))))
       refine aB ?_
       refine cQ (k + 1) (bK rfl eV) (cU rfl (cU rfl (cU rfl (cU rfl jW)))) ?_ ?_
       ·exact ⟨⟨by omega, nI (p := fun _ x => x.key ≠ xi.key) hin2 hxk (fun e => h53 (by rw [e]))⟩, M8⟩
       ·omega
     ·refine cN (cX (cW (eT (cV (aC (aA ?_))))))
      refine aV rfl rfl (wq (bM rfl rfl (by omega) (by omega)) rfl (bI rfl rfl (aB ?_)))
      refine cQ (i + 1) (bK rfl eV) (cU rfl (cU rfl (cU rfl jW))) ?_ ?_
      ·exact ⟨⟨by omega, aNa hne hxi (fun j x hj hx => hin2 j x (by omega) hx)⟩, hM7⟩
      ·omega
    ·have hkeys := zL (l := xs) (fun p q x y h1 h2 => hne p q x y h1 (by omega))
     obtain ⟨kk, hkk⟩ : ∃ kk : Nat, kk = f % n := ⟨_, rfl⟩
     have hkl : kk < n := by rw [hkk]; exact Nat.mod_lt _ (by omega)
     have hturn := aOg (aHa xs kk) hkeys (by omega)
     refine cN (cX (cW (eT (aC (aD (aA (aV rfl rfl ?_)))))))
     refine wq (bR us5 Tryz.underlying3 rfl (kC _ (by omega) (by omega))) rfl (eF rfl rfl (wq (cK Tryz.underlying22 rfl) rfl (wq (aMa rfl rfl (by omega)) rfl (aS 58 (.int .i64 (kk : Int)) (iE (aGl rfl hkk)) (bI rfl rfl ?_)))))
     refine aB (aC (aD (aA (aR aIo hM6 rfl rfl (fun b9 w9 M9 => ?_)))))
     have M10 := (M9.dummy default).dummy default
     refine aB (aC (aD (aA (aR aIo M10 rfl rfl (fun b11 w11 M11 => ?_)))))
     have M12 := (M11.dummy default).dummy default
     refine aB (aC (aD (aD (aA (bI rfl rfl (aB (aC (aT (dI (σ := Nat × StV × StV) [0, 2, 9, 10, 11] (fun (j, r, r') => [(12, .int .i64 (j : Int))]) (fun (j, r, r') w' => (j ≤ n ∧ dR 40 r (aCe (xs.take j)) ∧ dR 40 r' (aCe ((oV xs kk).take j))) ∧ Mem w [] [(some b9, bc [.slice r.A r.n r.c, .map r.p] 56), r.er, r.em, (some b11, bc [.slice r'.A r'.n r'.c, .map r'.p] 56), r'.er, r'.em] w') (fun (j, r, r') => n - j) (0, ⟨none, 0, 0, none, (none, default), (none, default)⟩, ⟨none, 0, 0, none, (none, default), (none, default)⟩) (bK rfl eV) (⟨⟨by omega, (dR.new 40 default default), (dR.new 40 default default)⟩, M12⟩) ?_)))))))))
     rintro ⟨j, r, r'⟩ ρ13 w13 ⟨⟨hj, hr, hr'⟩, hM13⟩
     refine aD (aD (aA (aV rfl rfl (eF rfl rfl (wq (cK Tryz.underlying22 rfl) rfl (cS rfl rfl rfl rfl (aB (aC ?_))))))))
     refine aW rfl (fun h62 => ?_) (fun h62 => ?_)
     ·obtain ⟨xb, hxb⟩ := cE (xs := xs) (k := j) hlen (by omega)
      obtain ⟨q, hq⟩ : ∃ q : Nat, q = (n - 1 - j + kk) % n := ⟨_, rfl⟩
      have hql : q < n := by rw [hq]; exact Nat.mod_lt _ (by omega)
      obtain ⟨yb, hyq⟩ := cE (xs := xs) (k := q) hlen hql
      have hyb : (oV xs kk)[j]? = some yb := by rw [aPf (by omega) (by omega), hlen, ← hq]; exact hyq
      refine aL (aC (aD (aT (aD (aA (eF rfl rfl (aV rfl rfl (wq (bQ (j) eM rfl rfl rfl ((R.mem hM13).below_len (aJ aF hxb)) ((R.mem hM13).someK (aJ aF hxb))) rfl (wq (dL _ bN (R.mem hM13) (aJ aF hxb) rfl) rfl (bX aBf rfl rfl (mO _ _ r _ hr (hM13.ownSeg 0 3) xb (hin xb (List.mem_of_getElem? hxb))) ?_))))))))))
      rintro v14 w14 ⟨r2, rfl, hr2, hM14⟩
      have M14 : Mem _ _ [_, _, _, _, _, _] _ := hM13.seg 0 3 hM14
      refine aB (aC (aA (eF rfl rfl (eF rfl rfl (wq (cK Tryz.underlying22 rfl) rfl (wq (lA rfl rfl (by omega) (by omega)) rfl (aV rfl rfl ?_)))))))
      refine wq (lA rfl rfl (by omega) (by omega)) rfl (aV rfl rfl (wq (bM rfl rfl (by omega) (by omega)) rfl (aS 77 (.int .i64 ((n - 1 - j + kk : Nat) : Int)) (iE (by omega)) (eF rfl rfl (wq (cK Tryz.underlying22 rfl) rfl ?_)))))
      refine wq (aMa rfl rfl (by omega)) rfl (aS 80 (.int .i64 (q : Int)) (iE (aGl rfl hq)) (wq (bQ (q) eM rfl rfl rfl ((R.mem M14).below_len (aJ aF hyq)) ((R.mem M14).someK (aJ aF hyq))) rfl (wq (dL _ bN (R.mem M14) (aJ aF hyq) rfl) rfl (bX aBf rfl rfl (mO _ _ r' _ hr' (M14.ownSeg 3 3) yb (hin yb (List.mem_of_getElem? hyq))) ?_))))
      rintro v15 w15 ⟨r3, rfl, hr3, hM15⟩
      have M15 : Mem _ _ [_, _, _, _, _, _] _ := M14.seg 3 3 hM15
      refine aB (cV (aC (aA (aV rfl rfl (wq (bM rfl rfl (by omega) (by omega)) rfl (bI rfl rfl ?_))))))
      refine aB ?_
      refine cQ (j + 1, r2, r3) (bK rfl eV) (cU rfl (cU rfl (cU rfl (cU rfl (cU rfl jW))))) ?_ ?_
      ·exact ⟨⟨by omega, by rw [aAj hxb]; exact hr2, by rw [aAj hyb]; exact hr3⟩, M15⟩
      ·(show n - (j + 1) < n - j; omega)
     ·have hjn : j = n := by omega
      rw [hjn, List.take_of_length_le (by omega)] at hr
      rw [hjn, List.take_of_length_le (by rw [aIa]; omega), ← hturn] at hr'
      refine cN (cX (cW (eT (aC (aD (aD (aA (bI rfl rfl ?_))))))))
      refine aB (aC (aT (dI (σ := Nat × StV × StV × List Body) [2, 10, 11] (fun (i, r, r', vs) => [(13, .int .i64 (i : Int))]) (fun (i, r, r', vs) w' => (i ≤ on ∧ dR 40 r vs ∧ dR 40 r' vs) ∧ Mem w [] [(some b9, bc [.slice r.A r.n r.c, .map r.p] 56), r.er, r.em, (some b11, bc [.slice r'.A r'.n r'.c, .map r'.p] 56), r'.er, r'.em] w') (fun (i, r, r', vs) => on - i) (0, r, r', aCe xs) (bK rfl eV) (⟨⟨by omega, hr, hr'⟩, hM13⟩) ?_)))
      rintro ⟨i, r, r', vs⟩ ρ16 w16 ⟨⟨hi, hr, hr'⟩, hM16⟩
      refine aD (aD (aA (aV rfl rfl (eF rfl rfl (wq (cK Tryz.underlying48 rfl) rfl (cS rfl rfl rfl rfl (aB (aC ?_))))))))
      refine aW rfl (fun h87 => ?_) (fun h87 => ?_)
      ·obtain ⟨x, hx⟩ := cE (xs := l) (k := i) hol (by omega)
       have hP := hl.each x (List.mem_of_getElem? hx)
       have hxn := hby x (List.mem_of_getElem? hx)
       refine aL (aC (aD (aT (aD (aD (aA (eF rfl rfl (aV rfl rfl (wq (bQ (i) zF rfl rfl rfl ((hl.rd.mem hM16).below_len (aJ OpRow.cells hx)) ((hl.rd.mem hM16).someK (aJ OpRow.cells hx))) rfl (wq (bP 0 aDz (hl.rd.mem hM16) (Nat.lt_of_le_of_lt (Nat.zero_le _) ((hl.rd.mem hM16).below_len (aJ OpRow.cells hx))) rfl) rfl ?_))))))))))
       refine wq (eJ (o := 0) (.int _ _) kE (hl.rd.mem hM16) (aJ OpRow.cells hx) rfl rfl) rfl (cS rfl rfl rfl rfl (wq (aG (.bool (decide _)) rfl) rfl ?_))
       refine dA 96 rfl (fun g96 => ?_) (fun g96 => ?_)
       ·refine bX yK rfl rfl (jL _ _ r _ hr (hM16.ownSeg 0 3)) ?_
        rintro v17 w17 ⟨qs, rfl, hqs, hM17⟩
        have M17 : Mem _ _ [_, _, _, _, _, _, _] _ := hM16.seg 0 3 hM17
        refine bX bEn rfl rfl (aFb _ qs.A qs.n qs.c) ?_
        rintro v18 w18 ⟨rfl, hb18⟩
        have M18 := M17.callB hb18
        refine wq (qQ rfl) rfl (wq (bL true (.bool (decide _)) rfl rfl) rfl (aB (aC ?_)))
        refine aW rfl (fun h100 => ?_) (fun h100 => ?_)
        ·refine aD (aA (wq (aI (.bool true) rfl) rfl (aB (aC (aN (cC (gZ (cC (nL ?_)))))))))
         refine gZ (cC (cA (.bool true) rfl ?_))
         exact ⟨rfl, M18.below⟩
        ·refine aL (aC (aD (bS [(0, 0), (1, 0), (2, 1), (3, 1), (5, 0), (6, 0), (7, 1), (8, 1), (4, 2), (9, 2), (10, 2), (11, 0), (12, 0), (13, 2), (14, 2), (15, 2), (16, 0), (17, 0)] mixed rfl (by kernel_rfl) (fun w19 hb19 hh19 => ?_))))
         have M19 := M18.drew hb19 hh19
         refine vY rfl rfl rfl (gD rfl rfl rfl (cB rfl rfl rfl (bQ (i) zF rfl rfl rfl ((hl.rd.mem M19).below_len (aJ OpRow.cells hx)) ((hl.rd.mem M19).someK (aJ OpRow.cells hx))) (cB rfl rfl rfl (dL _ aBm (hl.rd.mem M19) (aJ OpRow.cells hx) rfl) (gJ 104 (.agg (pP x.o x.A x.n x.c).toArray) rfl ?_))))
         refine vY rfl rfl rfl (gD rfl rfl rfl (cB rfl rfl rfl (bQ (i) zF rfl rfl rfl ((hl.rd.mem M19).below_len (aJ OpRow.cells hx)) ((hl.rd.mem M19).someK (aJ OpRow.cells hx))) (cB rfl rfl rfl (dL _ aBm (hl.rd.mem M19) (aJ OpRow.cells hx) rfl) (gJ 109 (.agg (pP x.o x.A x.n x.c).toArray) rfl ?_))))
         refine dO [false, false, true, true] rfl (by kernel_rfl) (bX aLm rfl rfl (sA _ (F.mem M19) (N.mem M19) _ r _ hr (M19.ownSeg 0 3) (M19.away 0 3 F (by simp)) (M19.away 0 3 N (by simp)) x.o x.A x.n x.c (hP.mem M19) (by omega) (M19.away 0 3 hP.rd (by simp))) ?_)
         rintro v20 w20 ⟨r2, p1, rfl, hr2, hp1, hM20⟩
         have M20 : Mem _ _ [_, _, _, _, _, _, _, _] _ := M19.seg 0 3 hM20
         refine aB (aC ⟨(eQ (bO rfl (dL _ aBm (hl.rd.mem M20) (aJ OpRow.cells hx) rfl)) (eQ (bO rfl (bQ (i) zF rfl rfl rfl ((hl.rd.mem M20).below_len (aJ OpRow.cells hx)) ((hl.rd.mem M20).someK (aJ OpRow.cells hx)))) dN)), ?_⟩)
         refine dO [true, true] rfl (by kernel_rfl) (bX aLm rfl rfl (sA _ (F.mem M20) (N.mem M20) _ r' _ hr' (M20.ownSeg 3 3) (M20.away 3 3 F (by simp)) (M20.away 3 3 N (by simp)) x.o x.A x.n x.c (hP.mem M20) (by omega) (M20.away 3 3 hP.rd (by simp))) ?_)
         rintro v21 w21 ⟨r3, p2, rfl, hr3, hp2, hM21⟩
         have M21 : Mem _ _ [_, _, _, _, _, _, _, _, _] _ := M20.seg 3 3 hM21
         refine aB (aC ⟨dN, ?_⟩)
         refine dO [] rfl (by kernel_rfl) (bX aZg rfl rfl (yR _ _ _ _ _ _ _ _ _ _ _ (hp1.rd M21 (bC (i := 7) rfl)) _ _ _ (hp2.rd M21 (bC (i := 8) rfl))) ?_)
         rintro v22 w22 ⟨rfl, hb22⟩
         have M22 := M21.callB hb22
         refine aB (aC ⟨dN, ?_⟩)
         refine aY rfl rfl rfl (fun _ => gS false rfl rfl) (aY rfl rfl rfl (fun _ => aG (.bool false) rfl) (dO [] rfl (by kernel_rfl) (bX aAg rfl rfl (fU _ _ r2 _ hr2 (M22.ownSeg 0 3)) ?_)))
         rintro v23 w23 ⟨s1, rfl, hs1, hM23⟩
         have M23 : Mem _ _ [_, _, _, _, _, _, _, _, _, _] _ := M22.seg 0 3 hM23
         refine aB (aC ⟨dN, ?_⟩)
         refine dO [] rfl (by kernel_rfl) (bX aAg rfl rfl (fU _ _ r3 _ hr3 (M23.ownSeg 3 3)) ?_)
         rintro v24 w24 ⟨s2, rfl, hs2, hM24⟩
         have M24 : Mem _ _ [_, _, _, _, _, _, _, _, _, _, _] _ := M23.seg 3 3 hM24
         refine aB (aC ⟨dN, ?_⟩)
         refine dO [] rfl (by kernel_rfl) (bX aTf rfl rfl (qU _ _ _ _ _ (hs1.rd M24 (bC (i := 9) rfl)) _ _ _ _ (hs2.rd M24 (bC (i := 10) rfl))) ?_)
         rintro v25 w25 ⟨rfl, hb25⟩
         have M25 := M24.callB hb25
         refine aB (aC ⟨dN, ?_⟩)
         refine gJ 116 (.bool true) (bT rfl).symm (aY rfl rfl rfl (fun _ => gS false rfl rfl) (aY rfl rfl rfl (fun _ => bL false (.bool false) rfl rfl) (cF (aC (cD rfl ?_)))))
         refine aL (cV (aC (aA (aV rfl rfl (wq (bM rfl rfl (by omega) (by omega)) rfl (bI rfl rfl ?_))))))
         refine aB ?_
         refine cQ (i + 1, r2, r3, (zQ vs x.o).1) (bK rfl eV) (cU rfl (cU rfl (cU rfl jW))) ?_ ?_
         ·exact ⟨⟨by omega, hr2, hr3⟩, M25.keep [true, true, true, true, true, true, false, false, false, false, false]⟩
         ·(show on - (i + 1) < on - i; omega)
       ·refine aP rfl rfl (aP rfl rfl (aP rfl rfl (wq (bL false (.bool false) rfl rfl) rfl (aB (aC (cD rfl ?_))))))
        refine aL (aC (aD (bS [(0, 0), (1, 0), (2, 1), (3, 1), (5, 0), (6, 0), (7, 1), (8, 1), (4, 2), (9, 2), (10, 2), (11, 0), (12, 0), (13, 2), (14, 2), (15, 2), (16, 0), (17, 0)] mixed rfl (by kernel_rfl) (fun w26 hb26 hh26 => ?_))))
        have M26 := hM16.drew hb26 hh26
        refine vY rfl rfl rfl (gD rfl rfl rfl (cB rfl rfl rfl (bQ (i) zF rfl rfl rfl ((hl.rd.mem M26).below_len (aJ OpRow.cells hx)) ((hl.rd.mem M26).someK (aJ OpRow.cells hx))) (cB rfl rfl rfl (dL _ aBm (hl.rd.mem M26) (aJ OpRow.cells hx) rfl) (gJ 104 (.agg (pP x.o x.A x.n x.c).toArray) rfl ?_))))
        refine vY rfl rfl rfl (gD rfl rfl rfl (cB rfl rfl rfl (bQ (i) zF rfl rfl rfl ((hl.rd.mem M26).below_len (aJ OpRow.cells hx)) ((hl.rd.mem M26).someK (aJ OpRow.cells hx))) (cB rfl rfl rfl (dL _ aBm (hl.rd.mem M26) (aJ OpRow.cells hx) rfl) (gJ 109 (.agg (pP x.o x.A x.n x.c).toArray) rfl ?_))))
        refine dO [false, false, true, true] rfl (by kernel_rfl) (bX aLm rfl rfl (sA _ (F.mem M26) (N.mem M26) _ r _ hr (M26.ownSeg 0 3) (M26.away 0 3 F (by simp)) (M26.away 0 3 N (by simp)) x.o x.A x.n x.c (hP.mem M26) (by omega) (M26.away 0 3 hP.rd (by simp))) ?_)
        rintro v27 w27 ⟨r2, p1, rfl, hr2, hp1, hM27⟩
        have M27 : Mem _ _ [_, _, _, _, _, _, _] _ := M26.seg 0 3 hM27
        refine aB (aC ⟨(eQ (bO rfl (dL _ aBm (hl.rd.mem M27) (aJ OpRow.cells hx) rfl)) (eQ (bO rfl (bQ (i) zF rfl rfl rfl ((hl.rd.mem M27).below_len (aJ OpRow.cells hx)) ((hl.rd.mem M27).someK (aJ OpRow.cells hx)))) dN)), ?_⟩)
        refine dO [true, true] rfl (by kernel_rfl) (bX aLm rfl rfl (sA _ (F.mem M27) (N.mem M27) _ r' _ hr' (M27.ownSeg 3 3) (M27.away 3 3 F (by simp)) (M27.away 3 3 N (by simp)) x.o x.A x.n x.c (hP.mem M27) (by omega) (M27.away 3 3 hP.rd (by simp))) ?_)
        rintro v28 w28 ⟨r3, p2, rfl, hr3, hp2, hM28⟩
        have M28 : Mem _ _ [_, _, _, _, _, _, _, _] _ := M27.seg 3 3 hM28
        refine aB (aC ⟨dN, ?_⟩)
        refine dO [] rfl (by kernel_rfl) (bX aZg rfl rfl (yR _ _ _ _ _ _ _ _ _ _ _ (hp1.rd M28 (bC (i := 6) rfl)) _ _ _ (hp2.rd M28 (bC (i := 7) rfl))) ?_)
        rintro v29 w29 ⟨rfl, hb29⟩
        have M29 := M28.callB hb29
        refine aB (aC ⟨dN, ?_⟩)
        refine aY rfl rfl rfl (fun _ => gS false rfl rfl) (aY rfl rfl rfl (fun _ => aG (.bool false) rfl) (dO [] rfl (by kernel_rfl) (bX aAg rfl rfl (fU _ _ r2 _ hr2 (M29.ownSeg 0 3)) ?_)))
        rintro v30 w30 ⟨s1, rfl, hs1, hM30⟩
        have M30 : Mem _ _ [_, _, _, _, _, _, _, _, _] _ := M29.seg 0 3 hM30
        refine aB (aC ⟨dN, ?_⟩)
        refine dO [] rfl (by kernel_rfl) (bX aAg rfl rfl (fU _ _ r3 _ hr3 (M30.ownSeg 3 3)) ?_)
        rintro v31 w31 ⟨s2, rfl, hs2, hM31⟩
        have M31 : Mem _ _ [_, _, _, _, _, _, _, _, _, _] _ := M30.seg 3 3 hM31
        refine aB (aC ⟨dN, ?_⟩)
        refine dO [] rfl (by kernel_rfl) (bX aTf rfl rfl (qU _ _ _ _ _ (hs1.rd M31 (bC (i := 8) rfl)) _ _ _ _ (hs2.rd M31 (bC (i := 9) rfl))) ?_)
        rintro v32 w32 ⟨rfl, hb32⟩
        have M32 := M31.callB hb32
        refine aB (aC ⟨dN, ?_⟩)
        refine gJ 116 (.bool true) (bT rfl).symm (aY rfl rfl rfl (fun _ => gS false rfl rfl) (aY rfl rfl rfl (fun _ => bL false (.bool false) rfl rfl) (cF (aC (cD rfl ?_)))))
        refine aL (cV (aC (aA (aV rfl rfl (wq (bM rfl rfl (by omega) (by omega)) rfl (bI rfl rfl ?_))))))
        refine aB ?_
        refine cQ (i + 1, r2, r3, (zQ vs x.o).1) (bK rfl eV) (cU rfl (cU rfl (cU rfl jW))) ?_ ?_
        ·exact ⟨⟨by omega, hr2, hr3⟩, M32.keep [true, true, true, true, true, true, false, false, false, false]⟩
        ·(show on - (i + 1) < on - i; omega)
      ·refine cN (cX (cW (eT (aC (aD (aA (bX yK rfl rfl (jL _ _ r _ hr (hM16.ownSeg 0 3)) ?_)))))))
       rintro v33 w33 ⟨v1, rfl, hv1, hM33⟩
       have M33 : Mem _ _ [_, _, _, _, _, _, _] _ := hM16.seg 0 3 hM33
       refine bX yK rfl rfl (jL _ _ r' _ hr' (M33.ownSeg 3 3)) ?_
       rintro v34 w34 ⟨v2, rfl, hv2, hM34⟩
       have M34 : Mem _ _ [_, _, _, _, _, _, _, _] _ := M33.seg 3 3 hM34
       refine bX bFb rfl rfl (aIh _ _ _ _ _ (hv1.rd M34 (bC (i := 6) rfl)) _ _ _ _ (hv2.rd M34 (bC (i := 7) rfl))) ?_
       rintro v35 w35 ⟨rfl, hb35⟩
       have M35 := M34.callB hb35
       refine lC 121 rfl rfl (wq (aI (.bool true) rfl) rfl (aB (aC (aN (cA (.bool true) rfl ?_)))))
       exact ⟨rfl, M35.below⟩
namespace worldOrder
open Go.ChangeShapes Go.WideShapes Go.ChangeAt Go.RowKit
open Go.ChangeMaps (open_string shut_string)
theorem own : ownKnob Tryz.prog.godebug = none := by kernel_rfl
theorem laidOut : laidOutB Tryz.prog = true := by kernel_rfl
set_option maxRecDepth 100000 in
theorem lifted (os : Os) (started : os.Started) (H : Type) (enc : TypeId × Value → H) :
  ReturnsInHanded {} Tryz.checked os 9 .any (fun w args => (Rows.worldOrderSpec.pre enc Tryz.prog Tryz.f9 [] false w args ∧ laidMet Tryz.prog wA w) ∧ sizedMet enc Tryz.prog Tryz.f9 (OpenSpec.ofChange Rows.worldOrderSpec) false w args) (Rows.worldOrderSpec.post enc Tryz.prog Tryz.f9 false true false false) := by
 refine returnsInHanded_of_change_and (C := Tryz.checked) (X := fun w _ => laidMet Tryz.prog wA w) (fun _ _ _ hh h => h.of_heap hh) own started (by kernel_rfl) Tryz.func9
  (ChangeSpec.witness_at (enc := enc) (C := Tryz.checked) (os := os) (X := fun w _ => laidMet Tryz.prog wA w) false (aNd os) #[.slice none 0 0, .int .u8 0, .slice none 0 0] 8 rfl (by kernel_rfl) (by kernel_rfl) (by kernel_rfl) (by kernel_rfl) (by kernel_rfl) (laidMet_of_run' 8 (by kernel_rfl) (by kernel_rfl))) ?_
 intro W base args ds gs before hval0 hW hcnd hsz0 hL _
 have hsz : (DataW.weightsEach Tryz.prog (Tryz.f9.params.toList ++ Rows.worldOrderSpec.plain.varTypes Tryz.prog) (ds ++ gs)).all (· ≤ reachBytes) = true := hsz0
 have hval : ∀ (j : Nat) t v, Tryz.f9.params[j]? = some t → args[j]? = some v → Value.okWide Tryz.prog W .any base t v := hval0
 have hW' := hW
 obtain ⟨p, q, hA0, hV, rfl, hfz, hnd⟩ := hW
 have hA : DataW.TrodAll enc Tryz.prog W 0 (fun _ => true) true Tryz.f9.params.toList args.toList ds p := hA0
 rw [Tryz.params9] at hA hval hsz
 obtain ⟨v0, vs0, d0, ds0, p0, q0, hargs, rfl, rfl, h0, r0⟩ := trodAll_cons hA
 obtain ⟨v1, vs1, d1, ds1, p1, q1, rfl, rfl, rfl, h1, r1⟩ := trodAll_cons r0
 obtain ⟨v2, vs2, d2, ds2, p2, q2, rfl, rfl, rfl, h2, r2⟩ := trodAll_cons r1
 obtain ⟨rfl, rfl, rfl⟩ := trodAll_nil r2
 obtain rfl : args = #[v0, v1, v2] := by cases args; simp_all
 obtain ⟨rfl, rfl⟩ := trodVars_none hV
 have k0 := h0
 have lt0 : ∀ x ∈ p0, x.block < W.heap.size := by obtain ⟨m, hm⟩ := k0; exact DataW.trod_lt m _ _ _ hm
 obtain ⟨a0, len0, cap0, rfl⟩ := okWide_slice Tryz.underlying22 (hval 0 22 v0 rfl rfl)
 have y0 := aKa hsz (j := 0) (t := 22) rfl rfl eM h0
 obtain ⟨ls0, R0, hi0⟩ := aBl eM aQw rfl y0 h0
 obtain ⟨xs0, rfl, hx0⟩ := aDv aRo ls0 hi0
 obtain ⟨a1, rfl, rfl, rfl, w1⟩ := open_int Tryz.underlying5 (hval 1 5 v1 rfl rfl) h1
 have b1 : 0 ≤ a1 ∧ a1 ≤ 255 := aTp w1
 have k2 := h2
 have lt2 : ∀ x ∈ p2, x.block < W.heap.size := by obtain ⟨m, hm⟩ := k2; exact DataW.trod_lt m _ _ _ hm
 obtain ⟨a2, len2, cap2, rfl⟩ := okWide_slice Tryz.underlying48 (hval 2 48 v2 rfl rfl)
 have y2 : ∀ n ∈ d2.weights Tryz.prog 48, n ≤ reachBytes := fun n hn => by simpa using List.all_eq_true.1 hsz _ (DataW.weights_mem_each (j := 2) rfl rfl n hn)
 obtain ⟨xs2, R2⟩ := aQi zF opT y2 h2
 clear hA0 hval0 hsz0 hsz
 obtain ⟨t1, rfl⟩ := Int.eq_ofNat_of_zero_le b1.1
 refine (xS W (rdF hL) (rdN hL) _ _ _ xs0 R0 hx0 t1 (by omega) _ _ _ xs2 R2).mono fun e W' ⟨v, he, hv, bel⟩ => ?_
 subst he
 subst hv
 exact ⟨_, rfl, _, _, _, [], _, [], hW', trodAll_mk1 (shut_bool Tryz.underlying4 _), (trodAll_cons_mk (Below.trod laidOut (by kernel_rfl) (of_decide_eq_true (by kernel_rfl)) k0 bel lt0) (trodAll_cons_mk (shut_int Tryz.underlying5 w1) (trodAll_cons_mk (Below.trod laidOut (by kernel_rfl) (of_decide_eq_true (by kernel_rfl)) k2 bel lt2) trodAll_mk0))), rfl, bel.frame _, fun h => by cases h⟩
theorem andT {a b : Bool} (ha : a = true) (hb : b = true) : (a && b) = true := by rw [ha, hb]; rfl
set_option maxHeartbeats 16000000 in
theorem closed : joinedFacts Tryz.prog 9 Tryz.f9 Rows.worldOrderSpec Rows.worldOrderRow = true := by
 unfold joinedFacts
 repeat' (with_reducible refine andT ?_ ?_)
 all_goals (as_aux_lemma => kernel_rfl)
theorem over : Rows.worldOrderRow.holds Tryz.pinned (OpenSpec.ofChange Rows.worldOrderSpec) :=
 OpenClaim.holds_of_wide 9 Tryz.f9 rfl rfl rfl rfl rfl rfl rfl ⟨rfl, rfl, rfl, rfl, rfl⟩ rfl rfl rfl rfl rfl (by kernel_rfl) Tryz.func9 closed
  (of_decide_eq_true (by kernel_rfl)) (by unfold Func.isWrapper; first | (rw [if_pos (by decide +kernel)]; kernel_rfl) | (rw [if_neg (by decide +kernel)]; exact ⟨rfl, rfl⟩))
  (fun os started H enc _ => lifted os started H enc)
end worldOrder
theorem worldOrder_holds : Rows.WorldOrderSaid := worldOrder.over
#print axioms worldOrder_holds
theorem worldOrder_card : Rows.WorldOrderCardSaid :=
 Claim7.holds_tied_plain_at .later [] [.data, .data] true (true, "efc75206f113ecd8e5cc872cd0b30c800981909977c6e963415616c654d1aab5") false
  worldOrder_holds (fun _ h => by cases h) (by kernel_rfl) (fun _ h => by cases h) worldOrder_row_tie rfl ⟨rfl, rfl⟩ (by kernel_rfl) rfl
  (fun f fn hf hfn => by
   obtain rfl : f = 9 := Option.some.inj ((show Tryz.prog.funcNamed "billiard/billiardlaw22.WorldOrder" = some 9 by kernel_rfl).symm.trans hf) |>.symm
   obtain rfl : fn = Tryz.f9 := (Option.some.inj (Tryz.func9.symm.trans hfn)).symm
   exact ⟨by kernel_rfl, fun j t ht => by
    rw [Tryz.params9] at ht
    have hm : t ∈ [22, 5, 48] := by simpa using Array.mem_of_getElem? ht
    have hall : ([22, 5, 48].all fun u => !Tryz.prog.wantsStandIn u) = true := by kernel_rfl
    exact (show Tryz.prog.wantsStandIn t = false by simpa using List.all_eq_true.1 hall t hm)⟩)
  (by kernel_rfl)
#print axioms worldOrder_card
end Go.Proofs.YtlmcphcgiclanaaGreatDoor
