import Derived.Test.YtlmcphcgiclanaaGreatDoorK2
import Derived.Test.YtlmcphcgiclanaaGreatDoorK5
import Derived.Test.YtlmcphcgiclanaaGreatDoorK35
import Derived.Test.YtlmcphcgiclanaaGreatDoorRows
import Derived.Test.YtlmcphcgiclanaaGreatDoorK36
import Derived.Test.YtlmcphcgiclanaaGreatDoorTie
import Derived.Test.YtlmcphcgiclanaaGreatDoorCards
import Derived.WalkKit
import Derived.ProofKit
import Derived.OpenShut
import Derived.ShutString
import Derived.ChangeOld
import Derived.Below
import Derived.SizedLaws
set_option linter.unusedVariables false
set_option linter.unusedSimpArgs false
set_option linter.unnecessarySimpa false
namespace Go.Proofs.YtlmcphcgiclanaaGreatDoor
open Go.Bil
open Go.RowKit (Below)
open Go.Proofs
set_option maxHeartbeats 64000000 in
theorem sE (w : World) (F : Rd w 2 (some ⟨0, 0, none⟩) 1 [[.int .u32 73856093, .int .u32 19349663]]) (N : Rd w 4 (some ⟨3, 0, none⟩) 1 [dF iY]) (A : Option Addr) (n c : Nat) (xs : List Body) (R : Rd w 10 A n (xs.map aF)) (hin : ∀ b ∈ xs, InB b) (B : Option Addr) (m c' : Nat) (ys : List Body) (R' : Rd w 10 B m (ys.map aF)) (hin' : ∀ b ∈ ys, InB b) (C : Option Addr) (nb cb : Nat) (bs : List Int) (RB : Rd w 1 C nb (bs.map bY)) (hBb : jH bs) (hcapb : nb ≤ cb) (OA : Option Addr) (on oc : Nat) (l : List OpRow) (hl : OpsRd w OA on l) :
  Calls Tryz.prog 10 #[.slice A n c, .slice B m c', .slice C nb cb, .slice OA on oc] w (fun ex w' => ∃ v, ex = .returned v ∧ (fun v w' => v = .bool true ∧ Below w.heap.size w w') v w') := by
 have hlen : xs.length = n := by simpa using R.len
 have hbd := R.bound
 have hlen' : ys.length = m := by simpa using R'.len
 have hbd' := R'.bound
 have hlb : bs.length = nb := by simpa using RB.len
 have hol : l.length = on := by simpa using hl.rd.len
 have hobd := hl.rd.bound
 refine aH #[.tmp 8] 107 Tryz.func10 rfl Tryz.results10 Tryz.ntmps10 rfl ?_
 have M0 := Mem.refl w
 refine aD (aA (wq (aI (.bool false) rfl) rfl (aB (aC (aD (aD (aA (bV aHb rfl rfl (aQs _ (F.mem M0) (N.mem M0)) ?_))))))))
 rintro v1 w1 ⟨rfl, hb1⟩
 have M1 := M0.callB hb1
 refine wq (fY false rfl rfl) rfl (wq (aG (.bool false) rfl) rfl (eF rfl rfl (wq (cM Tryz.underlying22 rfl) rfl (cT rfl rfl rfl rfl (wq (bI false (.bool (decide _)) rfl rfl) rfl ?_)))))
 refine wq (aG (.bool (decide _)) rfl) rfl ?_
 refine cW 22 rfl (fun g22 => ?_) (fun g22 => ?_)
 ·refine aO rfl rfl (aO rfl rfl (aO rfl rfl (wq (bI true (.bool true) rfl rfl) rfl (wq (aG (.bool true) rfl) rfl (aO rfl rfl ?_)))))
  refine aO rfl rfl (aO rfl rfl (wq (bI true (.bool true) rfl rfl) rfl (wq (aG (.bool true) rfl) rfl (aO rfl rfl (aO rfl rfl ?_)))))
  refine aO rfl rfl (wq (bI true (.bool true) rfl rfl) rfl (aB (aC (cO rfl (aD (aA (bV aHb rfl rfl (aQs _ (F.mem M1) (N.mem M1)) ?_)))))))
  rintro v2 w2 ⟨rfl, hb2⟩
  have M2 := M1.callB hb2
  refine wq (aI (.bool true) rfl) rfl (aB (aC (aN (cE (cC (.bool true) rfl ?_)))))
  exact ⟨rfl, M2.below⟩
 ·refine eF rfl rfl (wq (cM Tryz.underlying22 rfl) rfl (cT rfl rfl rfl rfl (wq (bI false (.bool (decide _)) rfl rfl) rfl (wq (aG (.bool (decide _)) rfl) rfl ?_))))
  refine cW 27 rfl (fun g27 => ?_) (fun g27 => ?_)
  ·refine aO rfl rfl (aO rfl rfl (aO rfl rfl (wq (bI true (.bool true) rfl rfl) rfl (wq (aG (.bool true) rfl) rfl (aO rfl rfl ?_)))))
   refine aO rfl rfl (aO rfl rfl (wq (bI true (.bool true) rfl rfl) rfl (aB (aC (cO rfl (aD (aA ?_)))))))
   refine bV aHb rfl rfl (aQs _ (F.mem M1) (N.mem M1)) ?_
   rintro v3 w3 ⟨rfl, hb3⟩
   have M3 := M1.callB hb3
   refine wq (aI (.bool true) rfl) rfl (aB (aC (aN (cE (cC (.bool true) rfl ?_)))))
   exact ⟨rfl, M3.below⟩
  ·refine eF rfl rfl (wq (cM Tryz.underlying57 rfl) rfl (cT rfl rfl rfl rfl (wq (bI false (.bool (decide _)) rfl rfl) rfl (wq (aG (.bool (decide _)) rfl) rfl ?_))))
   refine cW 32 rfl (fun g32 => ?_) (fun g32 => ?_)
   ·refine aO rfl rfl (aO rfl rfl (aO rfl rfl (wq (bI true (.bool true) rfl rfl) rfl (aB (aC (cO rfl ?_))))))
    refine aD (aA (bV aHb rfl rfl (aQs _ (F.mem M1) (N.mem M1)) ?_))
    rintro v4 w4 ⟨rfl, hb4⟩
    have M4 := M1.callB hb4
    refine wq (aI (.bool true) rfl) rfl (aB (aC (aN (cE (cC (.bool true) rfl ?_)))))
    exact ⟨rfl, M4.below⟩
   ·refine eF rfl rfl (bV bEl rfl rfl (aNh _ OA on oc l (hl.mem M1)) ?_)
    rintro v5 w5 ⟨⟨g, rfl, hg⟩, hb5⟩
    have M5 := M1.callB hb5
    refine wq (fY _ rfl rfl) rfl (wq (bI false (.bool _) rfl rfl) rfl (aB (aC ?_)))
    refine gU _ rfl (fun h36 => ?_) (fun h36 => ?_)
    ·refine aD (aA (bV aHb rfl rfl (aQs _ (F.mem M5) (N.mem M5)) ?_))
     rintro v6 w6 ⟨rfl, hb6⟩
     have M6 := M5.callB hb6
     refine wq (aI (.bool true) rfl) rfl (aB (aC (aN (cE (cC (.bool true) rfl ?_)))))
     exact ⟨rfl, M6.below⟩
    ·obtain ⟨hn40, hby⟩ := hg (by simpa using h36)
     refine aK (aC (aD (aA (aR aKj M5 rfl rfl (fun b7 w7 M7 => ?_)))))
     have M8 := (M7.dummy default).dummy default
     refine aB (aC (aD (aA (aR aKj M8 rfl rfl (fun b9 w9 M9 => ?_)))))
     have M10 := (M9.dummy default).dummy default
     refine aB (aC (aD (aD (aA (bJ rfl rfl (aB (aC (aS (dM (σ := Nat × StV) [0, 1, 2, 3, 8, 9, 10] (fun (j, r) => [(11, .int .i64 (j : Int))]) (fun (j, r) w' => (j ≤ n ∧ dJ 40 r (vP (xs.take j))) ∧ Mem w [] [(some b7, bc [.slice r.A r.n r.c, .map r.p] 56), r.er, r.em, (some b9, bc [.slice none 0 0, .map none] 56), (none, default), (none, default)] w') (fun (j, r) => n - j) (0, ⟨none, 0, 0, none, (none, default), (none, default)⟩) (bL rfl eV) (⟨⟨by omega, (dJ.new 40 default default)⟩, M10⟩) ?_)))))))))
     rintro ⟨j, r⟩ ρ11 w11 ⟨⟨hj, hr⟩, hM11⟩
     refine aD (aD (aA (aV rfl rfl (eF rfl rfl (wq (cM Tryz.underlying22 rfl) rfl (cT rfl rfl rfl rfl (aB (aC ?_))))))))
     refine aW rfl (fun h41 => ?_) (fun h41 => ?_)
     ·obtain ⟨xb, hxb⟩ := cI (xs := xs) (k := j) hlen (by omega)
      refine aK (aC (aD (aS (aA (eF rfl rfl (aV rfl rfl (wq (bO (j) eP rfl rfl rfl ((R.mem hM11).below_len (aJ aF hxb)) ((R.mem hM11).someK (aJ aF hxb))) rfl (wq (cZ _ bP (R.mem hM11) (aJ aF hxb) rfl) rfl (bV aBi rfl rfl (nA _ _ r _ hr (hM11.ownSeg 0 3) xb (hin xb (List.mem_of_getElem? hxb))) ?_)))))))))
      rintro v12 w12 ⟨r2, rfl, hr2, hM12⟩
      have M12 : Mem _ _ [_, _, _, _, _, _] _ := hM11.seg 0 3 hM12
      refine aB (cX (aC (aA (aV rfl rfl (wq (bM rfl rfl (by omega) (by omega)) rfl (bJ rfl rfl ?_))))))
      refine aB ?_
      refine cQ (j + 1, r2) (bL rfl eV) (cU rfl (cU rfl (cU rfl (cU rfl (cU rfl (cU rfl (cU rfl jS))))))) ?_ ?_
      ·exact ⟨⟨by omega, by rw [aCk hxb]; exact hr2⟩, M12⟩
      ·(show n - (j + 1) < n - j; omega)
     ·have hjn : j = n := by omega
      rw [hjn, List.take_of_length_le (by omega)] at hr
      have hal := aQf xs
      refine cP (dA (cY (eT (aC (aD (aD (aA (bJ rfl rfl ?_))))))))
      refine aB (aC (aS (dM (σ := Nat × StV) [1, 2, 3, 8, 9, 10] (fun (j, r') => [(12, .int .i64 (j : Int))]) (fun (j, r') w' => (j ≤ m ∧ dJ 40 r' (vP (ys.take j))) ∧ Mem w [] [(some b7, bc [.slice r.A r.n r.c, .map r.p] 56), r.er, r.em, (some b9, bc [.slice r'.A r'.n r'.c, .map r'.p] 56), r'.er, r'.em] w') (fun (j, r') => m - j) (0, ⟨none, 0, 0, none, (none, default), (none, default)⟩) (bL rfl eV) (⟨⟨by omega, (dJ.new 40 default default)⟩, hM11⟩) ?_)))
      rintro ⟨j, r'⟩ ρ13 w13 ⟨⟨hj2, hr'⟩, hM13⟩
      refine aD (aD (aA (aV rfl rfl (eF rfl rfl (wq (cM Tryz.underlying22 rfl) rfl (cT rfl rfl rfl rfl (aB (aC ?_))))))))
      refine aW rfl (fun h52 => ?_) (fun h52 => ?_)
      ·obtain ⟨yb, hyb⟩ := cI (xs := ys) (k := j) hlen' (by omega)
       refine aK (aC (aD (aS (aA (eF rfl rfl (aV rfl rfl (wq (bO (j) eP rfl rfl rfl ((R'.mem hM13).below_len (aJ aF hyb)) ((R'.mem hM13).someK (aJ aF hyb))) rfl (wq (cZ _ bP (R'.mem hM13) (aJ aF hyb) rfl) rfl (bV aBi rfl rfl (nA _ _ r' _ hr' (hM13.ownSeg 3 3) yb (hin' yb (List.mem_of_getElem? hyb))) ?_)))))))))
       rintro v14 w14 ⟨r2, rfl, hr2, hM14⟩
       have M14 : Mem _ _ [_, _, _, _, _, _] _ := hM13.seg 3 3 hM14
       refine aB (cX (aC (aA (aV rfl rfl (wq (bM rfl rfl (by omega) (by omega)) rfl (bJ rfl rfl ?_))))))
       refine aB ?_
       refine cQ (j + 1, r2) (bL rfl eV) (cU rfl (cU rfl (cU rfl (cU rfl (cU rfl (cU rfl jS)))))) ?_ ?_
       ·exact ⟨⟨by omega, by rw [aCk hyb]; exact hr2⟩, M14⟩
       ·(show m - (j + 1) < m - j; omega)
      ·have hjm : j = m := by omega
       rw [hjm, List.take_of_length_le (by omega)] at hr'
       refine cP (dA (cY (eT (aC (aD (aA (bV zI rfl rfl (fE _ _ r' _ hr' (hM13.ownSeg 3 3)) ?_)))))))
       rintro v15 w15 ⟨s0, rfl, hs0, hM15⟩
       have M15 : Mem _ _ [_, _, _, _, _, _, _] _ := hM13.seg 3 3 hM15
       refine gC rfl rfl (aB (aC (aD (aD (aA (eF rfl rfl (bV aFq rfl rfl (iO _ _ r' _ hr' (M15.ownSeg 3 3) C nb cb bs (RB.mem M15) hBb hcapb (by omega) (M15.away 3 3 RB (by simp))) ?_)))))))
       rintro v16 w16 ⟨r3, rfl, hr3, hM16⟩
       have M16 : Mem _ _ [_, _, _, _, _, _, _] _ := M15.seg 3 3 hM16
       refine cT rfl rfl rfl rfl (aB (aC ?_))
       refine aW rfl (fun h63 => ?_) (fun h63 => ?_)
       ·refine aD (aA (bV zI rfl rfl (fE _ _ r3 _ hr3 (M16.ownSeg 3 3)) ?_))
        rintro v17 w17 ⟨s1, rfl, hs1, hM17⟩
        have M17 : Mem _ _ [_, _, _, _, _, _, _, _] _ := M16.seg 3 3 hM17
        refine eF rfl rfl (bV aRy rfl rfl (rI _ _ _ _ _ (hs1.rd M17 (aZ (i := 7) rfl)) _ _ _ bs (RB.mem M17)) ?_)
        rintro v18 w18 ⟨rfl, hb18⟩
        have M18 := M17.callB hb18
        refine kR 66 rfl (by unfold oR; rw [if_pos h63]; exact (aLt hBb h63).e) (wq (fY false rfl rfl) rfl (aB (aC (bX rfl (aK (aC (aD (aD (aA (bV zI rfl rfl (fE _ _ r _ hr (M18.ownSeg 0 3)) ?_))))))))))
        rintro v19 w19 ⟨s2, rfl, hs2, hM19⟩
        have M19 : Mem _ _ [_, _, _, _, _, _, _, _, _] _ := M18.seg 0 3 hM19
        have hpn : (jQ (vP xs)).length = s2.n := by simpa using hs2.1
        rw [sZ] at hpn
        have hgv := hr.1
        refine bV aFq rfl rfl (iO _ _ r3 _ hr3 (M19.ownSeg 3 3) _ _ _ (jQ (vP xs)) (hs2.rd M19 (aZ (i := 8) rfl)) (aBb _) hs2.slice (by omega) (hs2.awayS M19 3 3 8 rfl rfl)) ?_
        rintro v20 w20 ⟨r4, rfl, hr4, hM20⟩
        have M20 : Mem _ _ [_, _, _, _, _, _, _, _, _] _ := M19.seg 3 3 hM20
        rw [aBm hgv] at hr4
        refine aT 73 (.int .i64 0) (iE (by rw [aLz hgv])) (cT rfl rfl rfl rfl (tF 74 rfl (by first | decide | omega) (aB (aC (bX rfl (aK (aC (aD (aD (aA ?_))))))))))
        refine bJ rfl rfl (aB (aC (aS (dM (σ := Nat × StV × StV × List Body) [3, 9, 10] (fun (i, r, r', vs) => [(14, .int .i64 (i : Int))]) (fun (i, r, r', vs) w' => (i ≤ on ∧ dJ 40 r vs ∧ dJ 40 r' vs) ∧ Mem w [] [(some b7, bc [.slice r.A r.n r.c, .map r.p] 56), r.er, r.em, (some b9, bc [.slice r'.A r'.n r'.c, .map r'.p] 56), r'.er, r'.em] w') (fun (i, r, r', vs) => on - i) (0, r, r4, vP xs) (bL rfl eV) (⟨⟨by omega, hr, hr4⟩, M20.keep [true, true, true, true, true, true, false, false, false]⟩) ?_))))
        rintro ⟨i, r, r', vs⟩ ρ21 w21 ⟨⟨hi, hr, hr'⟩, hM21⟩
        refine aD (aD (aA (aV rfl rfl (eF rfl rfl (wq (cM Tryz.underlying48 rfl) rfl (cT rfl rfl rfl rfl (aB (aC ?_))))))))
        refine aW rfl (fun h78 => ?_) (fun h78 => ?_)
        ·obtain ⟨x, hx⟩ := cI (xs := l) (k := i) hol (by omega)
         have hP := hl.each x (List.mem_of_getElem? hx)
         have hxn := hby x (List.mem_of_getElem? hx)
         refine aK (aC (aD (aS (aD (aD (aA (eF rfl rfl (aV rfl rfl (wq (bO (i) pB rfl rfl rfl ((hl.rd.mem hM21).below_len (aJ OpRow.cells hx)) ((hl.rd.mem hM21).someK (aJ OpRow.cells hx))) rfl (wq (bR 0 wA (hl.rd.mem hM21) (Nat.lt_of_le_of_lt (Nat.zero_le _) ((hl.rd.mem hM21).below_len (aJ OpRow.cells hx))) rfl) rfl ?_))))))))))
         refine wq (eQ (o := 0) (.int _ _) kG (hl.rd.mem hM21) (aJ OpRow.cells hx) rfl rfl) rfl (cT rfl rfl rfl rfl (wq (aG (.bool (decide _)) rfl) rfl ?_))
         refine cW 87 rfl (fun g87 => ?_) (fun g87 => ?_)
         ·refine bV qS rfl rfl (gA _ _ r _ hr (hM21.ownSeg 0 3)) ?_
          rintro v22 w22 ⟨qs, rfl, hqs, hM22⟩
          have M22 : Mem _ _ [_, _, _, _, _, _, _] _ := hM21.seg 0 3 hM22
          refine bV aZj rfl rfl (uR _ qs.A qs.n qs.c) ?_
          rintro v23 w23 ⟨rfl, hb23⟩
          have M23 := M22.callB hb23
          refine wq (pL rfl) rfl (wq (bI true (.bool (decide _)) rfl rfl) rfl (aB (aC ?_)))
          refine aW rfl (fun h91 => ?_) (fun h91 => ?_)
          ·refine aD (aA (wq (aI (.bool true) rfl) rfl (aB (aC (aN (cE (iQ (cE (oT ?_)))))))))
           refine iQ (cE (cC (.bool true) rfl ?_))
           exact ⟨rfl, M23.below⟩
          ·refine aK (aC (aD (bQ [(0, 0), (1, 0), (2, 1), (3, 1), (5, 0), (6, 0), (7, 1), (8, 1), (4, 2), (9, 2), (10, 2), (11, 0)] mixed rfl (by kernel_rfl) (fun w24 hb24 hh24 => ?_))))
           have M24 := M23.drew hb24 hh24
           refine vB rfl rfl rfl (gG rfl rfl rfl (cD rfl rfl rfl (bO (i) pB rfl rfl rfl ((hl.rd.mem M24).below_len (aJ OpRow.cells hx)) ((hl.rd.mem M24).someK (aJ OpRow.cells hx))) (cD rfl rfl rfl (cZ _ oB (hl.rd.mem M24) (aJ OpRow.cells hx) rfl) (gB 95 (.agg (jU x.o x.A x.n x.c).toArray) rfl ?_))))
           refine vB rfl rfl rfl (gG rfl rfl rfl (cD rfl rfl rfl (bO (i) pB rfl rfl rfl ((hl.rd.mem M24).below_len (aJ OpRow.cells hx)) ((hl.rd.mem M24).someK (aJ OpRow.cells hx))) (cD rfl rfl rfl (cZ _ oB (hl.rd.mem M24) (aJ OpRow.cells hx) rfl) (gB 100 (.agg (jU x.o x.A x.n x.c).toArray) rfl ?_))))
           refine dP [false, false, true, true] rfl (by kernel_rfl) (bV uX rfl rfl (kF _ (F.mem M24) (N.mem M24) _ r _ hr (M24.ownSeg 0 3) (M24.away 0 3 F (by simp)) (M24.away 0 3 N (by simp)) x.o x.A x.n x.c (hP.mem M24) (by omega) (M24.away 0 3 hP.rd (by simp))) ?_)
           rintro v25 w25 ⟨r2, p1, rfl, hr2, hp1, hM25⟩
           have M25 : Mem _ _ [_, _, _, _, _, _, _, _] _ := M24.seg 0 3 hM25
           refine aB (aC ⟨(eK (bN rfl (cZ _ oB (hl.rd.mem M25) (aJ OpRow.cells hx) rfl)) (eK (bN rfl (bO (i) pB rfl rfl rfl ((hl.rd.mem M25).below_len (aJ OpRow.cells hx)) ((hl.rd.mem M25).someK (aJ OpRow.cells hx)))) dQ)), ?_⟩)
           refine dP [true, true] rfl (by kernel_rfl) (bV uX rfl rfl (kF _ (F.mem M25) (N.mem M25) _ r' _ hr' (M25.ownSeg 3 3) (M25.away 3 3 F (by simp)) (M25.away 3 3 N (by simp)) x.o x.A x.n x.c (hP.mem M25) (by omega) (M25.away 3 3 hP.rd (by simp))) ?_)
           rintro v26 w26 ⟨r3, p2, rfl, hr3, hp2, hM26⟩
           have M26 : Mem _ _ [_, _, _, _, _, _, _, _, _] _ := M25.seg 3 3 hM26
           refine aB (aC ⟨dQ, ?_⟩)
           refine dP [] rfl (by kernel_rfl) (bV aMk rfl rfl (nI _ _ _ _ _ _ _ _ _ _ _ (hp1.rd M26 (aZ (i := 7) rfl)) _ _ _ (hp2.rd M26 (aZ (i := 8) rfl))) ?_)
           rintro v27 w27 ⟨rfl, hb27⟩
           have M27 := M26.callB hb27
           refine aB (aC ⟨dQ, ?_⟩)
           refine aY rfl rfl rfl (fun _ => fY false rfl rfl) (cF (aC (bX rfl (aK (cX ?_)))))
           refine aC (aA (aV rfl rfl (wq (bM rfl rfl (by omega) (by omega)) rfl (bJ rfl rfl (aB ?_)))))
           refine cQ (i + 1, r2, r3, (wU vs x.o).1) (bL rfl eV) (cU rfl (cU rfl (cU rfl jS))) ?_ ?_
           ·exact ⟨⟨by omega, hr2, hr3⟩, M27.keep [true, true, true, true, true, true, false, false, false]⟩
           ·(show on - (i + 1) < on - i; omega)
         ·refine aO rfl rfl (aO rfl rfl (aO rfl rfl (wq (bI false (.bool false) rfl rfl) rfl (aB (aC (bX rfl ?_))))))
          refine aK (aC (aD (bQ [(0, 0), (1, 0), (2, 1), (3, 1), (5, 0), (6, 0), (7, 1), (8, 1), (4, 2), (9, 2), (10, 2), (11, 0)] mixed rfl (by kernel_rfl) (fun w28 hb28 hh28 => ?_))))
          have M28 := hM21.drew hb28 hh28
          refine vB rfl rfl rfl (gG rfl rfl rfl (cD rfl rfl rfl (bO (i) pB rfl rfl rfl ((hl.rd.mem M28).below_len (aJ OpRow.cells hx)) ((hl.rd.mem M28).someK (aJ OpRow.cells hx))) (cD rfl rfl rfl (cZ _ oB (hl.rd.mem M28) (aJ OpRow.cells hx) rfl) (gB 95 (.agg (jU x.o x.A x.n x.c).toArray) rfl ?_))))
          refine vB rfl rfl rfl (gG rfl rfl rfl (cD rfl rfl rfl (bO (i) pB rfl rfl rfl ((hl.rd.mem M28).below_len (aJ OpRow.cells hx)) ((hl.rd.mem M28).someK (aJ OpRow.cells hx))) (cD rfl rfl rfl (cZ _ oB (hl.rd.mem M28) (aJ OpRow.cells hx) rfl) (gB 100 (.agg (jU x.o x.A x.n x.c).toArray) rfl ?_))))
          refine dP [false, false, true, true] rfl (by kernel_rfl) (bV uX rfl rfl (kF _ (F.mem M28) (N.mem M28) _ r _ hr (M28.ownSeg 0 3) (M28.away 0 3 F (by simp)) (M28.away 0 3 N (by simp)) x.o x.A x.n x.c (hP.mem M28) (by omega) (M28.away 0 3 hP.rd (by simp))) ?_)
          rintro v29 w29 ⟨r2, p1, rfl, hr2, hp1, hM29⟩
          have M29 : Mem _ _ [_, _, _, _, _, _, _] _ := M28.seg 0 3 hM29
          refine aB (aC ⟨(eK (bN rfl (cZ _ oB (hl.rd.mem M29) (aJ OpRow.cells hx) rfl)) (eK (bN rfl (bO (i) pB rfl rfl rfl ((hl.rd.mem M29).below_len (aJ OpRow.cells hx)) ((hl.rd.mem M29).someK (aJ OpRow.cells hx)))) dQ)), ?_⟩)
          refine dP [true, true] rfl (by kernel_rfl) (bV uX rfl rfl (kF _ (F.mem M29) (N.mem M29) _ r' _ hr' (M29.ownSeg 3 3) (M29.away 3 3 F (by simp)) (M29.away 3 3 N (by simp)) x.o x.A x.n x.c (hP.mem M29) (by omega) (M29.away 3 3 hP.rd (by simp))) ?_)
          rintro v30 w30 ⟨r3, p2, rfl, hr3, hp2, hM30⟩
          have M30 : Mem _ _ [_, _, _, _, _, _, _, _] _ := M29.seg 3 3 hM30
          refine aB (aC ⟨dQ, ?_⟩)
          refine dP [] rfl (by kernel_rfl) (bV aMk rfl rfl (nI _ _ _ _ _ _ _ _ _ _ _ (hp1.rd M30 (aZ (i := 6) rfl)) _ _ _ (hp2.rd M30 (aZ (i := 7) rfl))) ?_)
          rintro v31 w31 ⟨rfl, hb31⟩
          have M31 := M30.callB hb31
          refine aB (aC ⟨dQ, ?_⟩)
          refine aY rfl rfl rfl (fun _ => fY false rfl rfl) (cF (aC (bX rfl (aK (cX ?_)))))
          refine aC (aA (aV rfl rfl (wq (bM rfl rfl (by omega) (by omega)) rfl (bJ rfl rfl (aB ?_)))))
          refine cQ (i + 1, r2, r3, (wU vs x.o).1) (bL rfl eV) (cU rfl (cU rfl (cU rfl jS))) ?_ ?_
          ·exact ⟨⟨by omega, hr2, hr3⟩, M31.keep [true, true, true, true, true, true, false, false]⟩
          ·(show on - (i + 1) < on - i; omega)
        ·refine cP (dA (cY (eT (aC (aD (aA (bV qS rfl rfl (gA _ _ r _ hr (hM21.ownSeg 0 3)) ?_)))))))
         rintro v32 w32 ⟨v1, rfl, hv1, hM32⟩
         have M32 : Mem _ _ [_, _, _, _, _, _, _] _ := hM21.seg 0 3 hM32
         refine bV qS rfl rfl (gA _ _ r' _ hr' (M32.ownSeg 3 3)) ?_
         rintro v33 w33 ⟨v2, rfl, hv2, hM33⟩
         have M33 : Mem _ _ [_, _, _, _, _, _, _, _] _ := M32.seg 3 3 hM33
         refine bV aZq rfl rfl (yN _ _ _ _ _ (hv1.rd M33 (aZ (i := 6) rfl)) _ _ _ _ (hv2.rd M33 (aZ (i := 7) rfl))) ?_
         rintro v34 w34 ⟨rfl, hb34⟩
         have M34 := M33.callB hb34
         refine kR 106 rfl rfl (wq (aI (.bool true) rfl) rfl (aB (aC (aN (cC (.bool true) rfl ?_)))))
         exact ⟨rfl, M34.below⟩
       ·refine aD (aA (bV zI rfl rfl (fE _ _ r3 _ hr3 (M16.ownSeg 3 3)) ?_))
        rintro v35 w35 ⟨s1, rfl, hs1, hM35⟩
        have M35 : Mem _ _ [_, _, _, _, _, _, _, _] _ := M16.seg 3 3 hM35
        refine eF rfl rfl (bV aRy rfl rfl (rI _ _ _ _ _ (hs1.rd M35 (aZ (i := 7) rfl)) _ _ _ _ (hs0.rd M35 (aZ (i := 6) rfl))) ?_)
        rintro v36 w36 ⟨rfl, hb36⟩
        have M36 := M35.callB hb36
        refine kR 70 rfl (by unfold oR; rw [if_neg h63]) (wq (fY false rfl rfl) rfl (aB (aC (bX rfl (aK (aC (aD (aD (aA (bV zI rfl rfl (fE _ _ r _ hr (M36.ownSeg 0 3)) ?_))))))))))
        rintro v37 w37 ⟨s2, rfl, hs2, hM37⟩
        have M37 : Mem _ _ [_, _, _, _, _, _, _, _, _] _ := M36.seg 0 3 hM37
        have hpn : (jQ (vP xs)).length = s2.n := by simpa using hs2.1
        rw [sZ] at hpn
        have hgv := hr.1
        refine bV aFq rfl rfl (iO _ _ r3 _ hr3 (M37.ownSeg 3 3) _ _ _ (jQ (vP xs)) (hs2.rd M37 (aZ (i := 8) rfl)) (aBb _) hs2.slice (by omega) (hs2.awayS M37 3 3 8 rfl rfl)) ?_
        rintro v38 w38 ⟨r4, rfl, hr4, hM38⟩
        have M38 : Mem _ _ [_, _, _, _, _, _, _, _, _] _ := M37.seg 3 3 hM38
        rw [aBm hgv] at hr4
        refine aT 73 (.int .i64 0) (iE (by rw [aLz hgv])) (cT rfl rfl rfl rfl (tF 74 rfl (by first | decide | omega) (aB (aC (bX rfl (aK (aC (aD (aD (aA ?_))))))))))
        refine bJ rfl rfl (aB (aC (aS (dM (σ := Nat × StV × StV × List Body) [3, 9, 10] (fun (i, r, r', vs) => [(14, .int .i64 (i : Int))]) (fun (i, r, r', vs) w' => (i ≤ on ∧ dJ 40 r vs ∧ dJ 40 r' vs) ∧ Mem w [] [(some b7, bc [.slice r.A r.n r.c, .map r.p] 56), r.er, r.em, (some b9, bc [.slice r'.A r'.n r'.c, .map r'.p] 56), r'.er, r'.em] w') (fun (i, r, r', vs) => on - i) (0, r, r4, vP xs) (bL rfl eV) (⟨⟨by omega, hr, hr4⟩, M38.keep [true, true, true, true, true, true, false, false, false]⟩) ?_))))
        rintro ⟨i, r, r', vs⟩ ρ39 w39 ⟨⟨hi, hr, hr'⟩, hM39⟩
        refine aD (aD (aA (aV rfl rfl (eF rfl rfl (wq (cM Tryz.underlying48 rfl) rfl (cT rfl rfl rfl rfl (aB (aC ?_))))))))
        refine aW rfl (fun h78 => ?_) (fun h78 => ?_)
        ·obtain ⟨x, hx⟩ := cI (xs := l) (k := i) hol (by omega)
         have hP := hl.each x (List.mem_of_getElem? hx)
         have hxn := hby x (List.mem_of_getElem? hx)
         refine aK (aC (aD (aS (aD (aD (aA (eF rfl rfl (aV rfl rfl (wq (bO (i) pB rfl rfl rfl ((hl.rd.mem hM39).below_len (aJ OpRow.cells hx)) ((hl.rd.mem hM39).someK (aJ OpRow.cells hx))) rfl (wq (bR 0 wA (hl.rd.mem hM39) (Nat.lt_of_le_of_lt (Nat.zero_le _) ((hl.rd.mem hM39).below_len (aJ OpRow.cells hx))) rfl) rfl ?_))))))))))
         refine wq (eQ (o := 0) (.int _ _) kG (hl.rd.mem hM39) (aJ OpRow.cells hx) rfl rfl) rfl (cT rfl rfl rfl rfl (wq (aG (.bool (decide _)) rfl) rfl ?_))
         refine cW 87 rfl (fun g87 => ?_) (fun g87 => ?_)
         ·refine bV qS rfl rfl (gA _ _ r _ hr (hM39.ownSeg 0 3)) ?_
          rintro v40 w40 ⟨qs, rfl, hqs, hM40⟩
          have M40 : Mem _ _ [_, _, _, _, _, _, _] _ := hM39.seg 0 3 hM40
          refine bV aZj rfl rfl (uR _ qs.A qs.n qs.c) ?_
          rintro v41 w41 ⟨rfl, hb41⟩
          have M41 := M40.callB hb41
          refine wq (pL rfl) rfl (wq (bI true (.bool (decide _)) rfl rfl) rfl (aB (aC ?_)))
          refine aW rfl (fun h91 => ?_) (fun h91 => ?_)
          ·refine aD (aA (wq (aI (.bool true) rfl) rfl (aB (aC (aN (cE (iQ (cE (oT ?_)))))))))
           refine iQ (cE (cC (.bool true) rfl ?_))
           exact ⟨rfl, M41.below⟩
          ·refine aK (aC (aD (bQ [(0, 0), (1, 0), (2, 1), (3, 1), (5, 0), (6, 0), (7, 1), (8, 1), (4, 2), (9, 2), (10, 2), (11, 0)] mixed rfl (by kernel_rfl) (fun w42 hb42 hh42 => ?_))))
           have M42 := M41.drew hb42 hh42
           refine vB rfl rfl rfl (gG rfl rfl rfl (cD rfl rfl rfl (bO (i) pB rfl rfl rfl ((hl.rd.mem M42).below_len (aJ OpRow.cells hx)) ((hl.rd.mem M42).someK (aJ OpRow.cells hx))) (cD rfl rfl rfl (cZ _ oB (hl.rd.mem M42) (aJ OpRow.cells hx) rfl) (gB 95 (.agg (jU x.o x.A x.n x.c).toArray) rfl ?_))))
           refine vB rfl rfl rfl (gG rfl rfl rfl (cD rfl rfl rfl (bO (i) pB rfl rfl rfl ((hl.rd.mem M42).below_len (aJ OpRow.cells hx)) ((hl.rd.mem M42).someK (aJ OpRow.cells hx))) (cD rfl rfl rfl (cZ _ oB (hl.rd.mem M42) (aJ OpRow.cells hx) rfl) (gB 100 (.agg (jU x.o x.A x.n x.c).toArray) rfl ?_))))
           refine dP [false, false, true, true] rfl (by kernel_rfl) (bV uX rfl rfl (kF _ (F.mem M42) (N.mem M42) _ r _ hr (M42.ownSeg 0 3) (M42.away 0 3 F (by simp)) (M42.away 0 3 N (by simp)) x.o x.A x.n x.c (hP.mem M42) (by omega) (M42.away 0 3 hP.rd (by simp))) ?_)
           rintro v43 w43 ⟨r2, p1, rfl, hr2, hp1, hM43⟩
           have M43 : Mem _ _ [_, _, _, _, _, _, _, _] _ := M42.seg 0 3 hM43
           refine aB (aC ⟨(eK (bN rfl (cZ _ oB (hl.rd.mem M43) (aJ OpRow.cells hx) rfl)) (eK (bN rfl (bO (i) pB rfl rfl rfl ((hl.rd.mem M43).below_len (aJ OpRow.cells hx)) ((hl.rd.mem M43).someK (aJ OpRow.cells hx)))) dQ)), ?_⟩)
           refine dP [true, true] rfl (by kernel_rfl) (bV uX rfl rfl (kF _ (F.mem M43) (N.mem M43) _ r' _ hr' (M43.ownSeg 3 3) (M43.away 3 3 F (by simp)) (M43.away 3 3 N (by simp)) x.o x.A x.n x.c (hP.mem M43) (by omega) (M43.away 3 3 hP.rd (by simp))) ?_)
           rintro v44 w44 ⟨r3, p2, rfl, hr3, hp2, hM44⟩
           have M44 : Mem _ _ [_, _, _, _, _, _, _, _, _] _ := M43.seg 3 3 hM44
           refine aB (aC ⟨dQ, ?_⟩)
           refine dP [] rfl (by kernel_rfl) (bV aMk rfl rfl (nI _ _ _ _ _ _ _ _ _ _ _ (hp1.rd M44 (aZ (i := 7) rfl)) _ _ _ (hp2.rd M44 (aZ (i := 8) rfl))) ?_)
           rintro v45 w45 ⟨rfl, hb45⟩
           have M45 := M44.callB hb45
           refine aB (aC ⟨dQ, ?_⟩)
           refine aY rfl rfl rfl (fun _ => fY false rfl rfl) (cF (aC (bX rfl (aK (cX ?_)))))
           refine aC (aA (aV rfl rfl (wq (bM rfl rfl (by omega) (by omega)) rfl (bJ rfl rfl (aB ?_)))))
           refine cQ (i + 1, r2, r3, (wU vs x.o).1) (bL rfl eV) (cU rfl (cU rfl (cU rfl jS))) ?_ ?_
           ·exact ⟨⟨by omega, hr2, hr3⟩, M45.keep [true, true, true, true, true, true, false, false, false]⟩
           ·(show on - (i + 1) < on - i; omega)
         ·refine aO rfl rfl (aO rfl rfl (aO rfl rfl (wq (bI false (.bool false) rfl rfl) rfl (aB (aC (bX rfl ?_))))))
          refine aK (aC (aD (bQ [(0, 0), (1, 0), (2, 1), (3, 1), (5, 0), (6, 0), (7, 1), (8, 1), (4, 2), (9, 2), (10, 2), (11, 0)] mixed rfl (by kernel_rfl) (fun w46 hb46 hh46 => ?_))))
          have M46 := hM39.drew hb46 hh46
          refine vB rfl rfl rfl (gG rfl rfl rfl (cD rfl rfl rfl (bO (i) pB rfl rfl rfl ((hl.rd.mem M46).below_len (aJ OpRow.cells hx)) ((hl.rd.mem M46).someK (aJ OpRow.cells hx))) (cD rfl rfl rfl (cZ _ oB (hl.rd.mem M46) (aJ OpRow.cells hx) rfl) (gB 95 (.agg (jU x.o x.A x.n x.c).toArray) rfl ?_))))
          refine vB rfl rfl rfl (gG rfl rfl rfl (cD rfl rfl rfl (bO (i) pB rfl rfl rfl ((hl.rd.mem M46).below_len (aJ OpRow.cells hx)) ((hl.rd.mem M46).someK (aJ OpRow.cells hx))) (cD rfl rfl rfl (cZ _ oB (hl.rd.mem M46) (aJ OpRow.cells hx) rfl) (gB 100 (.agg (jU x.o x.A x.n x.c).toArray) rfl ?_))))
          refine dP [false, false, true, true] rfl (by kernel_rfl) (bV uX rfl rfl (kF _ (F.mem M46) (N.mem M46) _ r _ hr (M46.ownSeg 0 3) (M46.away 0 3 F (by simp)) (M46.away 0 3 N (by simp)) x.o x.A x.n x.c (hP.mem M46) (by omega) (M46.away 0 3 hP.rd (by simp))) ?_)
          rintro v47 w47 ⟨r2, p1, rfl, hr2, hp1, hM47⟩
          have M47 : Mem _ _ [_, _, _, _, _, _, _] _ := M46.seg 0 3 hM47
          refine aB (aC ⟨(eK (bN rfl (cZ _ oB (hl.rd.mem M47) (aJ OpRow.cells hx) rfl)) (eK (bN rfl (bO (i) pB rfl rfl rfl ((hl.rd.mem M47).below_len (aJ OpRow.cells hx)) ((hl.rd.mem M47).someK (aJ OpRow.cells hx)))) dQ)), ?_⟩)
          refine dP [true, true] rfl (by kernel_rfl) (bV uX rfl rfl (kF _ (F.mem M47) (N.mem M47) _ r' _ hr' (M47.ownSeg 3 3) (M47.away 3 3 F (by simp)) (M47.away 3 3 N (by simp)) x.o x.A x.n x.c (hP.mem M47) (by omega) (M47.away 3 3 hP.rd (by simp))) ?_)
          rintro v48 w48 ⟨r3, p2, rfl, hr3, hp2, hM48⟩
          have M48 : Mem _ _ [_, _, _, _, _, _, _, _] _ := M47.seg 3 3 hM48
          refine aB (aC ⟨dQ, ?_⟩)
          refine dP [] rfl (by kernel_rfl) (bV aMk rfl rfl (nI _ _ _ _ _ _ _ _ _ _ _ (hp1.rd M48 (aZ (i := 6) rfl)) _ _ _ (hp2.rd M48 (aZ (i := 7) rfl))) ?_)
          rintro v49 w49 ⟨rfl, hb49⟩
          have M49 := M48.callB hb49
          refine aB (aC ⟨dQ, ?_⟩)
          refine aY rfl rfl rfl (fun _ => fY false rfl rfl) (cF (aC (bX rfl (aK (cX ?_)))))
          refine aC (aA (aV rfl rfl (wq (bM rfl rfl (by omega) (by omega)) rfl (bJ rfl rfl (aB ?_)))))
          refine cQ (i + 1, r2, r3, (wU vs x.o).1) (bL rfl eV) (cU rfl (cU rfl (cU rfl jS))) ?_ ?_
          ·exact ⟨⟨by omega, hr2, hr3⟩, M49.keep [true, true, true, true, true, true, false, false]⟩
          ·(show on - (i + 1) < on - i; omega)
        ·refine cP (dA (cY (eT (aC (aD (aA (bV qS rfl rfl (gA _ _ r _ hr (hM39.ownSeg 0 3)) ?_)))))))
         rintro v50 w50 ⟨v1, rfl, hv1, hM50⟩
         have M50 : Mem _ _ [_, _, _, _, _, _, _] _ := hM39.seg 0 3 hM50
         refine bV qS rfl rfl (gA _ _ r' _ hr' (M50.ownSeg 3 3)) ?_
         rintro v51 w51 ⟨v2, rfl, hv2, hM51⟩
         have M51 : Mem _ _ [_, _, _, _, _, _, _, _] _ := M50.seg 3 3 hM51
         refine bV aZq rfl rfl (yN _ _ _ _ _ (hv1.rd M51 (aZ (i := 6) rfl)) _ _ _ _ (hv2.rd M51 (aZ (i := 7) rfl))) ?_
         rintro v52 w52 ⟨rfl, hb52⟩
         have M52 := M51.callB hb52
         refine kR 106 rfl rfl (wq (aI (.bool true) rfl) rfl (aB (aC (aN (cC (.bool true) rfl ?_)))))
         exact ⟨rfl, M52.below⟩
namespace worldRestores
open Go.ChangeShapes Go.WideShapes Go.ChangeAt Go.RowKit
open Go.ChangeMaps (open_string shut_string)
theorem own : ownKnob Tryz.prog.godebug = none := by kernel_rfl
theorem laidOut : laidOutB Tryz.prog = true := by kernel_rfl
set_option maxRecDepth 100000 in
theorem lifted (os : Os) (started : os.Started) (H : Type) (enc : TypeId × Value → H) :
  ReturnsInHanded {} Tryz.checked os 10 .any (fun w args => (Rows.worldRestoresSpec.pre enc Tryz.prog Tryz.f10 [] false w args ∧ laidMet Tryz.prog wZ w) ∧ sizedMet enc Tryz.prog Tryz.f10 (OpenSpec.ofChange Rows.worldRestoresSpec) false w args) (Rows.worldRestoresSpec.post enc Tryz.prog Tryz.f10 false true false false) := by
 refine returnsInHanded_of_change_and (C := Tryz.checked) (X := fun w _ => laidMet Tryz.prog wZ w) (fun _ _ _ hh h => h.of_heap hh) own started (by kernel_rfl) Tryz.func10
  (ChangeSpec.witness_at (enc := enc) (C := Tryz.checked) (os := os) (X := fun w _ => laidMet Tryz.prog wZ w) false (aNv os) #[.slice none 0 0, .slice none 0 0, .slice none 0 0, .slice none 0 0] 8 rfl (by kernel_rfl) (by kernel_rfl) (by kernel_rfl) (by kernel_rfl) (by kernel_rfl) (laidMet_of_run' 8 (by kernel_rfl) (by kernel_rfl))) ?_
 intro W base args ds gs before hval0 hW hcnd hsz0 hL _
 have hsz : (DataW.weightsEach Tryz.prog (Tryz.f10.params.toList ++ Rows.worldRestoresSpec.plain.varTypes Tryz.prog) (ds ++ gs)).all (· ≤ reachBytes) = true := hsz0
 have hval : ∀ (j : Nat) t v, Tryz.f10.params[j]? = some t → args[j]? = some v → Value.okWide Tryz.prog W .any base t v := hval0
 have hW' := hW
 obtain ⟨p, q, hA0, hV, rfl, hfz, hnd⟩ := hW
 have hA : DataW.TrodAll enc Tryz.prog W 0 (fun _ => true) true Tryz.f10.params.toList args.toList ds p := hA0
 rw [Tryz.params10] at hA hval hsz
 obtain ⟨v0, vs0, d0, ds0, p0, q0, hargs, rfl, rfl, h0, r0⟩ := trodAll_cons hA
 obtain ⟨v1, vs1, d1, ds1, p1, q1, rfl, rfl, rfl, h1, r1⟩ := trodAll_cons r0
 obtain ⟨v2, vs2, d2, ds2, p2, q2, rfl, rfl, rfl, h2, r2⟩ := trodAll_cons r1
 obtain ⟨v3, vs3, d3, ds3, p3, q3, rfl, rfl, rfl, h3, r3⟩ := trodAll_cons r2
 obtain ⟨rfl, rfl, rfl⟩ := trodAll_nil r3
 obtain rfl : args = #[v0, v1, v2, v3] := by cases args; simp_all
 obtain ⟨rfl, rfl⟩ := trodVars_none hV
 have k0 := h0
 have lt0 : ∀ x ∈ p0, x.block < W.heap.size := by obtain ⟨m, hm⟩ := k0; exact DataW.trod_lt m _ _ _ hm
 obtain ⟨a0, len0, cap0, rfl⟩ := okWide_slice Tryz.underlying22 (hval 0 22 v0 rfl rfl)
 have y0 := rG hsz (j := 0) (t := 22) rfl rfl eP h0
 obtain ⟨ls0, R0, hi0⟩ := qF eP aFt rfl y0 h0
 obtain ⟨xs0, rfl, hx0⟩ := sT aKe ls0 hi0
 have k1 := h1
 have lt1 : ∀ x ∈ p1, x.block < W.heap.size := by obtain ⟨m, hm⟩ := k1; exact DataW.trod_lt m _ _ _ hm
 obtain ⟨a1, len1, cap1, rfl⟩ := okWide_slice Tryz.underlying22 (hval 1 22 v1 rfl rfl)
 have y1 := rG hsz (j := 1) (t := 22) rfl rfl eP h1
 obtain ⟨ls1, R1, hi1⟩ := qF eP aFt rfl y1 h1
 obtain ⟨xs1, rfl, hx1⟩ := sT aKe ls1 hi1
 have k2 := h2
 have lt2 : ∀ x ∈ p2, x.block < W.heap.size := by obtain ⟨m, hm⟩ := k2; exact DataW.trod_lt m _ _ _ hm
 obtain ⟨a2, len2, cap2, rfl⟩ := okWide_slice Tryz.underlying57 (hval 2 57 v2 rfl rfl)
 have y2 := rG hsz (j := 2) (t := 57) rfl rfl kI h2
 obtain ⟨ls2, R2, hi2⟩ := qF kI aYu rfl y2 h2
 have cp2 := aSj kI h2
 obtain ⟨xs2, rfl, hx2⟩ := sT Go.Bil.byteOf ls2 hi2
 have k3 := h3
 have lt3 : ∀ x ∈ p3, x.block < W.heap.size := by obtain ⟨m, hm⟩ := k3; exact DataW.trod_lt m _ _ _ hm
 obtain ⟨a3, len3, cap3, rfl⟩ := okWide_slice Tryz.underlying48 (hval 3 48 v3 rfl rfl)
 have y3 : ∀ n ∈ d3.weights Tryz.prog 48, n ≤ reachBytes := fun n hn => by simpa using List.all_eq_true.1 hsz _ (DataW.weights_mem_each (j := 3) rfl rfl n hn)
 obtain ⟨xs3, R3⟩ := aQd pB opT y3 h3
 clear hA0 hval0 hsz0 hsz
 refine (sE W (rdF hL) (rdN hL) _ _ _ xs0 R0 hx0 _ _ _ xs1 R1 hx1 _ _ _ xs2 R2 hx2 cp2 _ _ _ xs3 R3).mono fun e W' ⟨v, he, hv, bel⟩ => ?_
 subst he
 subst hv
 exact ⟨_, rfl, _, _, _, [], _, [], hW', trodAll_mk1 (shut_bool Tryz.underlying4 _), (trodAll_cons_mk (Below.trod laidOut (by kernel_rfl) (of_decide_eq_true (by kernel_rfl)) k0 bel lt0) (trodAll_cons_mk (Below.trod laidOut (by kernel_rfl) (of_decide_eq_true (by kernel_rfl)) k1 bel lt1) (trodAll_cons_mk (Below.trod laidOut (by kernel_rfl) (of_decide_eq_true (by kernel_rfl)) k2 bel lt2) (trodAll_cons_mk (Below.trod laidOut (by kernel_rfl) (of_decide_eq_true (by kernel_rfl)) k3 bel lt3) trodAll_mk0)))), rfl, bel.frame _, fun h => by cases h⟩
theorem andT {a b : Bool} (ha : a = true) (hb : b = true) : (a && b) = true := by rw [ha, hb]; rfl
set_option maxHeartbeats 16000000 in
theorem closed : joinedFacts Tryz.prog 10 Tryz.f10 Rows.worldRestoresSpec Rows.worldRestoresRow = true := by
 unfold joinedFacts
 repeat' (with_reducible refine andT ?_ ?_)
 all_goals (as_aux_lemma => kernel_rfl)
theorem over : Rows.worldRestoresRow.holds Tryz.pinned (OpenSpec.ofChange Rows.worldRestoresSpec) :=
 OpenClaim.holds_of_wide 10 Tryz.f10 rfl rfl rfl rfl rfl rfl rfl ⟨rfl, rfl, rfl, rfl, rfl⟩ rfl rfl rfl rfl rfl (by kernel_rfl) Tryz.func10 closed
  (of_decide_eq_true (by kernel_rfl)) (by unfold Func.isWrapper; first | (rw [if_pos (by decide +kernel)]; kernel_rfl) | (rw [if_neg (by decide +kernel)]; exact ⟨rfl, rfl⟩))
  (fun os started H enc _ => lifted os started H enc)
end worldRestores
theorem worldRestores_holds : Rows.WorldRestoresSaid := worldRestores.over
#print axioms worldRestores_holds
theorem worldRestores_card : Rows.WorldRestoresCardSaid :=
 Claim7.holds_tied_plain_at .later [] [.data, .data] true (true, "efc75206f113ecd8e5cc872cd0b30c800981909977c6e963415616c654d1aab5") false
  worldRestores_holds (fun _ h => by cases h) (by kernel_rfl) (fun _ h => by cases h) worldRestores_row_tie rfl ⟨rfl, rfl⟩ (by kernel_rfl) rfl
  (fun f fn hf hfn => by
   obtain rfl : f = 10 := Option.some.inj ((show Tryz.prog.funcNamed "billiard/billiardlaw22.WorldRestores" = some 10 by kernel_rfl).symm.trans hf) |>.symm
   obtain rfl : fn = Tryz.f10 := (Option.some.inj (Tryz.func10.symm.trans hfn)).symm
   exact ⟨by kernel_rfl, fun j t ht => by
    rw [Tryz.params10] at ht
    have hm : t ∈ [22, 22, 57, 48] := by simpa using Array.mem_of_getElem? ht
    have hall : ([22, 22, 57, 48].all fun u => !Tryz.prog.wantsStandIn u) = true := by kernel_rfl
    exact (show Tryz.prog.wantsStandIn t = false by simpa using List.all_eq_true.1 hall t hm)⟩)
  (by kernel_rfl)
#print axioms worldRestores_card
end Go.Proofs.YtlmcphcgiclanaaGreatDoor
