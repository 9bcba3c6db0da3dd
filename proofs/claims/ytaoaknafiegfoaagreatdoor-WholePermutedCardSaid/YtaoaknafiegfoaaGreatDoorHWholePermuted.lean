import Derived.Test.YtaoaknafiegfoaaGreatDoorK2
import Derived.Test.YtaoaknafiegfoaaGreatDoorK5
import Derived.Test.YtaoaknafiegfoaaGreatDoorK35
import Derived.Test.YtaoaknafiegfoaaGreatDoorRows
import Derived.Test.YtaoaknafiegfoaaGreatDoorK36
import Derived.Test.YtaoaknafiegfoaaGreatDoorTie
import Derived.Test.YtaoaknafiegfoaaGreatDoorCards
import Derived.WalkKit
import Derived.ProofKit
import Derived.OpenShut
import Derived.ShutString
import Derived.ChangeOld
import Derived.Below
import Derived.SizedLaws
set_option linter.unusedVariables false
set_option linter.unusedSimpArgs false
set_option linter.unnecessarySimpa false
namespace Go.Proofs.YtaoaknafiegfoaaGreatDoor
open Go.Bil
open Go.RowKit (Below)
open Go.Proofs
set_option maxHeartbeats 64000000 in
theorem tG (w : World) (F : Rd w 2 (some ⟨0, 0, none⟩) 1 [[.int .u32 73856093, .int .u32 19349663]]) (N : Rd w 4 (some ⟨3, 0, none⟩) 1 [cY gO]) (A : Option Addr) (n c : Nat) (xs : List Body) (R : Rd w 10 A n (xs.map aF)) (hin : ∀ b ∈ xs, InB b) (f : Nat) (hf : f ≤ 255) (bk : Bool) (OA : Option Addr) (on oc : Nat) (l : List OpRow) (hl : OpsRd w OA on l) :
  Calls Tryz.prog 4 #[.slice A n c, .int .u8 (f : Int), .bool bk, .slice OA on oc] w (fun ex w' => ∃ v, ex = .returned v ∧ (fun v w' => v = .bool true ∧ Below w.heap.size w w') v w') := by
 have hlen : xs.length = n := by simpa using R.len
 have hbd := R.bound
 have hol : l.length = on := by simpa using hl.rd.len
 have hobd := hl.rd.bound
 refine aH #[.tmp 8] 144 Tryz.func4 rfl Tryz.results4 Tryz.ntmps4 rfl ?_
 have M0 := Mem.refl w
 refine aD (aA (wq (aI (.bool false) rfl) rfl (aB (aC (aD (aD (aA (bX aMr rfl rfl (aZo _ (F.mem M0) (N.mem M0)) ?_))))))))
 rintro v1 w1 ⟨rfl, hb1⟩
 have M1 := M0.callB hb1
 refine wq (fO false rfl rfl) rfl (wq (aG (.bool false) rfl) rfl (eG rfl rfl (wq (cP Tryz.underlying29 rfl) rfl (dA rfl rfl rfl rfl (wq (bQ false (.bool (decide _)) rfl rfl) rfl ?_)))))
 refine wq (aG (.bool (decide _)) rfl) rfl ?_
 refine cU 25 rfl (fun g25 => ?_) (fun g25 => ?_)
 ·refine aN rfl rfl (aN rfl rfl (aN rfl rfl (wq (bQ true (.bool true) rfl rfl) rfl (wq (aG (.bool true) rfl) rfl (aN rfl rfl ?_)))))
  refine aN rfl rfl (aN rfl rfl (wq (bQ true (.bool true) rfl rfl) rfl (aB (aC (cM rfl (aD (aA ?_)))))))
  refine bX aMr rfl rfl (aZo _ (F.mem M1) (N.mem M1)) ?_
  rintro v2 w2 ⟨rfl, hb2⟩
  have M2 := M1.callB hb2
  refine wq (aI (.bool true) rfl) rfl (aB (aC (aM (cE (bW (.bool true) rfl ?_)))))
  exact ⟨rfl, M2.below⟩
 ·refine eG rfl rfl (wq (cP Tryz.underlying29 rfl) rfl (dA rfl rfl rfl rfl (wq (bQ false (.bool (decide _)) rfl rfl) rfl (wq (aG (.bool (decide _)) rfl) rfl ?_))))
  refine cU 30 rfl (fun g30 => ?_) (fun g30 => ?_)
  ·refine aN rfl rfl (aN rfl rfl (aN rfl rfl (wq (bQ true (.bool true) rfl rfl) rfl (aB (aC (cM rfl ?_))))))
   refine aD (aA (bX aMr rfl rfl (aZo _ (F.mem M1) (N.mem M1)) ?_))
   rintro v3 w3 ⟨rfl, hb3⟩
   have M3 := M1.callB hb3
   refine wq (aI (.bool true) rfl) rfl (aB (aC (aM (cE (bW (.bool true) rfl ?_)))))
   exact ⟨rfl, M3.below⟩
  ·refine eG rfl rfl (bX bJc rfl rfl (aRl _ OA on oc l (hl.mem M1)) ?_)
   rintro v4 w4 ⟨⟨g, rfl, hg⟩, hb4⟩
   have M4 := M1.callB hb4
   refine wq (fO _ rfl rfl) rfl (wq (bQ false (.bool _) rfl rfl) rfl (aB (aC ?_)))
   refine gR _ rfl (fun h34 => ?_) (fun h34 => ?_)
   ·refine aD (aA (bX aMr rfl rfl (aZo _ (F.mem M4) (N.mem M4)) ?_))
    rintro v5 w5 ⟨rfl, hb5⟩
    have M5 := M4.callB hb5
    refine wq (aI (.bool true) rfl) rfl (aB (aC (aM (cE (bW (.bool true) rfl ?_)))))
    exact ⟨rfl, M5.below⟩
   ·obtain ⟨hn40, hby⟩ := hg (by simpa using h34)
    have hby2 : ∀ x ∈ l, x.n ≤ 1000000 := fun x hx => Nat.le_trans (hby x hx) (by decide)
    have hn0 : 0 < n := by omega
    refine aK (aC (aD (aD (aA (bP rfl rfl (aB (aC (aS (dK (σ := Nat) [0, 1, 2, 3] (fun i => [(9, .int .i64 (i : Int))]) (fun i w' => (i ≤ n ∧ ∀ (p q : Nat) (x y : Body), p < q → q < i → xs[p]? = some x → xs[q]? = some y → x.key ≠ y.key) ∧ Mem w [] [] w') (fun i => n - i) 0 (bR rfl eZ) (⟨⟨by omega, fun p q x y h1 h2 => by omega⟩, M4⟩) ?_)))))))))
    rintro i ρ6 w6 ⟨⟨hi, hne⟩, hM6⟩
    refine aD (aD (aA (aY rfl rfl (eG rfl rfl (wq (cP Tryz.underlying29 rfl) rfl (dA rfl rfl rfl rfl (aB (aC ?_))))))))
    refine aZ rfl (fun h39 => ?_) (fun h39 => ?_)
    ·obtain ⟨xi, hxi⟩ := cI (xs := xs) (k := i) hlen (by omega)
     refine aK (aC (aD (aS (aD (aA (bP rfl rfl (aB (aC (aS (dK (σ := Nat) [0, 1, 2, 3, 9] (fun k => [(10, .int .i64 (k : Int))]) (fun k w' => (k ≤ i ∧ ∀ (j : Nat) (x : Body), j < k → xs[j]? = some x → x.key ≠ xi.key) ∧ Mem w [] [] w') (fun k => i - k) 0 (bR rfl eZ) (⟨⟨by omega, fun j x hj => by omega⟩, hM6⟩) ?_))))))))))
     rintro k ρ7 w7 ⟨⟨hk, hin2⟩, hM7⟩
     refine aD (aD (aA (aY rfl rfl (aY rfl rfl (dA rfl rfl rfl rfl (aB (aC ?_)))))))
     refine aZ rfl (fun h44 => ?_) (fun h44 => ?_)
     ·obtain ⟨xk, hxk⟩ := cI (xs := xs) (k := k) hlen (by omega)
      refine aK (aC (aD (aS (aD (bO [(0, 0), (1, 0), (2, 1), (3, 1), (4, 1), (5, 0), (6, 0), (7, 1), (8, 1), (9, 1), (10, 0)] mixed rfl (by kernel_rfl) (fun w8 hb8 hh8 => ?_))))))
      have M8 := hM7.drew hb8 hh8
      refine oF rfl rfl rfl (fV rfl rfl rfl (bV rfl rfl rfl (bN (i) dW rfl rfl rfl ((R.mem M8).below_len (aJ aF hxi)) ((R.mem M8).someK (aJ aF hxi))) (bV rfl rfl rfl (bJ 0 eP (R.mem M8) (Nat.lt_of_le_of_lt (Nat.zero_le _) ((R.mem M8).below_len (aJ aF hxi))) rfl) ?_)))
      refine bV rfl rfl rfl (eJ (o := 0) (.int _ _) cC (R.mem M8) (aJ aF hxi) rfl rfl) (oF rfl rfl rfl (fV rfl rfl rfl (bV rfl rfl rfl (bN (k) dW rfl rfl rfl ((R.mem M8).below_len (aJ aF hxk)) ((R.mem M8).someK (aJ aF hxk))) (bV rfl rfl rfl (bJ 0 eP (R.mem M8) (Nat.lt_of_le_of_lt (Nat.zero_le _) ((R.mem M8).below_len (aJ aF hxk))) rfl) ?_))))
      refine bV rfl rfl rfl (eJ (o := 0) (.int _ _) cC (R.mem M8) (aJ aF hxk) rfl rfl) (aV rfl rfl rfl (fun _ => dO (.bool (decide _)) rfl rfl rfl) (cD (aC ?_)))
      refine aZ rfl (fun h57 => ?_) (fun h57 => ?_)
      ·refine aD (aA (wq (aI (.bool true) rfl) rfl (aB (aC (aM (iY (cE (qD ?_))))))))
       refine iY (iY (cE (qD (iY (cE ?_)))))
       refine bW (.bool true) rfl ?_
       exact ⟨rfl, M8.below⟩
      ·refine aK (dE (aC (aA (aY rfl rfl (wq (bU rfl rfl (by omega) (by omega)) rfl (bP rfl rfl ?_))))))
       refine aB ?_
       refine cS (k + 1) (bR rfl eZ) (cV rfl (cV rfl (cV rfl (cV rfl (cV rfl jQ))))) ?_ ?_
       ·exact ⟨⟨by omega, oK (p := fun _ x => x.key ≠ xi.key) hin2 hxk (fun e => h57 (by rw [e]))⟩, M8⟩
       ·omega
     ·refine cR (cZ (cX (eQ (dE (aC (aA ?_))))))
      refine aY rfl rfl (wq (bU rfl rfl (by omega) (by omega)) rfl (bP rfl rfl (aB ?_)))
      refine cS (i + 1) (bR rfl eZ) (cV rfl (cV rfl (cV rfl (cV rfl jQ)))) ?_ ?_
      ·exact ⟨⟨by omega, aSh hne hxi (fun j x hj hx => hin2 j x (by omega) hx)⟩, hM7⟩
      ·omega
    ·have hkeys := aBo (l := xs) (fun p q x y h1 h2 => hne p q x y h1 (by omega))
     obtain ⟨kk, hkk⟩ : ∃ kk : Nat, kk = f % n := ⟨_, rfl⟩
     have hkl : kk < n := by rw [hkk]; exact Nat.mod_lt _ (by omega)
     have hsame := aSj (rS xs kk bk) hkeys (by omega)
     have hpl := aPw xs kk bk
     have hkeys2 : fL (tH xs kk bk) := hkeys.perm (rS xs kk bk)
     refine cR (cZ (cX (eQ (aC (aD (aA (bX aVu rfl rfl (oY _ (F.mem hM6) (N.mem hM6) none 0 0 [] (OpsRd.none _) (by simp) (by decide)) ?_)))))))
     rintro v9 w9 ⟨wb, r0, rfl, hr0, hM9⟩
     have M9 : Mem _ _ [_, _, _] _ := hM6.call0 hM9
     have hr0 : bY 39 r0 [] := hr0
     refine wq (aI (.pointer _) rfl) rfl (aB (aC (aD (aA (bX aVu rfl rfl (oY _ (F.mem M9) (N.mem M9) none 0 0 [] (OpsRd.none _) (by simp) (by decide)) ?_)))))
     rintro v10 w10 ⟨wb2, r0b, rfl, hr0b, hM10⟩
     have M10 : Mem _ _ [_, _, _, _, _, _] _ := M9.call0 hM10
     have hr0b : bY 39 r0b [] := hr0b
     refine wq (aI (.pointer _) rfl) rfl (aB (aC (aD (aD (aA (bP rfl rfl (aB (aC (aS (dK (σ := Nat × StV) [0, 1, 2, 3, 11, 12] (fun (j, r) => [(13, .int .i64 (j : Int))]) (fun (j, r) w' => (j ≤ n ∧ bY 39 r (wY (xs.take j))) ∧ Mem w [] [(some wb, bc [.slice r.A r.n r.c, .map r.p] 107), r.er, r.em, (some wb2, bc [.slice r0b.A r0b.n r0b.c, .map r0b.p] 107), r0b.er, r0b.em] w') (fun (j, r) => n - j) (0, r0) (bR rfl eZ) (⟨⟨by omega, hr0⟩, M10⟩) ?_))))))))))
     rintro ⟨j, r⟩ ρ11 w11 ⟨⟨hj, hr⟩, hM11⟩
     refine aD (aD (aA (aY rfl rfl (eG rfl rfl (wq (cP Tryz.underlying29 rfl) rfl (dA rfl rfl rfl rfl (aB (aC ?_))))))))
     refine aZ rfl (fun h63 => ?_) (fun h63 => ?_)
     ·obtain ⟨xb, hxb⟩ := cI (xs := xs) (k := j) hlen (by omega)
      refine aK (aC (aD (aS (aD (bO [(0, 0), (1, 0), (2, 0), (3, 1), (4, 1), (6, 0), (7, 0), (8, 1), (9, 1), (5, 2), (10, 2), (11, 0)] mixed rfl (by kernel_rfl) (fun w12 hb12 hh12 => ?_))))))
      have M12 := hM11.drew hb12 hh12
      refine aV rfl rfl rfl (fun _ => aG (.pointer _) rfl) (oF rfl rfl rfl (fV rfl rfl rfl (bV rfl rfl rfl (bN (j) dW rfl rfl rfl ((R.mem M12).below_len (aJ aF hxb)) ((R.mem M12).someK (aJ aF hxb))) (bV rfl rfl rfl (dC _ bS (R.mem M12) (aJ aF hxb) rfl) (oF rfl rfl rfl ?_)))))
      refine fV rfl rfl rfl (bV rfl rfl rfl (bN (j) dW rfl rfl rfl ((R.mem M12).below_len (aJ aF hxb)) ((R.mem M12).someK (aJ aF hxb))) (bV rfl rfl rfl (dC _ bS (R.mem M12) (aJ aF hxb) rfl) (dG [false, false, true, true] rfl (by kernel_rfl) (bX aOd rfl rfl (qL _ _ r _ hr (M12.ownSeg 0 3) xb (hin xb (List.mem_of_getElem? hxb))) ?_))))
      rintro v13 w13 ⟨r2, rfl, hr2, hM13⟩
      have M13 : Mem _ _ [_, _, _, _, _, _] _ := M12.seg 0 3 hM13
      refine aB (aC ⟨(eF (bK rfl (dC _ bS (R.mem M13) (aJ aF hxb) rfl)) (eF (bK rfl (bN (j) dW rfl rfl rfl ((R.mem M13).below_len (aJ aF hxb)) ((R.mem M13).someK (aJ aF hxb)))) dH)), ?_⟩)
      refine dG [true, true] rfl (by kernel_rfl) (bX aTo rfl rfl (qI _ xb) ?_)
      rintro v14 w14 ⟨rfl, hb14⟩
      have M14 := M13.callB hb14
      refine aB (aC ⟨dH, ?_⟩)
      refine aV rfl rfl rfl (fun _ => dO (.bool (decide _)) rfl rfl rfl) (fH 77 (.bool false) (bF (fun h => h (yO hkeys (by omega) hxb))).symm (cD (aC (cB rfl (aK ?_)))))
      refine dE (aC (aA (aY rfl rfl (wq (bU rfl rfl (by omega) (by omega)) rfl (bP rfl rfl (aB ?_))))))
      refine cS (j + 1, r2) (bR rfl eZ) (cV rfl (cV rfl (cV rfl (cV rfl (cV rfl (cV rfl jQ)))))) ?_ ?_
      ·exact ⟨⟨by omega, by rw [uU hxb]; exact hr2⟩, M14⟩
      ·(show n - (j + 1) < n - j; omega)
     ·have hjn : j = n := by omega
      rw [hjn, List.take_of_length_le (by omega)] at hr
      refine cR (cZ (cX (eQ (aC (aD (aD (aA (bP rfl rfl ?_))))))))
      refine aB (aC (aS (dK (σ := Nat × StV) [0, 1, 2, 3, 11, 12] (fun (j, r') => [(14, .int .i64 (j : Int))]) (fun (j, r') w' => (j ≤ n ∧ bY 39 r' (wY ((tH xs kk bk).take j))) ∧ Mem w [] [(some wb, bc [.slice r.A r.n r.c, .map r.p] 107), r.er, r.em, (some wb2, bc [.slice r'.A r'.n r'.c, .map r'.p] 107), r'.er, r'.em] w') (fun (j, r') => n - j) (0, r0b) (bR rfl eZ) (⟨⟨by omega, hr0b⟩, hM11⟩) ?_)))
      rintro ⟨j, r'⟩ ρ15 w15 ⟨⟨hj2, hr'⟩, hM15⟩
      refine aD (aD (aA (aY rfl rfl (eG rfl rfl (wq (cP Tryz.underlying29 rfl) rfl (dA rfl rfl rfl rfl (aB (aC ?_))))))))
      refine aZ rfl (fun h81 => ?_) (fun h81 => ?_)
      ·obtain ⟨q, hq⟩ : ∃ q : Nat, q = (j + f) % n := ⟨_, rfl⟩
       have hql : q < n := by rw [hq]; exact Nat.mod_lt _ (by omega)
       have hqk : q = (j + kk) % n := by rw [hq, hkk, Nat.add_mod_mod]
       refine aK (aC (aD (aS (aD (aA (aY rfl rfl (aY rfl rfl (wq (bZ us5 Tryz.underlying3 rfl (kQ _ (by omega) (by omega))) rfl (wq (bU rfl rfl (by omega) (by omega)) rfl (aT 87 (.int .i64 ((j + f : Nat) : Int)) (iE (by omega)) ?_))))))))))
       refine eG rfl rfl (wq (cP Tryz.underlying29 rfl) rfl (wq (aUx rfl rfl (by omega)) rfl (aT 90 (.int .i64 (q : Int)) (iE (aXv rfl hq)) (bP rfl rfl (aB (aC (aD (aD (aA ?_)))))))))
       refine wq (aG (.bool _) rfl) rfl (aB (aC ?_))
       refine gR _ rfl (fun h91 => ?_) (fun h91 => ?_)
       ·obtain ⟨yb, hyq⟩ := cI (xs := xs) (k := n - 1 - q) hlen (by omega)
        have hbk : bk = true := by simpa using h91
        have hyb : (tH xs kk bk)[j]? = some yb := by rw [hbk, aPm (by omega) (by omega), hlen, ← hqk]; exact hyq
        refine aA (eG rfl rfl (wq (cP Tryz.underlying29 rfl) rfl (wq (mD rfl rfl (by omega) (by omega)) rfl (aY rfl rfl (wq (mD rfl rfl (by omega) (by omega)) rfl ?_)))))
        refine aT 96 (.int .i64 ((n - 1 - q : Nat) : Int)) (iE (by omega)) (bP rfl rfl (aB (aC (aD (bO [(0, 0), (1, 0), (2, 0), (3, 1), (4, 1), (6, 0), (7, 0), (8, 1), (9, 1), (5, 2), (10, 2), (11, 0)] mixed rfl (by kernel_rfl) (fun w16 hb16 hh16 => ?_))))))
        have M16 := hM15.drew hb16 hh16
        refine aV rfl rfl rfl (fun _ => aG (.pointer _) rfl) (oF rfl rfl rfl (fV rfl rfl rfl (bV rfl rfl rfl (bN ((n - 1 - q)) dW rfl rfl rfl ((R.mem M16).below_len (aJ aF hyq)) ((R.mem M16).someK (aJ aF hyq))) (bV rfl rfl rfl (dC _ bS (R.mem M16) (aJ aF hyq) rfl) ?_))))
        refine oF rfl rfl rfl (fV rfl rfl rfl (bV rfl rfl rfl (bN ((n - 1 - q)) dW rfl rfl rfl ((R.mem M16).below_len (aJ aF hyq)) ((R.mem M16).someK (aJ aF hyq))) (bV rfl rfl rfl (dC _ bS (R.mem M16) (aJ aF hyq) rfl) (dG [false, false, true, true] rfl (by kernel_rfl) ?_))))
        refine bX aOd rfl rfl (qL _ _ r' _ hr' (M16.ownSeg 3 3) yb (hin yb (List.mem_of_getElem? hyq))) ?_
        rintro v17 w17 ⟨r3, rfl, hr3, hM17⟩
        have M17 : Mem _ _ [_, _, _, _, _, _] _ := M16.seg 3 3 hM17
        refine aB (aC ⟨(eF (bK rfl (dC _ bS (R.mem M17) (aJ aF hyq) rfl)) (eF (bK rfl (bN ((n - 1 - q)) dW rfl rfl rfl ((R.mem M17).below_len (aJ aF hyq)) ((R.mem M17).someK (aJ aF hyq)))) dH)), ?_⟩)
        refine dG [true, true] rfl (by kernel_rfl) (bX aTo rfl rfl (qI _ yb) ?_)
        rintro v18 w18 ⟨rfl, hb18⟩
        have M18 := M17.callB hb18
        refine aB (aC ⟨dH, ?_⟩)
        refine aV rfl rfl rfl (fun _ => dO (.bool (decide _)) rfl rfl rfl) (fH 108 (.bool false) (bF (fun h => h (yO hkeys2 (by omega) hyb))).symm (cD (aC (cB rfl (aK ?_)))))
        refine dE (aC (aA (aY rfl rfl (wq (bU rfl rfl (by omega) (by omega)) rfl (bP rfl rfl (aB ?_))))))
        refine cS (j + 1, r3) (bR rfl eZ) (cV rfl (cV rfl (cV rfl (cV rfl (cV rfl (cV rfl jQ)))))) ?_ ?_
        ·exact ⟨⟨by omega, by rw [uU hyb]; exact hr3⟩, M18⟩
        ·(show n - (j + 1) < n - j; omega)
       ·obtain ⟨yb, hyq⟩ := cI (xs := xs) (k := q) hlen hql
        have hbk : bk = false := by simpa using h91
        have hyb : (tH xs kk bk)[j]? = some yb := by rw [hbk, aTu (by omega) (by omega), hlen, ← hqk]; exact hyq
        refine aK (aC (aD (bO [(0, 0), (1, 0), (2, 0), (3, 1), (4, 1), (6, 0), (7, 0), (8, 1), (9, 1), (5, 2), (10, 2), (11, 0)] mixed rfl (by kernel_rfl) (fun w19 hb19 hh19 => ?_))))
        have M19 := hM15.drew hb19 hh19
        refine aV rfl rfl rfl (fun _ => aG (.pointer _) rfl) (oF rfl rfl rfl (fV rfl rfl rfl (bV rfl rfl rfl (bN (q) dW rfl rfl rfl ((R.mem M19).below_len (aJ aF hyq)) ((R.mem M19).someK (aJ aF hyq))) (bV rfl rfl rfl (dC _ bS (R.mem M19) (aJ aF hyq) rfl) (oF rfl rfl rfl ?_)))))
        refine fV rfl rfl rfl (bV rfl rfl rfl (bN (q) dW rfl rfl rfl ((R.mem M19).below_len (aJ aF hyq)) ((R.mem M19).someK (aJ aF hyq))) (bV rfl rfl rfl (dC _ bS (R.mem M19) (aJ aF hyq) rfl) (dG [false, false, true, true] rfl (by kernel_rfl) (bX aOd rfl rfl (qL _ _ r' _ hr' (M19.ownSeg 3 3) yb (hin yb (List.mem_of_getElem? hyq))) ?_))))
        rintro v20 w20 ⟨r3, rfl, hr3, hM20⟩
        have M20 : Mem _ _ [_, _, _, _, _, _] _ := M19.seg 3 3 hM20
        refine aB (aC ⟨(eF (bK rfl (dC _ bS (R.mem M20) (aJ aF hyq) rfl)) (eF (bK rfl (bN (q) dW rfl rfl rfl ((R.mem M20).below_len (aJ aF hyq)) ((R.mem M20).someK (aJ aF hyq)))) dH)), ?_⟩)
        refine dG [true, true] rfl (by kernel_rfl) (bX aTo rfl rfl (qI _ yb) ?_)
        rintro v21 w21 ⟨rfl, hb21⟩
        have M21 := M20.callB hb21
        refine aB (aC ⟨dH, ?_⟩)
        refine aV rfl rfl rfl (fun _ => dO (.bool (decide _)) rfl rfl rfl) (fH 108 (.bool false) (bF (fun h => h (yO hkeys2 (by omega) hyb))).symm (cD (aC (cB rfl (aK ?_)))))
        refine dE (aC (aA (aY rfl rfl (wq (bU rfl rfl (by omega) (by omega)) rfl (bP rfl rfl (aB ?_))))))
        refine cS (j + 1, r3) (bR rfl eZ) (cV rfl (cV rfl (cV rfl (cV rfl (cV rfl (cV rfl jQ)))))) ?_ ?_
        ·exact ⟨⟨by omega, by rw [uU hyb]; exact hr3⟩, M21⟩
        ·(show n - (j + 1) < n - j; omega)
      ·have hjn2 : j = n := by omega
       rw [hjn2, List.take_of_length_le (by omega), ← hsame] at hr'
       refine cR (cZ (cX (eQ (aC (aD (aA (eG rfl rfl ?_)))))))
       refine bX bJi rfl rfl (aHl _ OA on oc l (hl.mem hM15) (by omega)) ?_
       rintro v22 w22 ⟨q1, rfl, hq1, hM22⟩
       have M22 : Mem _ _ [_, _, _, _, _, _, _] _ := hM15.call0 hM22
       have hq1n : (l).length = q1.n := by simpa using hq1.1
       refine fP rfl rfl (aB (aC (aD (aD (aA (bP rfl rfl (aB (aC (aS (dK (σ := Nat × StV × StV) [11, 12, 16] (fun (i, r, r') => [(17, .int .i64 (i : Int))]) (fun (i, r, r') w' => (i ≤ on ∧ bY 39 r (rC (wY xs) ((rE l).take i)) ∧ bY 39 r' (rC (wY xs) ((rE l).take i))) ∧ Mem w [] [(some wb, bc [.slice r.A r.n r.c, .map r.p] 107), r.er, r.em, (some wb2, bc [.slice r'.A r'.n r'.c, .map r'.p] 107), r'.er, r'.em, q1.e] w') (fun (i, r, r') => on - i) (0, r, r') (bR rfl eZ) (⟨⟨by omega, hr, hr'⟩, M22⟩) ?_))))))))))
       rintro ⟨i, r, r'⟩ ρ23 w23 ⟨⟨hi, hr, hr'⟩, hM23⟩
       refine aD (aD (aA (aY rfl rfl (eG rfl rfl (wq (cP Tryz.underlying27 rfl) rfl (dA rfl rfl rfl rfl (aB (aC ?_))))))))
       refine aZ rfl (fun h114 => ?_) (fun h114 => ?_)
       ·obtain ⟨x, hx⟩ := cI (xs := l) (k := i) hol (by omega)
        have hxm := List.mem_of_getElem? hx
        have hP := hl.each x hxm
        have hxo := aMt hx
        refine aK (aC (aD (aS (aD (bO [(0, 0), (1, 0), (2, 0), (3, 1), (4, 1), (6, 0), (7, 0), (8, 0), (9, 1), (10, 1), (5, 2), (11, 2), (12, 2), (13, 0), (14, 0), (15, 0), (17, 0), (16, 2), (18, 2), (19, 2), (20, 0), (21, 0)] mixed rfl (by kernel_rfl) (fun w24 hb24 hh24 => ?_))))))
        have M24 := hM23.drew hb24 hh24
        refine aV rfl rfl rfl (fun _ => aG (.pointer _) rfl) (oF rfl rfl rfl (fV rfl rfl rfl (bV rfl rfl rfl (bN (i) aLm rfl rfl rfl ((hq1.rd M24 (aX (i := 6) rfl)).below_len (aJ OpRow.cells hx)) ((hq1.rd M24 (aX (i := 6) rfl)).someK (aJ OpRow.cells hx))) (bV rfl rfl rfl (dC _ mE (hq1.rd M24 (aX (i := 6) rfl)) (aJ OpRow.cells hx) rfl) ?_))))
        refine fH 121 (.agg (eL x.o x.A x.n x.c).toArray) rfl (aV rfl rfl rfl (fun _ => aG (.pointer _) rfl) (oF rfl rfl rfl (fV rfl rfl rfl (bV rfl rfl rfl (bN (i) aLm rfl rfl rfl ((hq1.rd M24 (aX (i := 6) rfl)).below_len (aJ OpRow.cells hx)) ((hq1.rd M24 (aX (i := 6) rfl)).someK (aJ OpRow.cells hx))) ?_))))
        refine bV rfl rfl rfl (dC _ mE (hq1.rd M24 (aX (i := 6) rfl)) (aJ OpRow.cells hx) rfl) (fH 127 (.agg (eL x.o x.A x.n x.c).toArray) rfl (dG [false, false, true, true] rfl (by kernel_rfl) (bX aTz rfl rfl (vA _ (F.mem M24) (N.mem M24) _ r _ hr (M24.ownSeg 0 3) x.o x.A x.n x.c (hP.mem M24) (hby2 x hxm) (M24.away 0 3 hP.rd (by simp)) (M24.away 0 3 F (by simp)) (M24.away 0 3 N (by simp))) ?_)))
        rintro v25 w25 ⟨r2, p1, rfl, hr2, hp1, hM25⟩
        have M25 : Mem _ _ [_, _, _, _, _, _, _, _] _ := M24.seg 0 3 hM25
        refine aB (aC ⟨(eF (bK rfl (dC _ mE (hq1.rd M25 (aX (i := 6) rfl)) (aJ OpRow.cells hx) rfl)) (eF (bK rfl (bN (i) aLm rfl rfl rfl ((hq1.rd M25 (aX (i := 6) rfl)).below_len (aJ OpRow.cells hx)) ((hq1.rd M25 (aX (i := 6) rfl)).someK (aJ OpRow.cells hx)))) dH)), ?_⟩)
        refine dG [true, true] rfl (by kernel_rfl) (bX aTz rfl rfl (vA _ (F.mem M25) (N.mem M25) _ r' _ hr' (M25.ownSeg 3 3) x.o x.A x.n x.c (hP.mem M25) (hby2 x hxm) (M25.away 3 3 hP.rd (by simp)) (M25.away 3 3 F (by simp)) (M25.away 3 3 N (by simp))) ?_)
        rintro v26 w26 ⟨r3, p2, rfl, hr3, hp2, hM26⟩
        have M26 : Mem _ _ [_, _, _, _, _, _, _, _, _] _ := M25.seg 3 3 hM26
        refine aB (aC ⟨dH, ?_⟩)
        refine dG [] rfl (by kernel_rfl) (bX bIu rfl rfl (aRj _ _ p1 p2 (hp1.rd M26 (aX (i := 7) rfl)) (hp2.rd M26 (aX (i := 8) rfl))) ?_)
        rintro v27 w27 ⟨rfl, hb27⟩
        have M27 := M26.callB hb27
        refine aB (aC ⟨dH, ?_⟩)
        refine aV rfl rfl rfl (fun _ => fO false rfl rfl) (aV rfl rfl rfl (fun _ => aG (.bool false) rfl) (aV rfl rfl rfl (fun _ => aG (.pointer _) rfl) (aV rfl rfl rfl (fun _ => aG (.pointer _) rfl) (dG [] rfl (by kernel_rfl) (bX aCn rfl rfl (gC _ _ r2 _ hr2 (M27.ownSeg 0 3)) ?_)))))
        rintro v28 w28 ⟨s1, rfl, hs1, hM28⟩
        have M28 : Mem _ _ [_, _, _, _, _, _, _, _, _, _] _ := M27.seg 0 3 hM28
        refine aB (aC ⟨dH, ?_⟩)
        refine dG [] rfl (by kernel_rfl) (bX aCn rfl rfl (gC _ _ r3 _ hr3 (M28.ownSeg 3 3)) ?_)
        rintro v29 w29 ⟨s2, rfl, hs2, hM29⟩
        have M29 : Mem _ _ [_, _, _, _, _, _, _, _, _, _, _] _ := M28.seg 3 3 hM29
        refine aB (aC ⟨dH, ?_⟩)
        refine dG [] rfl (by kernel_rfl) (bX aWa rfl rfl (rV _ _ _ _ _ (hs1.rd M29 (aX (i := 9) rfl)) _ _ _ _ (hs2.rd M29 (aX (i := 10) rfl))) ?_)
        rintro v30 w30 ⟨rfl, hb30⟩
        have M30 := M29.callB hb30
        refine aB (aC ⟨dH, ?_⟩)
        refine fH 136 (.bool true) (bT rfl).symm (aV rfl rfl rfl (fun _ => fO false rfl rfl) (aV rfl rfl rfl (fun _ => bQ false (.bool false) rfl rfl) (cD (aC (cB rfl ?_)))))
        refine aK (dE (aC (aA (aY rfl rfl (wq (bU rfl rfl (by omega) (by omega)) rfl (bP rfl rfl ?_))))))
        refine aB ?_
        refine cS (i + 1, r2, r3) (bR rfl eZ) (cV rfl (cV rfl (cV rfl jQ))) ?_ ?_
        ·exact ⟨⟨by omega, by rw [uR hxo]; exact hr2, by rw [uR hxo]; exact hr3⟩, M30.keep [true, true, true, true, true, true, true, false, false, false, false]⟩
        ·(show on - (i + 1) < on - i; omega)
       ·refine cR (cZ (cX (eQ (aC (aD (aA (wq (aG (.pointer _) rfl) rfl ?_)))))))
        refine bX aCn rfl rfl (gC _ _ r _ hr (hM23.ownSeg 0 3)) ?_
        rintro v31 w31 ⟨s1, rfl, hs1, hM31⟩
        have M31 : Mem _ _ [_, _, _, _, _, _, _, _] _ := hM23.seg 0 3 hM31
        refine wq (aG (.pointer _) rfl) rfl (bX aCn rfl rfl (gC _ _ r' _ hr' (M31.ownSeg 3 3)) ?_)
        rintro v32 w32 ⟨s2, rfl, hs2, hM32⟩
        have M32 : Mem _ _ [_, _, _, _, _, _, _, _, _] _ := M31.seg 3 3 hM32
        refine bX aWa rfl rfl (rV _ _ _ _ _ (hs1.rd M32 (aX (i := 7) rfl)) _ _ _ _ (hs2.rd M32 (aX (i := 8) rfl))) ?_
        rintro v33 w33 ⟨rfl, hb33⟩
        have M33 := M32.callB hb33
        refine rI 143 rfl rfl (wq (aI (.bool true) rfl) rfl (aB (aC (aM (bW (.bool true) rfl ?_)))))
        exact ⟨rfl, M33.below⟩
namespace wholePermuted
open Go.ChangeShapes Go.WideShapes Go.ChangeAt Go.RowKit
open Go.ChangeMaps (open_string shut_string)
theorem own : ownKnob Tryz.prog.godebug = none := by kernel_rfl
theorem laidOut : laidOutB Tryz.prog = true := by kernel_rfl
set_option maxRecDepth 100000 in
theorem lifted (os : Os) (started : os.Started) (H : Type) (enc : TypeId × Value → H) :
  ReturnsInHanded {} Tryz.checked os 4 .any (fun w args => (Rows.wholePermutedSpec.pre enc Tryz.prog Tryz.f4 [] false w args ∧ laidMet Tryz.prog aAn w) ∧ sizedMet enc Tryz.prog Tryz.f4 (OpenSpec.ofChange Rows.wholePermutedSpec) false w args) (Rows.wholePermutedSpec.post enc Tryz.prog Tryz.f4 false true false false) := by
 refine returnsInHanded_of_change_and (C := Tryz.checked) (X := fun w _ => laidMet Tryz.prog aAn w) (fun _ _ _ hh h => h.of_heap hh) own started (by kernel_rfl) Tryz.func4
  (ChangeSpec.witness_at (enc := enc) (C := Tryz.checked) (os := os) (X := fun w _ => laidMet Tryz.prog aAn w) false (aRf os) #[.slice none 0 0, .int .u8 0, .bool false, .slice none 0 0] 8 rfl (by kernel_rfl) (by kernel_rfl) (by kernel_rfl) (by kernel_rfl) (by kernel_rfl) (laidMet_of_run' 8 (by kernel_rfl) (by kernel_rfl))) ?_
 intro W base args ds gs before hval0 hW hcnd hsz0 hL _
 have hsz : (DataW.weightsEach Tryz.prog (Tryz.f4.params.toList ++ Rows.wholePermutedSpec.plain.varTypes Tryz.prog) (ds ++ gs)).all (· ≤ reachBytes) = true := hsz0
 have hval : ∀ (j : Nat) t v, Tryz.f4.params[j]? = some t → args[j]? = some v → Value.okWide Tryz.prog W .any base t v := hval0
 have hW' := hW
 obtain ⟨p, q, hA0, hV, rfl, hfz, hnd⟩ := hW
 have hA : DataW.TrodAll enc Tryz.prog W 0 (fun _ => true) true Tryz.f4.params.toList args.toList ds p := hA0
 rw [Tryz.params4] at hA hval hsz
 obtain ⟨v0, vs0, d0, ds0, p0, q0, hargs, rfl, rfl, h0, r0⟩ := trodAll_cons hA
 obtain ⟨v1, vs1, d1, ds1, p1, q1, rfl, rfl, rfl, h1, r1⟩ := trodAll_cons r0
 obtain ⟨v2, vs2, d2, ds2, p2, q2, rfl, rfl, rfl, h2, r2⟩ := trodAll_cons r1
 obtain ⟨v3, vs3, d3, ds3, p3, q3, rfl, rfl, rfl, h3, r3⟩ := trodAll_cons r2
 obtain ⟨rfl, rfl, rfl⟩ := trodAll_nil r3
 obtain rfl : args = #[v0, v1, v2, v3] := by cases args; simp_all
 obtain ⟨rfl, rfl⟩ := trodVars_none hV
 have k0 := h0
 have lt0 : ∀ x ∈ p0, x.block < W.heap.size := by obtain ⟨m, hm⟩ := k0; exact DataW.trod_lt m _ _ _ hm
 obtain ⟨a0, len0, cap0, rfl⟩ := okWide_slice Tryz.underlying29 (hval 0 29 v0 rfl rfl)
 have y0 := aKg hsz (j := 0) (t := 29) rfl rfl dW h0
 obtain ⟨ls0, R0, hi0⟩ := aCk dW aXa rfl y0 h0
 obtain ⟨xs0, rfl, hx0⟩ := aEu aWk ls0 hi0
 obtain ⟨a1, rfl, rfl, rfl, w1⟩ := open_int Tryz.underlying5 (hval 1 5 v1 rfl rfl) h1
 have b1 : 0 ≤ a1 ∧ a1 ≤ 255 := aSy w1
 obtain ⟨a2, rfl, rfl, rfl⟩ := open_bool Tryz.underlying4 (hval 2 4 v2 rfl rfl) h2
 have k3 := h3
 have lt3 : ∀ x ∈ p3, x.block < W.heap.size := by obtain ⟨m, hm⟩ := k3; exact DataW.trod_lt m _ _ _ hm
 obtain ⟨a3, len3, cap3, rfl⟩ := okWide_slice Tryz.underlying22 (hval 3 22 v3 rfl rfl)
 have y3 : ∀ n ∈ d3.weights Tryz.prog 22, n ≤ reachBytes := fun n hn => by simpa using List.all_eq_true.1 hsz _ (DataW.weights_mem_each (j := 3) rfl rfl n hn)
 obtain ⟨xs3, R3⟩ := aYd aIf bJj y3 h3
 clear hA0 hval0 hsz0 hsz
 obtain ⟨t1, rfl⟩ := Int.eq_ofNat_of_zero_le b1.1
 refine (tG W (rdF hL) (rdN hL) _ _ _ xs0 R0 hx0 t1 (by omega) a2 _ _ _ xs3 R3).mono fun e W' ⟨v, he, hv, bel⟩ => ?_
 subst he
 subst hv
 exact ⟨_, rfl, _, _, _, [], _, [], hW', trodAll_mk1 (shut_bool Tryz.underlying4 _), (trodAll_cons_mk (Below.trod laidOut (by kernel_rfl) (of_decide_eq_true (by kernel_rfl)) k0 bel lt0) (trodAll_cons_mk (shut_int Tryz.underlying5 w1) (trodAll_cons_mk (shut_bool Tryz.underlying4 _) (trodAll_cons_mk (Below.trod laidOut (by kernel_rfl) (of_decide_eq_true (by kernel_rfl)) k3 bel lt3) trodAll_mk0)))), rfl, bel.frame _, fun h => by cases h⟩
theorem andT {a b : Bool} (ha : a = true) (hb : b = true) : (a && b) = true := by rw [ha, hb]; rfl
set_option maxHeartbeats 16000000 in
theorem closed : joinedFacts Tryz.prog 4 Tryz.f4 Rows.wholePermutedSpec Rows.wholePermutedRow = true := by
 unfold joinedFacts
 repeat' (with_reducible refine andT ?_ ?_)
 all_goals (as_aux_lemma => kernel_rfl)
theorem over : Rows.wholePermutedRow.holds Tryz.pinned (OpenSpec.ofChange Rows.wholePermutedSpec) :=
 OpenClaim.holds_of_wide 4 Tryz.f4 rfl rfl rfl rfl rfl rfl rfl ⟨rfl, rfl, rfl, rfl, rfl⟩ rfl rfl rfl rfl rfl (by kernel_rfl) Tryz.func4 closed
  (of_decide_eq_true (by kernel_rfl)) (by unfold Func.isWrapper; first | (rw [if_pos (by decide +kernel)]; kernel_rfl) | (rw [if_neg (by decide +kernel)]; exact ⟨rfl, rfl⟩))
  (fun os started H enc _ => lifted os started H enc)
end wholePermuted
theorem wholePermuted_holds : Rows.WholePermutedSaid := wholePermuted.over
#print axioms wholePermuted_holds
theorem wholePermuted_cw : Rows.wholePermutedRow.wfByText (OpenSpec.ofChange Rows.wholePermutedSpec) = true := by kernel_rfl
theorem wholePermuted_cl : false = Tryz.checked.prog.looks [] := by kernel_rfl
theorem wholePermuted_cg : false = Rows.wholePermutedRow.goesBy Tryz.pinned.checked.prog := by kernel_rfl
theorem wholePermuted_cm : Tryz.pinned.checked.prog.mainIs = some (true, "60fad30dfb67d9dd14e679b449d58df77fa72712b07425b57b34720f96154737".toList) := by kernel_rfl
theorem wholePermuted_cf : Tryz.prog.funcNamed "billiard/billiardtop.WholePermuted" = some 4 := by kernel_rfl
theorem wholePermuted_card : Rows.WholePermutedCardSaid :=
 Claim7.holds_tied_plain_at .later [] [.data, .data] true (true, "60fad30dfb67d9dd14e679b449d58df77fa72712b07425b57b34720f96154737") false
  wholePermuted_holds (fun _ h => by cases h) wholePermuted_cw (fun _ h => by cases h) wholePermuted_row_tie rfl ⟨rfl, rfl⟩ wholePermuted_cm rfl
  (fun f fn hf hfn => by
   obtain rfl : f = 4 := Option.some.inj (wholePermuted_cf.symm.trans hf) |>.symm
   obtain rfl : fn = Tryz.f4 := (Option.some.inj (Tryz.func4.symm.trans hfn)).symm
   exact ⟨wholePermuted_cl, fun j t ht => by
    rw [Tryz.params4] at ht
    have hm : t ∈ [29, 5, 4, 22] := by simpa using Array.mem_of_getElem? ht
    have hall : ([29, 5, 4, 22].all fun u => !Tryz.prog.wantsStandIn u) = true := by kernel_rfl
    exact (show Tryz.prog.wantsStandIn t = false by simpa using List.all_eq_true.1 hall t hm)⟩)
  wholePermuted_cg
#print axioms wholePermuted_card
end Go.Proofs.YtaoaknafiegfoaaGreatDoor
