import Derived.Test.YtlmcphcgiclanaaGreatDoorK5
import Derived.Test.YtlmcphcgiclanaaGreatDoorK31
import Derived.Test.YtlmcphcgiclanaaGreatDoorRows
import Derived.Test.YtlmcphcgiclanaaGreatDoorK32
import Derived.Test.YtlmcphcgiclanaaGreatDoorTie
import Derived.Test.YtlmcphcgiclanaaGreatDoorCards
import Derived.WalkKit
import Derived.ProofKit
import Derived.OpenShut
import Derived.ShutString
import Derived.ChangeOld
import Derived.Below
import Derived.SizedLaws
set_option linter.unusedVariables false
set_option linter.unusedSimpArgs false
set_option linter.unnecessarySimpa false
namespace Go.Proofs.YtlmcphcgiclanaaGreatDoor
open Go.Bil
open Go.RowKit (Below)
open Go.Proofs
set_option maxHeartbeats 16000000 in
theorem vX (w : World) (F : Rd w 2 (some ⟨0, 0, none⟩) 1 [[.int .u32 73856093, .int .u32 19349663]]) (N : Rd w 4 (some ⟨3, 0, none⟩) 1 [cT iJ]) (f : Nat) (hf : f ≤ 255) (A : Option Addr) (n c : Nat) (xs : List Body) (R : Rd w 10 A n (xs.map aG)) :
    Calls Tryz.prog 6 #[.slice A n c, .int .u8 (f : Int)] w (fun ex w' => ∃ v, ex = .returned v ∧ (fun v w' => v = .bool true ∧ Below w.heap.size w w') v w') := by
  have hlen : xs.length = n := by simpa using R.len
  have hbd := R.bound
  refine aK #[.tmp 4] 100 Tryz.func6 rfl Tryz.results6 Tryz.ntmps6 rfl ?_
  have M0 := Mem.refl w
  refine aH (aB ?_)
  refine aA (aE (.bool false) rfl) rfl rfl ?_
  refine aD (aF (aH (aB ?_)))
  refine aA (aC (.slice _ _ _) rfl) rfl rfl ?_
  refine aL aYf rfl rfl rfl ?_
  refine (aFs _ _ _ _ xs (R.mem M0)).mono ?_
  rintro _ w1 ⟨v1, rfl, ⟨r, rfl, hr, hM1⟩⟩
  refine ⟨_, rfl, ?_⟩
  have M1 : Mem _ _ [_] _ := M0.call0 hM1
  refine aA (aC (.tuple (List.toArray _)) rfl) rfl rfl ?_
  refine aA (bB (.slice _ _ _) rfl rfl) rfl rfl ?_
  refine aA (bB (.bool (decide _)) rfl rfl) rfl rfl ?_
  refine aA (aE (.slice _ _ _) rfl) rfl rfl ?_
  refine aA (aE (.bool (decide _)) rfl) rfl rfl ?_
  refine aD (aF (aH (aH (aB ?_))))
  refine aL aPf rfl rfl rfl ?_
  refine (aUr _ (F.mem M1) (N.mem M1)).mono ?_
  rintro _ w2 ⟨v2, rfl, ⟨rfl, hb2⟩⟩
  refine ⟨_, rfl, ?_⟩
  have M2 := M1.callB hb2
  refine aA (kO false rfl rfl) rfl rfl ?_
  refine aA (aC (.bool false) rfl) rfl rfl ?_
  refine aA (aC (.bool (decide _)) rfl) rfl rfl ?_
  refine aA (oS rfl) rfl rfl ?_
  refine aA (bI false (.bool (decide _)) rfl rfl) rfl rfl ?_
  refine aA (aC (.bool (decide _)) rfl) rfl rfl ?_
  refine cW 24 rfl (fun g24 => ?_) (fun g24 => ?_)
  · refine aN rfl rfl ?_
    refine aN rfl rfl ?_
    refine aN rfl rfl ?_
    refine aA (bI true (.bool true) rfl rfl) rfl rfl ?_
    refine aD (aF ?_)
    refine dS rfl ?_
    refine aH (aB ?_)
    refine aL aPf rfl rfl rfl ?_
    refine (aUr _ (F.mem M2) (N.mem M2)).mono ?_
    rintro _ w3 ⟨v3, rfl, ⟨rfl, hb3⟩⟩
    refine ⟨_, rfl, ?_⟩
    have M3 := M2.callB hb3
    refine aA (aE (.bool true) rfl) rfl rfl ?_
    refine aD (aF (aS (cN ?_)))
    refine cG (.bool true) rfl ?_
    exact ⟨rfl, M3.below⟩
  · refine aA (aC (.slice _ _ _) rfl) rfl rfl ?_
    refine aA (bV Tryz.underlying22 rfl) rfl rfl ?_
    refine aA (aO (.bool (decide _)) rfl rfl rfl) rfl rfl ?_
    refine aA (bI false (.bool (decide _)) rfl rfl) rfl rfl ?_
    refine aD (aF ?_)
    refine aY rfl (fun h28 => ?_) (fun h28 => ?_)
    · refine aH (aB ?_)
      refine aL aPf rfl rfl rfl ?_
      refine (aUr _ (F.mem M2) (N.mem M2)).mono ?_
      rintro _ w4 ⟨v4, rfl, ⟨rfl, hb4⟩⟩
      refine ⟨_, rfl, ?_⟩
      have M4 := M2.callB hb4
      refine aA (aE (.bool true) rfl) rfl rfl ?_
      refine aD (aF (aS (cN ?_)))
      refine cG (.bool true) rfl ?_
      exact ⟨rfl, M4.below⟩
    · obtain ⟨hV, hve, hvk⟩ := aRx (Decidable.not_not.1 g24)
      have hvl := hV.len
      have hrn : (dF xs).length = r.n := by simpa using hr.1
      have hvs := hV.s
      have hvo := hV.okb
      obtain ⟨kk, hkk⟩ : ∃ kk : Nat, kk = f % r.n := ⟨_, rfl⟩
      have hkl : kk < r.n := by rw [hkk]; exact Nat.mod_lt _ (by omega)
      obtain ⟨y, hy⟩ := cS (xs := (dF xs)) (k := kk) hrn hkl
      have hcap := hr.slice
      refine aP (aF (aH (aB ?_)))
      refine aA (aC (.int _ _) rfl) rfl rfl ?_
      refine aA (bW us5 Tryz.underlying3 rfl (kR _ (by omega) (by omega))) rfl rfl ?_
      refine aA (aC (.slice _ _ _) rfl) rfl rfl ?_
      refine aA (bV Tryz.underlying22 rfl) rfl rfl ?_
      refine aA (aNx rfl rfl (by omega)) rfl rfl ?_
      refine aQ 34 (.int .i64 (kk : Int)) (iE (aNo rfl hkk)) ?_
      refine aA (aE (.int _ _) rfl) rfl rfl ?_
      refine aD (aF (aH (aH (aB ?_))))
      refine aA (aC (.slice _ _ _) rfl) rfl rfl ?_
      refine aA (aC (.slice _ _ _) rfl) rfl rfl ?_
      refine aA (aC (.int _ _) rfl) rfl rfl ?_
      refine aA (bK (kk) cA rfl rfl rfl ((hr.rd M2 (aM (i := 0) rfl)).below_len (aJ aG hy)) ((hr.rd M2 (aM (i := 0) rfl)).someK (aJ aG hy))) rfl rfl ?_
      refine aA (bR 0 eG (hr.rd M2 (aM (i := 0) rfl)) (Nat.lt_of_le_of_lt (Nat.zero_le _) ((hr.rd M2 (aM (i := 0) rfl)).below_len (aJ aG hy))) rfl) rfl rfl ?_
      refine aA (fB (o := 0) (.int _ _) dD (hr.rd M2 (aM (i := 0) rfl)) (aJ aG hy) rfl rfl) rfl rfl ?_
      refine aL aYy rfl rfl rfl ?_
      refine (zF _ y.key _ _ _ (dF xs) (hr.rd M2 (aM (i := 0) rfl)) hvo).mono ?_
      rintro _ w5 ⟨v5, rfl, ⟨rfl, hb5⟩⟩
      refine ⟨_, rfl, ?_⟩
      have M5 := M2.callB hb5
      refine aA (kO _ rfl rfl) rfl rfl ?_
      refine aD (aF ?_)
      refine iV _ rfl (fun h42 => ?_) (fun h42 => ?_)
      · refine aH (aB ?_)
        refine aA (aE (.bool true) rfl) rfl rfl ?_
        refine aD (aF (aS (cN ?_)))
        refine cG (.bool true) rfl ?_
        exact ⟨rfl, M5.below⟩
      · obtain ⟨hs1, hs2⟩ := aEa hV hy (by simpa using h42)
        refine aP (aF (aH (aB ?_)))
        refine aA (aC (.slice _ _ _) rfl) rfl rfl ?_
        refine aL pQ rfl rfl rfl ?_
        refine (gG _ (F.mem M5) (N.mem M5) _ _ _ (dF xs) (hr.rd M5 (aM (i := 0) rfl)) hvo hvs (by omega)).mono ?_
        rintro _ w6 ⟨v6, rfl, ⟨ra, ta, rfl, h1ta, h2ta, hra, hM6⟩⟩
        refine ⟨_, rfl, ?_⟩
        have M6 : Mem _ _ [_, _] _ := M5.call0 hM6
        have hnra : (eP (dF xs)).length = ra.n := by simpa using hra.1
        have hkra := jB (dF xs)
        have hlra := hkra.len
        have hcapa := hra.slice
        refine aA (aC (.tuple (List.toArray _)) rfl) rfl rfl ?_
        refine aA (bB (.slice _ _ _) rfl rfl) rfl rfl ?_
        refine aA (bB (.agg (List.toArray _)) rfl rfl) rfl rfl ?_
        refine aU iY M6 rfl rfl (fun b7 w7 M7 => ?_)
        refine aA (aE (.slice _ _ _) rfl) rfl rfl ?_
        refine bL 2 _ iS M7 rfl rfl rfl rfl rfl (aW rfl) rfl (fun w8 M8 => ?_)
        refine aD (aF (aH ?_))
        refine aVo (.op 1 0 (.op 2 0 (.op 3 0 (.op 5 0 (.op 6 0 (.op 7 0 (.op 8 0 (.fork 0 14 (.fork 4 14 (.fork 9 14 (.fork 10 14 (.op 11 0 (.op 12 0 (.op 13 0 (.op 14 2 (.op 15 0 (.op 16 2 .done)))))) (.op 10 2 (.op 11 0 (.op 12 0 (.op 13 0 (.op 15 0 (.op 16 2 .done))))))) (.op 9 2 (.op 10 2 (.op 11 0 (.op 12 0 (.op 13 0 (.op 15 0 (.op 16 2 .done)))))))) (.op 4 2 (.op 9 2 (.op 10 2 (.op 11 0 (.op 12 0 (.op 13 0 (.op 15 0 (.op 16 2 .done))))))))) (.op 0 2 (.op 4 2 (.op 9 2 (.op 10 2 (.op 11 0 (.op 12 0 (.op 13 0 (.op 15 0 (.op 16 2 .done))))))))))))))))) mixed rfl (by kernel_rfl) (fun w9 hb9 hh9 => ?_)
        have M9 := M8.drew hb9 hh9
        refine rQ rfl rfl rfl (fun _ => aC (.slice _ _ _) rfl) ?_
        refine rQ rfl rfl rfl (fun _ => aC (.int _ _) rfl) ?_
        refine rQ rfl rfl rfl (fun _ => fM (0) ((kk : Int)) cA rfl rfl ⟨_, rfl⟩ (by decide) (by omega) (by omega)) ?_
        refine rQ rfl rfl rfl (fun _ => aC (.slice _ _ _) rfl) ?_
        refine rQ rfl rfl rfl (fun _ => aC (.int _ _) rfl) ?_
        refine rQ rfl rfl rfl (fun _ => bS rfl rfl (by omega) (by omega)) ?_
        refine aZl 56 (.int .i64 ((kk + 1 : Nat) : Int)) (iE (by omega)) ?_
        refine rQ rfl rfl rfl (fun _ => fM (((kk + 1 : Nat) : Int)) ((r.n : Int)) cA rfl ⟨_, rfl⟩ rfl (by omega) (by omega) (by omega)) ?_
        refine zB (fX [] rfl (by kernel_rfl) ?_) (fX [] rfl (by kernel_rfl) ?_)
        · refine cF [] [] rfl cA M9 rfl rfl rfl rfl (cO rfl) (by decide) (fun b10 w10 M10 => ?_)
          refine aD (aF ⟨cX, ?_⟩)
          refine zB (fX [] rfl (by kernel_rfl) ?_) (fX [] rfl (by kernel_rfl) ?_)
          · refine dA 3 ((((dF xs).map aG).drop 0).take (kk - 0)) cA M10 rfl rfl rfl rfl rfl (aX.empty b10) (Rd.sub (hr.rd M10 (aM (i := 0) rfl)) 0 kk (by omega) (by omega) hcap) (fun y hy => dB _ y (List.mem_of_mem_drop (List.mem_of_mem_take hy))) (by omega) (fun A11 c11 e11 w11 M11 hR11 hA11 => ?_)
            refine aD (aF ⟨cX, ?_⟩)
            refine zB (fX [] rfl (by kernel_rfl) ?_) (fX [] rfl (by kernel_rfl) ?_)
            · refine dA 3 ((((dF xs).map aG).drop (kk + 1)).take (r.n - (kk + 1))) cA M11 rfl rfl rfl rfl rfl hR11 (Rd.sub (hr.rd M11 (aM (i := 0) rfl)) (kk + 1) r.n (by omega) (by omega) hcap) (fun y hy => dB _ y (List.mem_of_mem_drop (List.mem_of_mem_take hy))) (by omega) (fun A12 c12 e12 w12 M12 hR12 hA12 => ?_)
              have hW := hR12
              rw [iL aG hrn (by omega)] at hW
              have hWn := hW.1
              rw [List.length_map, List.length_eraseIdx_of_lt (by omega)] at hWn
              refine aD (aF ⟨cX, ?_⟩)
              refine zB (fX [] rfl (by kernel_rfl) ?_) (fX [] rfl (by kernel_rfl) ?_)
              · refine aL pQ rfl rfl rfl ?_
                refine (gG _ (F.mem M12) (N.mem M12) _ _ _ ((dF xs).eraseIdx kk) (hW.rd M12 (aM (i := 3) rfl)) (fun b hb => hvo b ((List.eraseIdx_sublist _ _).subset hb)) (eJ hvs kk) (by omega)).mono ?_
                rintro _ w13 ⟨v13, rfl, ⟨rb, tb, rfl, h1tb, h2tb, hrb, hM13⟩⟩
                refine ⟨_, rfl, ?_⟩
                have M13 : Mem _ _ [_, _, _, _, _] _ := M12.call0 hM13
                have hnrb : (eP ((dF xs).eraseIdx kk)).length = rb.n := by simpa using hrb.1
                have hkrb := jB ((dF xs).eraseIdx kk)
                have hlrb := hkrb.len
                rw [List.length_eraseIdx_of_lt (by omega)] at hlrb
                refine aD (aF ⟨cX, ?_⟩)
                refine rQ rfl rfl rfl (fun _ => aC (.tuple (List.toArray _)) rfl) ?_
                refine rQ rfl rfl rfl (fun _ => bB (.slice _ _ _) rfl rfl) ?_
                refine rQ rfl rfl rfl (fun _ => bB (.agg (List.toArray _)) rfl rfl) ?_
                refine T_e (fX [] rfl (by kernel_rfl) ?_)
                refine aU iY M13 rfl rfl (fun b14 w14 M14 => ?_)
                refine aD (aF ⟨cX, ?_⟩)
                refine rQ rfl rfl rfl (fun _ => aE (.slice _ _ _) rfl) ?_
                refine T_e (fX [] rfl (by kernel_rfl) ?_)
                refine bL 5 _ iS M14 rfl rfl rfl rfl rfl (aW rfl) rfl (fun w15 M15 => ?_)
                refine aD (aF ⟨cX, ?_⟩)
                refine aDd ?_
                refine aF (aH (aH (aB ?_)))
                refine aA (aC (.slice _ _ _) rfl) rfl rfl ?_
                refine aA (bV Tryz.underlying22 rfl) rfl rfl ?_
                refine aA (aC (.slice _ _ _) rfl) rfl rfl ?_
                refine aA (bV Tryz.underlying22 rfl) rfl rfl ?_
                refine aA (aO (.bool (decide _)) rfl rfl rfl) rfl rfl ?_
                refine aQ 66 (.bool false) (bF (by omega)).symm ?_
                refine aA (aC (.bool false) rfl) rfl rfl ?_
                refine aA (aC (.slice _ _ _) rfl) rfl rfl ?_
                refine aA (bV Tryz.underlying22 rfl) rfl rfl ?_
                refine aA (aC (.slice _ _ _) rfl) rfl rfl ?_
                refine aA (bV Tryz.underlying22 rfl) rfl rfl ?_
                refine aA (jO rfl rfl (by omega) (by omega)) rfl rfl ?_
                refine aA (aO (.bool (decide _)) rfl rfl rfl) rfl rfl ?_
                refine aQ 73 (.bool false) (bF (by omega)).symm ?_
                refine aA (bI false (.bool false) rfl rfl) rfl rfl ?_
                refine aD (aF ?_)
                refine cJ rfl ?_
                refine aP (aF (aH ?_))
                refine bP [(1, 0), (2, 0), (3, 0), (5, 0), (6, 0), (7, 0), (8, 0), (0, 2), (4, 2), (9, 2), (10, 0)] mixed rfl (by kernel_rfl) (fun w16 hb16 hh16 => ?_)
                have M16 := M15.drew hb16 hh16
                refine aR rfl rfl rfl (fun _ => aC (.slice _ _ _) rfl) ?_
                refine aR rfl rfl rfl (fun _ => aC (.int _ _) rfl) ?_
                refine aR rfl rfl rfl (fun _ => fM (0) ((kk : Int)) cA rfl rfl ⟨_, rfl⟩ (by decide) (by omega) (by omega)) ?_
                refine aR rfl rfl rfl (fun _ => aC (.slice _ _ _) rfl) ?_
                refine aR rfl rfl rfl (fun _ => aC (.int _ _) rfl) ?_
                refine aR rfl rfl rfl (fun _ => bS rfl rfl (by omega) (by omega)) ?_
                refine gM 82 (.int .i64 ((kk + 1 : Nat) : Int)) (iE (by omega)) ?_
                refine aR rfl rfl rfl (fun _ => fM (((kk + 1 : Nat) : Int)) ((ra.n : Int)) cA rfl ⟨_, rfl⟩ rfl (by omega) (by omega) (by omega)) ?_
                refine dM [] rfl (by kernel_rfl) ?_
                refine cF [] [] rfl cA M16 rfl rfl rfl rfl (cO rfl) (by decide) (fun b17 w17 M17 => ?_)
                refine aD (aF ⟨cX, ?_⟩)
                refine dM [] rfl (by kernel_rfl) ?_
                refine dA 6 ((((eP (dF xs)).map aG).drop 0).take (kk - 0)) cA M17 rfl rfl rfl rfl rfl (aX.empty b17) (Rd.sub (hra.rd M17 (aM (i := 1) rfl)) 0 kk (by omega) (by omega) hcapa) (fun y hy => dB _ y (List.mem_of_mem_drop (List.mem_of_mem_take hy))) (by omega) (fun A18 c18 e18 w18 M18 hR18 hA18 => ?_)
                refine aD (aF ⟨cX, ?_⟩)
                refine dM [] rfl (by kernel_rfl) ?_
                refine dA 6 ((((eP (dF xs)).map aG).drop (kk + 1)).take (ra.n - (kk + 1))) cA M18 rfl rfl rfl rfl rfl hR18 (Rd.sub (hra.rd M18 (aM (i := 1) rfl)) (kk + 1) ra.n (by omega) (by omega) hcapa) (fun y hy => dB _ y (List.mem_of_mem_drop (List.mem_of_mem_take hy))) (by omega) (fun A19 c19 e19 w19 M19 hR19 hA19 => ?_)
                have hU := hR19
                rw [iL aG hnra (by omega)] at hU
                have hUn := hU.1
                rw [List.length_map, List.length_eraseIdx_of_lt (by omega)] at hUn
                refine aD (aF ⟨cX, ?_⟩)
                refine aR rfl rfl rfl (fun _ => aE (.slice _ _ _) rfl) ?_
                refine cB ?_
                refine aF (aH ?_)
                refine bP [(0, 0), (1, 0), (2, 1), (3, 1), (4, 0), (5, 0), (6, 1), (7, 1), (8, 2), (9, 0), (10, 0), (11, 0), (12, 0), (13, 2), (14, 0), (15, 0)] mixed rfl (by kernel_rfl) (fun w20 hb20 hh20 => ?_)
                have M20 := M19.drew hb20 hh20
                refine aR rfl rfl rfl (fun _ => aC (.slice _ _ _) rfl) ?_
                refine aR rfl rfl rfl (fun _ => aC (.int _ _) rfl) ?_
                refine cD rfl rfl rfl (bK (kk) cA rfl rfl rfl ((hra.rd M20 (aM (i := 1) rfl)).below_len (aJ aG hs1)) ((hra.rd M20 (aM (i := 1) rfl)).someK (aJ aG hs1))) ?_
                refine cD rfl rfl rfl (cM _ bO (hra.rd M20 (aM (i := 1) rfl)) (aJ aG hs1) rfl) ?_
                refine aR rfl rfl rfl (fun _ => aC (.slice _ _ _) rfl) ?_
                refine aR rfl rfl rfl (fun _ => aC (.int _ _) rfl) ?_
                refine cD rfl rfl rfl (bK (kk) cA rfl rfl rfl ((hr.rd M20 (aM (i := 0) rfl)).below_len (aJ aG hy)) ((hr.rd M20 (aM (i := 0) rfl)).someK (aJ aG hy))) ?_
                refine cD rfl rfl rfl (cM _ bO (hr.rd M20 (aM (i := 0) rfl)) (aJ aG hy) rfl) ?_
                refine dM [true, true, false, false] rfl (by kernel_rfl) ?_
                refine aL xR rfl rfl rfl ?_
                refine (jT _ y (hvo y (List.mem_of_getElem? hy))).mono ?_
                rintro _ w21 ⟨v21, rfl, ⟨rfl, hb21⟩⟩
                refine ⟨_, rfl, ?_⟩
                have M21 := M20.callB hb21
                refine aD (aF ⟨(iQ (cU rfl (cM _ bO (hra.rd M21 (aM (i := 1) rfl)) (aJ aG hs1) rfl)) (iQ (cU rfl (bK (kk) cA rfl rfl rfl ((hra.rd M21 (aM (i := 1) rfl)).below_len (aJ aG hs1)) ((hra.rd M21 (aM (i := 1) rfl)).someK (aJ aG hs1)))) cX)), ?_⟩)
                refine aR rfl rfl rfl (fun _ => lT (oW (jP y) (jP y)) rfl rfl) ?_
                refine gM 94 (.bool true) (bT rfl).symm ?_
                refine aR rfl rfl rfl (fun _ => aC (.bool true) rfl) ?_
                refine aR rfl rfl rfl (fun _ => aC (.slice _ _ _) rfl) ?_
                refine aR rfl rfl rfl (fun _ => aC (.slice _ _ _) rfl) ?_
                refine dM [true, true] rfl (by kernel_rfl) ?_
                refine aL aCe rfl rfl rfl ?_
                refine (kL _ _ _ _ _ (hU.rd M21 (aM (i := 6) rfl)) _ _ _ _ (hrb.rd M21 (aM (i := 4) rfl))).mono ?_
                rintro _ w22 ⟨v22, rfl, ⟨rfl, hb22⟩⟩
                refine ⟨_, rfl, ?_⟩
                have M22 := M21.callB hb22
                refine aD (aF ⟨cX, ?_⟩)
                refine gM 98 (.bool true) (bT hs2.symm).symm ?_
                refine aR rfl rfl rfl (fun _ => bI true (.bool true) rfl rfl) ?_
                refine aR rfl rfl rfl (fun _ => aE (.bool true) rfl) ?_
                refine cB ?_
                refine aF (aS ?_)
                refine cG (.bool true) rfl ?_
                exact ⟨rfl, M22.below⟩
              · refine aU iY M12 rfl rfl (fun b23 w23 M23 => ?_)
                refine aD (aF ⟨cX, ?_⟩)
                refine T_e (fX [] rfl (by kernel_rfl) ?_)
                refine aL pQ rfl rfl rfl ?_
                refine (gG _ (F.mem M23) (N.mem M23) _ _ _ ((dF xs).eraseIdx kk) (hW.rd M23 (aM (i := 3) rfl)) (fun b hb => hvo b ((List.eraseIdx_sublist _ _).subset hb)) (eJ hvs kk) (by omega)).mono ?_
                rintro _ w24 ⟨v24, rfl, ⟨rb, tb, rfl, h1tb, h2tb, hrb, hM24⟩⟩
                refine ⟨_, rfl, ?_⟩
                have M24 : Mem _ _ [_, _, _, _, _, _] _ := M23.call0 hM24
                have hnrb : (eP ((dF xs).eraseIdx kk)).length = rb.n := by simpa using hrb.1
                have hkrb := jB ((dF xs).eraseIdx kk)
                have hlrb := hkrb.len
                rw [List.length_eraseIdx_of_lt (by omega)] at hlrb
                refine aD (aF ⟨cX, ?_⟩)
                refine rQ rfl rfl rfl (fun _ => aC (.tuple (List.toArray _)) rfl) ?_
                refine rQ rfl rfl rfl (fun _ => bB (.slice _ _ _) rfl rfl) ?_
                refine rQ rfl rfl rfl (fun _ => bB (.agg (List.toArray _)) rfl rfl) ?_
                refine rQ rfl rfl rfl (fun _ => aE (.slice _ _ _) rfl) ?_
                refine T_e (fX [] rfl (by kernel_rfl) ?_)
                refine bL 4 _ iS M24 rfl rfl rfl rfl rfl (aW rfl) rfl (fun w25 M25 => ?_)
                refine aD (aF ⟨cX, ?_⟩)
                refine aDd ?_
                refine aF (aH (aH (aB ?_)))
                refine aA (aC (.slice _ _ _) rfl) rfl rfl ?_
                refine aA (bV Tryz.underlying22 rfl) rfl rfl ?_
                refine aA (aC (.slice _ _ _) rfl) rfl rfl ?_
                refine aA (bV Tryz.underlying22 rfl) rfl rfl ?_
                refine aA (aO (.bool (decide _)) rfl rfl rfl) rfl rfl ?_
                refine aQ 66 (.bool false) (bF (by omega)).symm ?_
                refine aA (aC (.bool false) rfl) rfl rfl ?_
                refine aA (aC (.slice _ _ _) rfl) rfl rfl ?_
                refine aA (bV Tryz.underlying22 rfl) rfl rfl ?_
                refine aA (aC (.slice _ _ _) rfl) rfl rfl ?_
                refine aA (bV Tryz.underlying22 rfl) rfl rfl ?_
                refine aA (jO rfl rfl (by omega) (by omega)) rfl rfl ?_
                refine aA (aO (.bool (decide _)) rfl rfl rfl) rfl rfl ?_
                refine aQ 73 (.bool false) (bF (by omega)).symm ?_
                refine aA (bI false (.bool false) rfl rfl) rfl rfl ?_
                refine aD (aF ?_)
                refine cJ rfl ?_
                refine aP (aF (aH ?_))
                refine bP [(1, 0), (2, 0), (3, 0), (5, 0), (6, 0), (7, 0), (8, 0), (0, 2), (4, 2), (9, 2), (10, 0)] mixed rfl (by kernel_rfl) (fun w26 hb26 hh26 => ?_)
                have M26 := M25.drew hb26 hh26
                refine aR rfl rfl rfl (fun _ => aC (.slice _ _ _) rfl) ?_
                refine aR rfl rfl rfl (fun _ => aC (.int _ _) rfl) ?_
                refine aR rfl rfl rfl (fun _ => fM (0) ((kk : Int)) cA rfl rfl ⟨_, rfl⟩ (by decide) (by omega) (by omega)) ?_
                refine aR rfl rfl rfl (fun _ => aC (.slice _ _ _) rfl) ?_
                refine aR rfl rfl rfl (fun _ => aC (.int _ _) rfl) ?_
                refine aR rfl rfl rfl (fun _ => bS rfl rfl (by omega) (by omega)) ?_
                refine gM 82 (.int .i64 ((kk + 1 : Nat) : Int)) (iE (by omega)) ?_
                refine aR rfl rfl rfl (fun _ => fM (((kk + 1 : Nat) : Int)) ((ra.n : Int)) cA rfl ⟨_, rfl⟩ rfl (by omega) (by omega) (by omega)) ?_
                refine dM [] rfl (by kernel_rfl) ?_
                refine cF [] [] rfl cA M26 rfl rfl rfl rfl (cO rfl) (by decide) (fun b27 w27 M27 => ?_)
                refine aD (aF ⟨cX, ?_⟩)
                refine dM [] rfl (by kernel_rfl) ?_
                refine dA 6 ((((eP (dF xs)).map aG).drop 0).take (kk - 0)) cA M27 rfl rfl rfl rfl rfl (aX.empty b27) (Rd.sub (hra.rd M27 (aM (i := 1) rfl)) 0 kk (by omega) (by omega) hcapa) (fun y hy => dB _ y (List.mem_of_mem_drop (List.mem_of_mem_take hy))) (by omega) (fun A28 c28 e28 w28 M28 hR28 hA28 => ?_)
                refine aD (aF ⟨cX, ?_⟩)
                refine dM [] rfl (by kernel_rfl) ?_
                refine dA 6 ((((eP (dF xs)).map aG).drop (kk + 1)).take (ra.n - (kk + 1))) cA M28 rfl rfl rfl rfl rfl hR28 (Rd.sub (hra.rd M28 (aM (i := 1) rfl)) (kk + 1) ra.n (by omega) (by omega) hcapa) (fun y hy => dB _ y (List.mem_of_mem_drop (List.mem_of_mem_take hy))) (by omega) (fun A29 c29 e29 w29 M29 hR29 hA29 => ?_)
                have hU := hR29
                rw [iL aG hnra (by omega)] at hU
                have hUn := hU.1
                rw [List.length_map, List.length_eraseIdx_of_lt (by omega)] at hUn
                refine aD (aF ⟨cX, ?_⟩)
                refine aR rfl rfl rfl (fun _ => aE (.slice _ _ _) rfl) ?_
                refine cB ?_
                refine aF (aH ?_)
                refine bP [(0, 0), (1, 0), (2, 1), (3, 1), (4, 0), (5, 0), (6, 1), (7, 1), (8, 2), (9, 0), (10, 0), (11, 0), (12, 0), (13, 2), (14, 0), (15, 0)] mixed rfl (by kernel_rfl) (fun w30 hb30 hh30 => ?_)
                have M30 := M29.drew hb30 hh30
                refine aR rfl rfl rfl (fun _ => aC (.slice _ _ _) rfl) ?_
                refine aR rfl rfl rfl (fun _ => aC (.int _ _) rfl) ?_
                refine cD rfl rfl rfl (bK (kk) cA rfl rfl rfl ((hra.rd M30 (aM (i := 1) rfl)).below_len (aJ aG hs1)) ((hra.rd M30 (aM (i := 1) rfl)).someK (aJ aG hs1))) ?_
                refine cD rfl rfl rfl (cM _ bO (hra.rd M30 (aM (i := 1) rfl)) (aJ aG hs1) rfl) ?_
                refine aR rfl rfl rfl (fun _ => aC (.slice _ _ _) rfl) ?_
                refine aR rfl rfl rfl (fun _ => aC (.int _ _) rfl) ?_
                refine cD rfl rfl rfl (bK (kk) cA rfl rfl rfl ((hr.rd M30 (aM (i := 0) rfl)).below_len (aJ aG hy)) ((hr.rd M30 (aM (i := 0) rfl)).someK (aJ aG hy))) ?_
                refine cD rfl rfl rfl (cM _ bO (hr.rd M30 (aM (i := 0) rfl)) (aJ aG hy) rfl) ?_
                refine dM [true, true, false, false] rfl (by kernel_rfl) ?_
                refine aL xR rfl rfl rfl ?_
                refine (jT _ y (hvo y (List.mem_of_getElem? hy))).mono ?_
                rintro _ w31 ⟨v31, rfl, ⟨rfl, hb31⟩⟩
                refine ⟨_, rfl, ?_⟩
                have M31 := M30.callB hb31
                refine aD (aF ⟨(iQ (cU rfl (cM _ bO (hra.rd M31 (aM (i := 1) rfl)) (aJ aG hs1) rfl)) (iQ (cU rfl (bK (kk) cA rfl rfl rfl ((hra.rd M31 (aM (i := 1) rfl)).below_len (aJ aG hs1)) ((hra.rd M31 (aM (i := 1) rfl)).someK (aJ aG hs1)))) cX)), ?_⟩)
                refine aR rfl rfl rfl (fun _ => lT (oW (jP y) (jP y)) rfl rfl) ?_
                refine gM 94 (.bool true) (bT rfl).symm ?_
                refine aR rfl rfl rfl (fun _ => aC (.bool true) rfl) ?_
                refine aR rfl rfl rfl (fun _ => aC (.slice _ _ _) rfl) ?_
                refine aR rfl rfl rfl (fun _ => aC (.slice _ _ _) rfl) ?_
                refine dM [true, true] rfl (by kernel_rfl) ?_
                refine aL aCe rfl rfl rfl ?_
                refine (kL _ _ _ _ _ (hU.rd M31 (aM (i := 6) rfl)) _ _ _ _ (hrb.rd M31 (aM (i := 5) rfl))).mono ?_
                rintro _ w32 ⟨v32, rfl, ⟨rfl, hb32⟩⟩
                refine ⟨_, rfl, ?_⟩
                have M32 := M31.callB hb32
                refine aD (aF ⟨cX, ?_⟩)
                refine gM 98 (.bool true) (bT hs2.symm).symm ?_
                refine aR rfl rfl rfl (fun _ => bI true (.bool true) rfl rfl) ?_
                refine aR rfl rfl rfl (fun _ => aE (.bool true) rfl) ?_
                refine cB ?_
                refine aF (aS ?_)
                refine cG (.bool true) rfl ?_
                exact ⟨rfl, M32.below⟩
            · refine aU iY M11 rfl rfl (fun b33 w33 M33 => ?_)
              refine aD (aF ⟨cX, ?_⟩)
              refine T_e (fX [] rfl (by kernel_rfl) ?_)
              refine dA 3 ((((dF xs).map aG).drop (kk + 1)).take (r.n - (kk + 1))) cA M33 rfl rfl rfl rfl rfl hR11 (Rd.sub (hr.rd M33 (aM (i := 0) rfl)) (kk + 1) r.n (by omega) (by omega) hcap) (fun y hy => dB _ y (List.mem_of_mem_drop (List.mem_of_mem_take hy))) (by omega) (fun A34 c34 e34 w34 M34 hR34 hA34 => ?_)
              have hW := hR34
              rw [iL aG hrn (by omega)] at hW
              have hWn := hW.1
              rw [List.length_map, List.length_eraseIdx_of_lt (by omega)] at hWn
              refine aD (aF ⟨cX, ?_⟩)
              refine T_e (fX [] rfl (by kernel_rfl) ?_)
              refine aL pQ rfl rfl rfl ?_
              refine (gG _ (F.mem M34) (N.mem M34) _ _ _ ((dF xs).eraseIdx kk) (hW.rd M34 (aM (i := 3) rfl)) (fun b hb => hvo b ((List.eraseIdx_sublist _ _).subset hb)) (eJ hvs kk) (by omega)).mono ?_
              rintro _ w35 ⟨v35, rfl, ⟨rb, tb, rfl, h1tb, h2tb, hrb, hM35⟩⟩
              refine ⟨_, rfl, ?_⟩
              have M35 : Mem _ _ [_, _, _, _, _, _] _ := M34.call0 hM35
              have hnrb : (eP ((dF xs).eraseIdx kk)).length = rb.n := by simpa using hrb.1
              have hkrb := jB ((dF xs).eraseIdx kk)
              have hlrb := hkrb.len
              rw [List.length_eraseIdx_of_lt (by omega)] at hlrb
              refine aD (aF ⟨cX, ?_⟩)
              refine rQ rfl rfl rfl (fun _ => aC (.tuple (List.toArray _)) rfl) ?_
              refine rQ rfl rfl rfl (fun _ => bB (.slice _ _ _) rfl rfl) ?_
              refine rQ rfl rfl rfl (fun _ => bB (.agg (List.toArray _)) rfl rfl) ?_
              refine rQ rfl rfl rfl (fun _ => aE (.slice _ _ _) rfl) ?_
              refine T_e (fX [] rfl (by kernel_rfl) ?_)
              refine bL 4 _ iS M35 rfl rfl rfl rfl rfl (aW rfl) rfl (fun w36 M36 => ?_)
              refine aD (aF ⟨cX, ?_⟩)
              refine aDd ?_
              refine aF (aH (aH (aB ?_)))
              refine aA (aC (.slice _ _ _) rfl) rfl rfl ?_
              refine aA (bV Tryz.underlying22 rfl) rfl rfl ?_
              refine aA (aC (.slice _ _ _) rfl) rfl rfl ?_
              refine aA (bV Tryz.underlying22 rfl) rfl rfl ?_
              refine aA (aO (.bool (decide _)) rfl rfl rfl) rfl rfl ?_
              refine aQ 66 (.bool false) (bF (by omega)).symm ?_
              refine aA (aC (.bool false) rfl) rfl rfl ?_
              refine aA (aC (.slice _ _ _) rfl) rfl rfl ?_
              refine aA (bV Tryz.underlying22 rfl) rfl rfl ?_
              refine aA (aC (.slice _ _ _) rfl) rfl rfl ?_
              refine aA (bV Tryz.underlying22 rfl) rfl rfl ?_
              refine aA (jO rfl rfl (by omega) (by omega)) rfl rfl ?_
              refine aA (aO (.bool (decide _)) rfl rfl rfl) rfl rfl ?_
              refine aQ 73 (.bool false) (bF (by omega)).symm ?_
              refine aA (bI false (.bool false) rfl rfl) rfl rfl ?_
              refine aD (aF ?_)
              refine cJ rfl ?_
              refine aP (aF (aH ?_))
              refine bP [(1, 0), (2, 0), (3, 0), (5, 0), (6, 0), (7, 0), (8, 0), (0, 2), (4, 2), (9, 2), (10, 0)] mixed rfl (by kernel_rfl) (fun w37 hb37 hh37 => ?_)
              have M37 := M36.drew hb37 hh37
              refine aR rfl rfl rfl (fun _ => aC (.slice _ _ _) rfl) ?_
              refine aR rfl rfl rfl (fun _ => aC (.int _ _) rfl) ?_
              refine aR rfl rfl rfl (fun _ => fM (0) ((kk : Int)) cA rfl rfl ⟨_, rfl⟩ (by decide) (by omega) (by omega)) ?_
              refine aR rfl rfl rfl (fun _ => aC (.slice _ _ _) rfl) ?_
              refine aR rfl rfl rfl (fun _ => aC (.int _ _) rfl) ?_
              refine aR rfl rfl rfl (fun _ => bS rfl rfl (by omega) (by omega)) ?_
              refine gM 82 (.int .i64 ((kk + 1 : Nat) : Int)) (iE (by omega)) ?_
              refine aR rfl rfl rfl (fun _ => fM (((kk + 1 : Nat) : Int)) ((ra.n : Int)) cA rfl ⟨_, rfl⟩ rfl (by omega) (by omega) (by omega)) ?_
              refine dM [] rfl (by kernel_rfl) ?_
              refine cF [] [] rfl cA M37 rfl rfl rfl rfl (cO rfl) (by decide) (fun b38 w38 M38 => ?_)
              refine aD (aF ⟨cX, ?_⟩)
              refine dM [] rfl (by kernel_rfl) ?_
              refine dA 6 ((((eP (dF xs)).map aG).drop 0).take (kk - 0)) cA M38 rfl rfl rfl rfl rfl (aX.empty b38) (Rd.sub (hra.rd M38 (aM (i := 1) rfl)) 0 kk (by omega) (by omega) hcapa) (fun y hy => dB _ y (List.mem_of_mem_drop (List.mem_of_mem_take hy))) (by omega) (fun A39 c39 e39 w39 M39 hR39 hA39 => ?_)
              refine aD (aF ⟨cX, ?_⟩)
              refine dM [] rfl (by kernel_rfl) ?_
              refine dA 6 ((((eP (dF xs)).map aG).drop (kk + 1)).take (ra.n - (kk + 1))) cA M39 rfl rfl rfl rfl rfl hR39 (Rd.sub (hra.rd M39 (aM (i := 1) rfl)) (kk + 1) ra.n (by omega) (by omega) hcapa) (fun y hy => dB _ y (List.mem_of_mem_drop (List.mem_of_mem_take hy))) (by omega) (fun A40 c40 e40 w40 M40 hR40 hA40 => ?_)
              have hU := hR40
              rw [iL aG hnra (by omega)] at hU
              have hUn := hU.1
              rw [List.length_map, List.length_eraseIdx_of_lt (by omega)] at hUn
              refine aD (aF ⟨cX, ?_⟩)
              refine aR rfl rfl rfl (fun _ => aE (.slice _ _ _) rfl) ?_
              refine cB ?_
              refine aF (aH ?_)
              refine bP [(0, 0), (1, 0), (2, 1), (3, 1), (4, 0), (5, 0), (6, 1), (7, 1), (8, 2), (9, 0), (10, 0), (11, 0), (12, 0), (13, 2), (14, 0), (15, 0)] mixed rfl (by kernel_rfl) (fun w41 hb41 hh41 => ?_)
              have M41 := M40.drew hb41 hh41
              refine aR rfl rfl rfl (fun _ => aC (.slice _ _ _) rfl) ?_
              refine aR rfl rfl rfl (fun _ => aC (.int _ _) rfl) ?_
              refine cD rfl rfl rfl (bK (kk) cA rfl rfl rfl ((hra.rd M41 (aM (i := 1) rfl)).below_len (aJ aG hs1)) ((hra.rd M41 (aM (i := 1) rfl)).someK (aJ aG hs1))) ?_
              refine cD rfl rfl rfl (cM _ bO (hra.rd M41 (aM (i := 1) rfl)) (aJ aG hs1) rfl) ?_
              refine aR rfl rfl rfl (fun _ => aC (.slice _ _ _) rfl) ?_
              refine aR rfl rfl rfl (fun _ => aC (.int _ _) rfl) ?_
              refine cD rfl rfl rfl (bK (kk) cA rfl rfl rfl ((hr.rd M41 (aM (i := 0) rfl)).below_len (aJ aG hy)) ((hr.rd M41 (aM (i := 0) rfl)).someK (aJ aG hy))) ?_
              refine cD rfl rfl rfl (cM _ bO (hr.rd M41 (aM (i := 0) rfl)) (aJ aG hy) rfl) ?_
              refine dM [true, true, false, false] rfl (by kernel_rfl) ?_
              refine aL xR rfl rfl rfl ?_
              refine (jT _ y (hvo y (List.mem_of_getElem? hy))).mono ?_
              rintro _ w42 ⟨v42, rfl, ⟨rfl, hb42⟩⟩
              refine ⟨_, rfl, ?_⟩
              have M42 := M41.callB hb42
              refine aD (aF ⟨(iQ (cU rfl (cM _ bO (hra.rd M42 (aM (i := 1) rfl)) (aJ aG hs1) rfl)) (iQ (cU rfl (bK (kk) cA rfl rfl rfl ((hra.rd M42 (aM (i := 1) rfl)).below_len (aJ aG hs1)) ((hra.rd M42 (aM (i := 1) rfl)).someK (aJ aG hs1)))) cX)), ?_⟩)
              refine aR rfl rfl rfl (fun _ => lT (oW (jP y) (jP y)) rfl rfl) ?_
              refine gM 94 (.bool true) (bT rfl).symm ?_
              refine aR rfl rfl rfl (fun _ => aC (.bool true) rfl) ?_
              refine aR rfl rfl rfl (fun _ => aC (.slice _ _ _) rfl) ?_
              refine aR rfl rfl rfl (fun _ => aC (.slice _ _ _) rfl) ?_
              refine dM [true, true] rfl (by kernel_rfl) ?_
              refine aL aCe rfl rfl rfl ?_
              refine (kL _ _ _ _ _ (hU.rd M42 (aM (i := 6) rfl)) _ _ _ _ (hrb.rd M42 (aM (i := 5) rfl))).mono ?_
              rintro _ w43 ⟨v43, rfl, ⟨rfl, hb43⟩⟩
              refine ⟨_, rfl, ?_⟩
              have M43 := M42.callB hb43
              refine aD (aF ⟨cX, ?_⟩)
              refine gM 98 (.bool true) (bT hs2.symm).symm ?_
              refine aR rfl rfl rfl (fun _ => bI true (.bool true) rfl rfl) ?_
              refine aR rfl rfl rfl (fun _ => aE (.bool true) rfl) ?_
              refine cB ?_
              refine aF (aS ?_)
              refine cG (.bool true) rfl ?_
              exact ⟨rfl, M43.below⟩
          · refine aU iY M10 rfl rfl (fun b44 w44 M44 => ?_)
            refine aD (aF ⟨cX, ?_⟩)
            refine T_e (fX [] rfl (by kernel_rfl) ?_)
            refine dA 3 ((((dF xs).map aG).drop 0).take (kk - 0)) cA M44 rfl rfl rfl rfl rfl (aX.empty b10) (Rd.sub (hr.rd M44 (aM (i := 0) rfl)) 0 kk (by omega) (by omega) hcap) (fun y hy => dB _ y (List.mem_of_mem_drop (List.mem_of_mem_take hy))) (by omega) (fun A45 c45 e45 w45 M45 hR45 hA45 => ?_)
            refine aD (aF ⟨cX, ?_⟩)
            refine T_e (fX [] rfl (by kernel_rfl) ?_)
            refine dA 3 ((((dF xs).map aG).drop (kk + 1)).take (r.n - (kk + 1))) cA M45 rfl rfl rfl rfl rfl hR45 (Rd.sub (hr.rd M45 (aM (i := 0) rfl)) (kk + 1) r.n (by omega) (by omega) hcap) (fun y hy => dB _ y (List.mem_of_mem_drop (List.mem_of_mem_take hy))) (by omega) (fun A46 c46 e46 w46 M46 hR46 hA46 => ?_)
            have hW := hR46
            rw [iL aG hrn (by omega)] at hW
            have hWn := hW.1
            rw [List.length_map, List.length_eraseIdx_of_lt (by omega)] at hWn
            refine aD (aF ⟨cX, ?_⟩)
            refine T_e (fX [] rfl (by kernel_rfl) ?_)
            refine aL pQ rfl rfl rfl ?_
            refine (gG _ (F.mem M46) (N.mem M46) _ _ _ ((dF xs).eraseIdx kk) (hW.rd M46 (aM (i := 3) rfl)) (fun b hb => hvo b ((List.eraseIdx_sublist _ _).subset hb)) (eJ hvs kk) (by omega)).mono ?_
            rintro _ w47 ⟨v47, rfl, ⟨rb, tb, rfl, h1tb, h2tb, hrb, hM47⟩⟩
            refine ⟨_, rfl, ?_⟩
            have M47 : Mem _ _ [_, _, _, _, _, _] _ := M46.call0 hM47
            have hnrb : (eP ((dF xs).eraseIdx kk)).length = rb.n := by simpa using hrb.1
            have hkrb := jB ((dF xs).eraseIdx kk)
            have hlrb := hkrb.len
            rw [List.length_eraseIdx_of_lt (by omega)] at hlrb
            refine aD (aF ⟨cX, ?_⟩)
            refine rQ rfl rfl rfl (fun _ => aC (.tuple (List.toArray _)) rfl) ?_
            refine rQ rfl rfl rfl (fun _ => bB (.slice _ _ _) rfl rfl) ?_
            refine rQ rfl rfl rfl (fun _ => bB (.agg (List.toArray _)) rfl rfl) ?_
            refine rQ rfl rfl rfl (fun _ => aE (.slice _ _ _) rfl) ?_
            refine T_e (fX [] rfl (by kernel_rfl) ?_)
            refine bL 4 _ iS M47 rfl rfl rfl rfl rfl (aW rfl) rfl (fun w48 M48 => ?_)
            refine aD (aF ⟨cX, ?_⟩)
            refine aDd ?_
            refine aF (aH (aH (aB ?_)))
            refine aA (aC (.slice _ _ _) rfl) rfl rfl ?_
            refine aA (bV Tryz.underlying22 rfl) rfl rfl ?_
            refine aA (aC (.slice _ _ _) rfl) rfl rfl ?_
            refine aA (bV Tryz.underlying22 rfl) rfl rfl ?_
            refine aA (aO (.bool (decide _)) rfl rfl rfl) rfl rfl ?_
            refine aQ 66 (.bool false) (bF (by omega)).symm ?_
            refine aA (aC (.bool false) rfl) rfl rfl ?_
            refine aA (aC (.slice _ _ _) rfl) rfl rfl ?_
            refine aA (bV Tryz.underlying22 rfl) rfl rfl ?_
            refine aA (aC (.slice _ _ _) rfl) rfl rfl ?_
            refine aA (bV Tryz.underlying22 rfl) rfl rfl ?_
            refine aA (jO rfl rfl (by omega) (by omega)) rfl rfl ?_
            refine aA (aO (.bool (decide _)) rfl rfl rfl) rfl rfl ?_
            refine aQ 73 (.bool false) (bF (by omega)).symm ?_
            refine aA (bI false (.bool false) rfl rfl) rfl rfl ?_
            refine aD (aF ?_)
            refine cJ rfl ?_
            refine aP (aF (aH ?_))
            refine bP [(1, 0), (2, 0), (3, 0), (5, 0), (6, 0), (7, 0), (8, 0), (0, 2), (4, 2), (9, 2), (10, 0)] mixed rfl (by kernel_rfl) (fun w49 hb49 hh49 => ?_)
            have M49 := M48.drew hb49 hh49
            refine aR rfl rfl rfl (fun _ => aC (.slice _ _ _) rfl) ?_
            refine aR rfl rfl rfl (fun _ => aC (.int _ _) rfl) ?_
            refine aR rfl rfl rfl (fun _ => fM (0) ((kk : Int)) cA rfl rfl ⟨_, rfl⟩ (by decide) (by omega) (by omega)) ?_
            refine aR rfl rfl rfl (fun _ => aC (.slice _ _ _) rfl) ?_
            refine aR rfl rfl rfl (fun _ => aC (.int _ _) rfl) ?_
            refine aR rfl rfl rfl (fun _ => bS rfl rfl (by omega) (by omega)) ?_
            refine gM 82 (.int .i64 ((kk + 1 : Nat) : Int)) (iE (by omega)) ?_
            refine aR rfl rfl rfl (fun _ => fM (((kk + 1 : Nat) : Int)) ((ra.n : Int)) cA rfl ⟨_, rfl⟩ rfl (by omega) (by omega) (by omega)) ?_
            refine dM [] rfl (by kernel_rfl) ?_
            refine cF [] [] rfl cA M49 rfl rfl rfl rfl (cO rfl) (by decide) (fun b50 w50 M50 => ?_)
            refine aD (aF ⟨cX, ?_⟩)
            refine dM [] rfl (by kernel_rfl) ?_
            refine dA 6 ((((eP (dF xs)).map aG).drop 0).take (kk - 0)) cA M50 rfl rfl rfl rfl rfl (aX.empty b50) (Rd.sub (hra.rd M50 (aM (i := 1) rfl)) 0 kk (by omega) (by omega) hcapa) (fun y hy => dB _ y (List.mem_of_mem_drop (List.mem_of_mem_take hy))) (by omega) (fun A51 c51 e51 w51 M51 hR51 hA51 => ?_)
            refine aD (aF ⟨cX, ?_⟩)
            refine dM [] rfl (by kernel_rfl) ?_
            refine dA 6 ((((eP (dF xs)).map aG).drop (kk + 1)).take (ra.n - (kk + 1))) cA M51 rfl rfl rfl rfl rfl hR51 (Rd.sub (hra.rd M51 (aM (i := 1) rfl)) (kk + 1) ra.n (by omega) (by omega) hcapa) (fun y hy => dB _ y (List.mem_of_mem_drop (List.mem_of_mem_take hy))) (by omega) (fun A52 c52 e52 w52 M52 hR52 hA52 => ?_)
            have hU := hR52
            rw [iL aG hnra (by omega)] at hU
            have hUn := hU.1
            rw [List.length_map, List.length_eraseIdx_of_lt (by omega)] at hUn
            refine aD (aF ⟨cX, ?_⟩)
            refine aR rfl rfl rfl (fun _ => aE (.slice _ _ _) rfl) ?_
            refine cB ?_
            refine aF (aH ?_)
            refine bP [(0, 0), (1, 0), (2, 1), (3, 1), (4, 0), (5, 0), (6, 1), (7, 1), (8, 2), (9, 0), (10, 0), (11, 0), (12, 0), (13, 2), (14, 0), (15, 0)] mixed rfl (by kernel_rfl) (fun w53 hb53 hh53 => ?_)
            have M53 := M52.drew hb53 hh53
            refine aR rfl rfl rfl (fun _ => aC (.slice _ _ _) rfl) ?_
            refine aR rfl rfl rfl (fun _ => aC (.int _ _) rfl) ?_
            refine cD rfl rfl rfl (bK (kk) cA rfl rfl rfl ((hra.rd M53 (aM (i := 1) rfl)).below_len (aJ aG hs1)) ((hra.rd M53 (aM (i := 1) rfl)).someK (aJ aG hs1))) ?_
            refine cD rfl rfl rfl (cM _ bO (hra.rd M53 (aM (i := 1) rfl)) (aJ aG hs1) rfl) ?_
            refine aR rfl rfl rfl (fun _ => aC (.slice _ _ _) rfl) ?_
            refine aR rfl rfl rfl (fun _ => aC (.int _ _) rfl) ?_
            refine cD rfl rfl rfl (bK (kk) cA rfl rfl rfl ((hr.rd M53 (aM (i := 0) rfl)).below_len (aJ aG hy)) ((hr.rd M53 (aM (i := 0) rfl)).someK (aJ aG hy))) ?_
            refine cD rfl rfl rfl (cM _ bO (hr.rd M53 (aM (i := 0) rfl)) (aJ aG hy) rfl) ?_
            refine dM [true, true, false, false] rfl (by kernel_rfl) ?_
            refine aL xR rfl rfl rfl ?_
            refine (jT _ y (hvo y (List.mem_of_getElem? hy))).mono ?_
            rintro _ w54 ⟨v54, rfl, ⟨rfl, hb54⟩⟩
            refine ⟨_, rfl, ?_⟩
            have M54 := M53.callB hb54
            refine aD (aF ⟨(iQ (cU rfl (cM _ bO (hra.rd M54 (aM (i := 1) rfl)) (aJ aG hs1) rfl)) (iQ (cU rfl (bK (kk) cA rfl rfl rfl ((hra.rd M54 (aM (i := 1) rfl)).below_len (aJ aG hs1)) ((hra.rd M54 (aM (i := 1) rfl)).someK (aJ aG hs1)))) cX)), ?_⟩)
            refine aR rfl rfl rfl (fun _ => lT (oW (jP y) (jP y)) rfl rfl) ?_
            refine gM 94 (.bool true) (bT rfl).symm ?_
            refine aR rfl rfl rfl (fun _ => aC (.bool true) rfl) ?_
            refine aR rfl rfl rfl (fun _ => aC (.slice _ _ _) rfl) ?_
            refine aR rfl rfl rfl (fun _ => aC (.slice _ _ _) rfl) ?_
            refine dM [true, true] rfl (by kernel_rfl) ?_
            refine aL aCe rfl rfl rfl ?_
            refine (kL _ _ _ _ _ (hU.rd M54 (aM (i := 6) rfl)) _ _ _ _ (hrb.rd M54 (aM (i := 5) rfl))).mono ?_
            rintro _ w55 ⟨v55, rfl, ⟨rfl, hb55⟩⟩
            refine ⟨_, rfl, ?_⟩
            have M55 := M54.callB hb55
            refine aD (aF ⟨cX, ?_⟩)
            refine gM 98 (.bool true) (bT hs2.symm).symm ?_
            refine aR rfl rfl rfl (fun _ => bI true (.bool true) rfl rfl) ?_
            refine aR rfl rfl rfl (fun _ => aE (.bool true) rfl) ?_
            refine cB ?_
            refine aF (aS ?_)
            refine cG (.bool true) rfl ?_
            exact ⟨rfl, M55.below⟩
        · refine aU iY M9 rfl rfl (fun b56 w56 M56 => ?_)
          refine aD (aF ⟨cX, ?_⟩)
          refine T_e (fX [] rfl (by kernel_rfl) ?_)
          refine cF [] [] rfl cA M56 rfl rfl rfl rfl (cO rfl) (by decide) (fun b57 w57 M57 => ?_)
          refine aD (aF ⟨cX, ?_⟩)
          refine T_e (fX [] rfl (by kernel_rfl) ?_)
          refine dA 4 ((((dF xs).map aG).drop 0).take (kk - 0)) cA M57 rfl rfl rfl rfl rfl (aX.empty b57) (Rd.sub (hr.rd M57 (aM (i := 0) rfl)) 0 kk (by omega) (by omega) hcap) (fun y hy => dB _ y (List.mem_of_mem_drop (List.mem_of_mem_take hy))) (by omega) (fun A58 c58 e58 w58 M58 hR58 hA58 => ?_)
          refine aD (aF ⟨cX, ?_⟩)
          refine T_e (fX [] rfl (by kernel_rfl) ?_)
          refine dA 4 ((((dF xs).map aG).drop (kk + 1)).take (r.n - (kk + 1))) cA M58 rfl rfl rfl rfl rfl hR58 (Rd.sub (hr.rd M58 (aM (i := 0) rfl)) (kk + 1) r.n (by omega) (by omega) hcap) (fun y hy => dB _ y (List.mem_of_mem_drop (List.mem_of_mem_take hy))) (by omega) (fun A59 c59 e59 w59 M59 hR59 hA59 => ?_)
          have hW := hR59
          rw [iL aG hrn (by omega)] at hW
          have hWn := hW.1
          rw [List.length_map, List.length_eraseIdx_of_lt (by omega)] at hWn
          refine aD (aF ⟨cX, ?_⟩)
          refine T_e (fX [] rfl (by kernel_rfl) ?_)
          refine aL pQ rfl rfl rfl ?_
          refine (gG _ (F.mem M59) (N.mem M59) _ _ _ ((dF xs).eraseIdx kk) (hW.rd M59 (aM (i := 4) rfl)) (fun b hb => hvo b ((List.eraseIdx_sublist _ _).subset hb)) (eJ hvs kk) (by omega)).mono ?_
          rintro _ w60 ⟨v60, rfl, ⟨rb, tb, rfl, h1tb, h2tb, hrb, hM60⟩⟩
          refine ⟨_, rfl, ?_⟩
          have M60 : Mem _ _ [_, _, _, _, _, _] _ := M59.call0 hM60
          have hnrb : (eP ((dF xs).eraseIdx kk)).length = rb.n := by simpa using hrb.1
          have hkrb := jB ((dF xs).eraseIdx kk)
          have hlrb := hkrb.len
          rw [List.length_eraseIdx_of_lt (by omega)] at hlrb
          refine aD (aF ⟨cX, ?_⟩)
          refine rQ rfl rfl rfl (fun _ => aC (.tuple (List.toArray _)) rfl) ?_
          refine rQ rfl rfl rfl (fun _ => bB (.slice _ _ _) rfl rfl) ?_
          refine rQ rfl rfl rfl (fun _ => bB (.agg (List.toArray _)) rfl rfl) ?_
          refine rQ rfl rfl rfl (fun _ => aE (.slice _ _ _) rfl) ?_
          refine T_e (fX [] rfl (by kernel_rfl) ?_)
          refine bL 3 _ iS M60 rfl rfl rfl rfl rfl (aW rfl) rfl (fun w61 M61 => ?_)
          refine aD (aF ⟨cX, ?_⟩)
          refine aDd ?_
          refine aF (aH (aH (aB ?_)))
          refine aA (aC (.slice _ _ _) rfl) rfl rfl ?_
          refine aA (bV Tryz.underlying22 rfl) rfl rfl ?_
          refine aA (aC (.slice _ _ _) rfl) rfl rfl ?_
          refine aA (bV Tryz.underlying22 rfl) rfl rfl ?_
          refine aA (aO (.bool (decide _)) rfl rfl rfl) rfl rfl ?_
          refine aQ 66 (.bool false) (bF (by omega)).symm ?_
          refine aA (aC (.bool false) rfl) rfl rfl ?_
          refine aA (aC (.slice _ _ _) rfl) rfl rfl ?_
          refine aA (bV Tryz.underlying22 rfl) rfl rfl ?_
          refine aA (aC (.slice _ _ _) rfl) rfl rfl ?_
          refine aA (bV Tryz.underlying22 rfl) rfl rfl ?_
          refine aA (jO rfl rfl (by omega) (by omega)) rfl rfl ?_
          refine aA (aO (.bool (decide _)) rfl rfl rfl) rfl rfl ?_
          refine aQ 73 (.bool false) (bF (by omega)).symm ?_
          refine aA (bI false (.bool false) rfl rfl) rfl rfl ?_
          refine aD (aF ?_)
          refine cJ rfl ?_
          refine aP (aF (aH ?_))
          refine bP [(1, 0), (2, 0), (3, 0), (5, 0), (6, 0), (7, 0), (8, 0), (0, 2), (4, 2), (9, 2), (10, 0)] mixed rfl (by kernel_rfl) (fun w62 hb62 hh62 => ?_)
          have M62 := M61.drew hb62 hh62
          refine aR rfl rfl rfl (fun _ => aC (.slice _ _ _) rfl) ?_
          refine aR rfl rfl rfl (fun _ => aC (.int _ _) rfl) ?_
          refine aR rfl rfl rfl (fun _ => fM (0) ((kk : Int)) cA rfl rfl ⟨_, rfl⟩ (by decide) (by omega) (by omega)) ?_
          refine aR rfl rfl rfl (fun _ => aC (.slice _ _ _) rfl) ?_
          refine aR rfl rfl rfl (fun _ => aC (.int _ _) rfl) ?_
          refine aR rfl rfl rfl (fun _ => bS rfl rfl (by omega) (by omega)) ?_
          refine gM 82 (.int .i64 ((kk + 1 : Nat) : Int)) (iE (by omega)) ?_
          refine aR rfl rfl rfl (fun _ => fM (((kk + 1 : Nat) : Int)) ((ra.n : Int)) cA rfl ⟨_, rfl⟩ rfl (by omega) (by omega) (by omega)) ?_
          refine dM [] rfl (by kernel_rfl) ?_
          refine cF [] [] rfl cA M62 rfl rfl rfl rfl (cO rfl) (by decide) (fun b63 w63 M63 => ?_)
          refine aD (aF ⟨cX, ?_⟩)
          refine dM [] rfl (by kernel_rfl) ?_
          refine dA 6 ((((eP (dF xs)).map aG).drop 0).take (kk - 0)) cA M63 rfl rfl rfl rfl rfl (aX.empty b63) (Rd.sub (hra.rd M63 (aM (i := 1) rfl)) 0 kk (by omega) (by omega) hcapa) (fun y hy => dB _ y (List.mem_of_mem_drop (List.mem_of_mem_take hy))) (by omega) (fun A64 c64 e64 kR M64 hR64 hA64 => ?_)
          refine aD (aF ⟨cX, ?_⟩)
          refine dM [] rfl (by kernel_rfl) ?_
          refine dA 6 ((((eP (dF xs)).map aG).drop (kk + 1)).take (ra.n - (kk + 1))) cA M64 rfl rfl rfl rfl rfl hR64 (Rd.sub (hra.rd M64 (aM (i := 1) rfl)) (kk + 1) ra.n (by omega) (by omega) hcapa) (fun y hy => dB _ y (List.mem_of_mem_drop (List.mem_of_mem_take hy))) (by omega) (fun A65 c65 e65 w65 M65 hR65 hA65 => ?_)
          have hU := hR65
          rw [iL aG hnra (by omega)] at hU
          have hUn := hU.1
          rw [List.length_map, List.length_eraseIdx_of_lt (by omega)] at hUn
          refine aD (aF ⟨cX, ?_⟩)
          refine aR rfl rfl rfl (fun _ => aE (.slice _ _ _) rfl) ?_
          refine cB ?_
          refine aF (aH ?_)
          refine bP [(0, 0), (1, 0), (2, 1), (3, 1), (4, 0), (5, 0), (6, 1), (7, 1), (8, 2), (9, 0), (10, 0), (11, 0), (12, 0), (13, 2), (14, 0), (15, 0)] mixed rfl (by kernel_rfl) (fun w66 hb66 hh66 => ?_)
          have M66 := M65.drew hb66 hh66
          refine aR rfl rfl rfl (fun _ => aC (.slice _ _ _) rfl) ?_
          refine aR rfl rfl rfl (fun _ => aC (.int _ _) rfl) ?_
          refine cD rfl rfl rfl (bK (kk) cA rfl rfl rfl ((hra.rd M66 (aM (i := 1) rfl)).below_len (aJ aG hs1)) ((hra.rd M66 (aM (i := 1) rfl)).someK (aJ aG hs1))) ?_
          refine cD rfl rfl rfl (cM _ bO (hra.rd M66 (aM (i := 1) rfl)) (aJ aG hs1) rfl) ?_
          refine aR rfl rfl rfl (fun _ => aC (.slice _ _ _) rfl) ?_
          refine aR rfl rfl rfl (fun _ => aC (.int _ _) rfl) ?_
          refine cD rfl rfl rfl (bK (kk) cA rfl rfl rfl ((hr.rd M66 (aM (i := 0) rfl)).below_len (aJ aG hy)) ((hr.rd M66 (aM (i := 0) rfl)).someK (aJ aG hy))) ?_
          refine cD rfl rfl rfl (cM _ bO (hr.rd M66 (aM (i := 0) rfl)) (aJ aG hy) rfl) ?_
          refine dM [true, true, false, false] rfl (by kernel_rfl) ?_
          refine aL xR rfl rfl rfl ?_
          refine (jT _ y (hvo y (List.mem_of_getElem? hy))).mono ?_
          rintro _ w67 ⟨v67, rfl, ⟨rfl, hb67⟩⟩
          refine ⟨_, rfl, ?_⟩
          have M67 := M66.callB hb67
          refine aD (aF ⟨(iQ (cU rfl (cM _ bO (hra.rd M67 (aM (i := 1) rfl)) (aJ aG hs1) rfl)) (iQ (cU rfl (bK (kk) cA rfl rfl rfl ((hra.rd M67 (aM (i := 1) rfl)).below_len (aJ aG hs1)) ((hra.rd M67 (aM (i := 1) rfl)).someK (aJ aG hs1)))) cX)), ?_⟩)
          refine aR rfl rfl rfl (fun _ => lT (oW (jP y) (jP y)) rfl rfl) ?_
          refine gM 94 (.bool true) (bT rfl).symm ?_
          refine aR rfl rfl rfl (fun _ => aC (.bool true) rfl) ?_
          refine aR rfl rfl rfl (fun _ => aC (.slice _ _ _) rfl) ?_
          refine aR rfl rfl rfl (fun _ => aC (.slice _ _ _) rfl) ?_
          refine dM [true, true] rfl (by kernel_rfl) ?_
          refine aL aCe rfl rfl rfl ?_
          refine (kL _ _ _ _ _ (hU.rd M67 (aM (i := 6) rfl)) _ _ _ _ (hrb.rd M67 (aM (i := 5) rfl))).mono ?_
          rintro _ w68 ⟨v68, rfl, ⟨rfl, hb68⟩⟩
          refine ⟨_, rfl, ?_⟩
          have M68 := M67.callB hb68
          refine aD (aF ⟨cX, ?_⟩)
          refine gM 98 (.bool true) (bT hs2.symm).symm ?_
          refine aR rfl rfl rfl (fun _ => bI true (.bool true) rfl rfl) ?_
          refine aR rfl rfl rfl (fun _ => aE (.bool true) rfl) ?_
          refine cB ?_
          refine aF (aS ?_)
          refine cG (.bool true) rfl ?_
          exact ⟨rfl, M68.below⟩
end Go.Proofs.YtlmcphcgiclanaaGreatDoor

namespace Go.Proofs.YtlmcphcgiclanaaGreatDoor
open Go.Bil
open Go.RowKit (Below)
open Go.Proofs
namespace stepLonely
open Go.ChangeShapes Go.WideShapes Go.ChangeAt Go.RowKit
open Go.ChangeMaps (open_string shut_string)
theorem own : ownKnob Tryz.prog.godebug = none := by kernel_rfl
theorem laidOut : laidOutB Tryz.prog = true := by kernel_rfl
set_option maxRecDepth 100000 in
theorem lifted (os : Os) (started : os.Started) (H : Type) (enc : TypeId × Value → H) :
    ReturnsInHanded {} Tryz.checked os 6 .any (fun w args => (Rows.stepLonelySpec.pre enc Tryz.prog Tryz.f6 [] false w args ∧ laidMet Tryz.prog uD w) ∧ sizedMet enc Tryz.prog Tryz.f6 (OpenSpec.ofChange Rows.stepLonelySpec) false w args) (Rows.stepLonelySpec.post enc Tryz.prog Tryz.f6 false true false false) := by
  refine returnsInHanded_of_change_and (C := Tryz.checked) (X := fun w _ => laidMet Tryz.prog uD w) (fun _ _ _ hh h => h.of_heap hh) own started (by kernel_rfl) Tryz.func6
    (ChangeSpec.witness_at (enc := enc) (C := Tryz.checked) (os := os) (X := fun w _ => laidMet Tryz.prog uD w) false (aIm os) #[.slice none 0 0, .int .u8 0] 8 rfl (by kernel_rfl) (by kernel_rfl) (by kernel_rfl) (by kernel_rfl) (by kernel_rfl) (laidMet_of_run' 8 (by kernel_rfl) (by kernel_rfl))) ?_
  intro W base args ds gs before hval0 hW hcnd hsz0 hL _
  have hsz : (DataW.weightsEach Tryz.prog (Tryz.f6.params.toList ++ Rows.stepLonelySpec.plain.varTypes Tryz.prog) (ds ++ gs)).all (· ≤ reachBytes) = true := hsz0
  have hval : ∀ (j : Nat) t v, Tryz.f6.params[j]? = some t → args[j]? = some v → Value.okWide Tryz.prog W .any base t v := hval0
  have hW' := hW
  obtain ⟨p, q, hA0, hV, rfl, hfz, hnd⟩ := hW
  have hA : DataW.TrodAll enc Tryz.prog W 0 (fun _ => true) true Tryz.f6.params.toList args.toList ds p := hA0
  rw [Tryz.params6] at hA hval hsz
  obtain ⟨v0, vs0, d0, ds0, p0, q0, hargs, rfl, rfl, h0, r0⟩ := trodAll_cons hA
  obtain ⟨v1, vs1, d1, ds1, p1, q1, rfl, rfl, rfl, h1, r1⟩ := trodAll_cons r0
  obtain ⟨rfl, rfl, rfl⟩ := trodAll_nil r1
  obtain rfl : args = #[v0, v1] := by cases args; simp_all
  obtain ⟨rfl, rfl⟩ := trodVars_none hV
  have k0 := h0
  have lt0 : ∀ x ∈ p0, x.block < W.heap.size := by obtain ⟨m, hm⟩ := k0; exact DataW.trod_lt m _ _ _ hm
  obtain ⟨a0, len0, cap0, rfl⟩ := okWide_slice Tryz.underlying22 (hval 0 22 v0 rfl rfl)
  have y0 := aFp hsz (j := 0) (t := 22) rfl rfl cA h0
  obtain ⟨ls0, R0, hi0⟩ := aJx cA aLm rfl y0 h0
  obtain ⟨xs0, rfl, hx0⟩ := aHx aVi ls0 hi0
  obtain ⟨a1, rfl, rfl, rfl, w1⟩ := open_int Tryz.underlying5 (hval 1 5 v1 rfl rfl) h1
  have b1 : 0 ≤ a1 ∧ a1 ≤ 255 := aMf w1
  clear hA0 hval0 hsz0 hsz
  obtain ⟨t1, rfl⟩ := Int.eq_ofNat_of_zero_le b1.1
  refine (vX W (rdF hL) (rdN hL) t1 (by omega) _ _ _ xs0 R0).mono fun e W' ⟨v, he, hv, bel⟩ => ?_
  subst he
  subst hv
  exact ⟨_, rfl, _, _, _, [], _, [], hW', trodAll_mk1 (shut_bool Tryz.underlying4 _), (trodAll_cons_mk (Below.trod laidOut (by kernel_rfl) (of_decide_eq_true (by kernel_rfl)) k0 bel lt0) (trodAll_cons_mk (shut_int Tryz.underlying5 w1) trodAll_mk0)), rfl, bel.frame _, fun h => by cases h⟩
theorem andT {a b : Bool} (ha : a = true) (hb : b = true) : (a && b) = true := by rw [ha, hb]; rfl
set_option maxHeartbeats 16000000 in
theorem closed : joinedFacts Tryz.prog 6 Tryz.f6 Rows.stepLonelySpec Rows.stepLonelyRow = true := by
  unfold joinedFacts
  repeat' (with_reducible refine andT ?_ ?_)
  all_goals (as_aux_lemma => kernel_rfl)
theorem over : Rows.stepLonelyRow.holds Tryz.pinned (OpenSpec.ofChange Rows.stepLonelySpec) :=
  OpenClaim.holds_of_wide 6 Tryz.f6 rfl rfl rfl rfl rfl rfl rfl ⟨rfl, rfl, rfl, rfl, rfl⟩ rfl rfl rfl rfl rfl (by kernel_rfl) Tryz.func6 closed
    (of_decide_eq_true (by kernel_rfl)) (by unfold Func.isWrapper; first | (rw [if_pos (by decide +kernel)]; kernel_rfl) | (rw [if_neg (by decide +kernel)]; exact ⟨rfl, rfl⟩))
    (fun os started H enc _ => lifted os started H enc)
end stepLonely
theorem stepLonely_holds : Rows.StepLonelySaid := stepLonely.over
#print axioms stepLonely_holds
theorem stepLonely_card : Rows.StepLonelyCardSaid :=
  Claim7.holds_tied_plain_at .later [] [.data, .data] true (true, "efc75206f113ecd8e5cc872cd0b30c800981909977c6e963415616c654d1aab5") false
    stepLonely_holds (fun _ h => by cases h) (by kernel_rfl) (fun _ h => by cases h) stepLonely_row_tie rfl ⟨rfl, rfl⟩ (by kernel_rfl) rfl
    (fun f fn hf hfn => by
      obtain rfl : f = 6 := Option.some.inj ((show Tryz.prog.funcNamed "billiard/billiardlaw20.StepLonely" = some 6 by kernel_rfl).symm.trans hf) |>.symm
      obtain rfl : fn = Tryz.f6 := (Option.some.inj (Tryz.func6.symm.trans hfn)).symm
      exact ⟨by kernel_rfl, fun j t ht => by
        rw [Tryz.params6] at ht
        have hm : t ∈ [22, 5] := by simpa using Array.mem_of_getElem? ht
        have hall : ([22, 5].all fun u => !Tryz.prog.wantsStandIn u) = true := by kernel_rfl
        exact (show Tryz.prog.wantsStandIn t = false by simpa using List.all_eq_true.1 hall t hm)⟩)
    (by kernel_rfl)
#print axioms stepLonely_card
end Go.Proofs.YtlmcphcgiclanaaGreatDoor
