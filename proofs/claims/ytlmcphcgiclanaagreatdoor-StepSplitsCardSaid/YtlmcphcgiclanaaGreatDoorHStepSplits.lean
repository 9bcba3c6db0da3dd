import Derived.Test.YtlmcphcgiclanaaGreatDoorK5
import Derived.Test.YtlmcphcgiclanaaGreatDoorK31
import Derived.Test.YtlmcphcgiclanaaGreatDoorRows
import Derived.Test.YtlmcphcgiclanaaGreatDoorK32
import Derived.Test.YtlmcphcgiclanaaGreatDoorTie
import Derived.Test.YtlmcphcgiclanaaGreatDoorCards
import Derived.WalkKit
import Derived.ProofKit
import Derived.OpenShut
import Derived.ShutString
import Derived.ChangeOld
import Derived.Below
import Derived.SizedLaws
set_option linter.unusedVariables false
set_option linter.unusedSimpArgs false
set_option linter.unnecessarySimpa false
namespace Go.Proofs.YtlmcphcgiclanaaGreatDoor
open Go.Bil
open Go.RowKit (Below)
open Go.Proofs
set_option maxHeartbeats 16000000 in
theorem uJ (w : World) (F : Rd w 2 (some ⟨0, 0, none⟩) 1 [[.int .u32 73856093, .int .u32 19349663]]) (N : Rd w 4 (some ⟨3, 0, none⟩) 1 [cS gY]) (f g : Nat) (hf : f ≤ 255) (hg : g ≤ 255) (A : Option Addr) (n c : Nat) (xs : List Body) (R : Rd w 10 A n (xs.map aI)) :
    Calls Tryz.prog 7 #[.slice A n c, .int .u8 (f : Int), .int .u8 (g : Int)] w (fun ex w' => ∃ v, ex = .returned v ∧ (fun v w' => v = .bool true ∧ Below w.heap.size w w') v w') := by
  have hlen : xs.length = n := by simpa using R.len
  have hbd := R.bound
  refine aJ #[.tmp 6] 117 Tryz.func7 rfl Tryz.results7 Tryz.ntmps7 rfl ?_
  have M0 := Mem.refl w
  refine aG (aB ?_)
  refine aA (aD (.bool false) rfl) rfl rfl ?_
  refine aE (aF (aG (aB ?_)))
  refine aA (aC (.slice _ _ _) rfl) rfl rfl ?_
  refine aK aXc rfl rfl rfl ?_
  refine (aEc _ _ _ _ xs (R.mem M0)).mono ?_
  rintro _ w1 ⟨v1, rfl, ⟨r, rfl, hr, hM1⟩⟩
  refine ⟨_, rfl, ?_⟩
  have M1 : Mem _ _ [_] _ := M0.call0 hM1
  refine aA (aC (.tuple (List.toArray _)) rfl) rfl rfl ?_
  refine aA (bC (.slice _ _ _) rfl rfl) rfl rfl ?_
  refine aA (bC (.bool (decide _)) rfl rfl) rfl rfl ?_
  refine aA (aD (.slice _ _ _) rfl) rfl rfl ?_
  refine aA (aD (.bool (decide _)) rfl) rfl rfl ?_
  refine aE (aF (aG (aG (aB ?_))))
  refine aK aRn rfl rfl rfl ?_
  refine (aXd _ (F.mem M1) (N.mem M1)).mono ?_
  rintro _ w2 ⟨v2, rfl, ⟨rfl, hb2⟩⟩
  refine ⟨_, rfl, ?_⟩
  have M2 := M1.callB hb2
  refine aA (kT false rfl rfl) rfl rfl ?_
  refine aA (aC (.bool false) rfl) rfl rfl ?_
  refine aA (aC (.bool (decide _)) rfl) rfl rfl ?_
  refine aA (oD rfl) rfl rfl ?_
  refine aA (bL false (.bool (decide _)) rfl rfl) rfl rfl ?_
  refine aE (aF ?_)
  refine aZ rfl (fun h30 => ?_) (fun h30 => ?_)
  · refine aG (aB ?_)
    refine aK aRn rfl rfl rfl ?_
    refine (aXd _ (F.mem M2) (N.mem M2)).mono ?_
    rintro _ w3 ⟨v3, rfl, ⟨rfl, hb3⟩⟩
    refine ⟨_, rfl, ?_⟩
    have M3 := M2.callB hb3
    refine aA (aD (.bool true) rfl) rfl rfl ?_
    refine aE (aF (aR (cP ?_)))
    refine cH (.bool true) rfl ?_
    exact ⟨rfl, M3.below⟩
  · obtain ⟨hV, hve, hvk⟩ := aPt (Decidable.not_not.1 h30)
    have hvl := hV.len
    have hrn : (dY xs).length = r.n := by simpa using hr.1
    have hvs := hV.s
    have hvo := hV.okb
    obtain ⟨a4, ha4⟩ : ∃ m, m = f % 4 := ⟨_, rfl⟩
    obtain ⟨b4, hb4⟩ : ∃ m, m = g % 4 := ⟨_, rfl⟩
    have hal : a4 < 4 := by omega
    have hbl : b4 < 4 := by omega
    refine aN (aF (aG (aB ?_)))
    refine aA (aC (.int _ _) rfl) rfl rfl ?_
    refine aA (aFe rfl rfl (by decide)) rfl rfl ?_
    refine aM 33 (.int .u8 (a4 : Int)) (iE (aAj rfl ha4)) ?_
    refine aA (bQ us5 Tryz.underlying3 rfl (jT _ (by omega) (by omega))) rfl rfl ?_
    refine aA (aD (.int _ _) rfl) rfl rfl ?_
    refine aE (aF (aG (aB ?_)))
    refine aA (aC (.int _ _) rfl) rfl rfl ?_
    refine aA (aFe rfl rfl (by decide)) rfl rfl ?_
    refine aM 36 (.int .u8 (b4 : Int)) (iE (aAj rfl hb4)) ?_
    refine aA (bQ us5 Tryz.underlying3 rfl (jT _ (by omega) (by omega))) rfl rfl ?_
    refine aA (aD (.int _ _) rfl) rfl rfl ?_
    refine aE (aF (aG (aB ?_)))
    refine aA (aC (.slice _ _ _) rfl) rfl rfl ?_
    refine aA (aC (.int _ _) rfl) rfl rfl ?_
    refine aK zV rfl rfl rfl ?_
    refine (jP _ (F.mem M2) (N.mem M2) _ _ _ (dY xs) (hr.rd M2 (aP (i := 0) rfl)) hvo hvs (by omega) _ a4 (by omega) (by omega)).mono ?_
    rintro _ w4 ⟨v4, rfl, ⟨rx, tx, rfl, h1tx, h2tx, hrx, hM4⟩⟩
    refine ⟨_, rfl, ?_⟩
    have M4 : Mem _ _ [_, _] _ := M2.call0 hM4
    have hnrx : (dB (dY xs) a4).length = rx.n := by simpa using hrx.1
    have hkrx := gI (dY xs) a4
    have hlrx := hkrx.len
    refine aA (aC (.tuple (List.toArray _)) rfl) rfl rfl ?_
    refine aA (bC (.slice _ _ _) rfl rfl) rfl rfl ?_
    refine aA (bC (.agg (List.toArray _)) rfl rfl) rfl rfl ?_
    refine aS jF M4 rfl rfl (fun b5 w5 M5 => ?_)
    refine aA (aD (.slice _ _ _) rfl) rfl rfl ?_
    refine bJ 2 _ hJ M5 rfl rfl rfl rfl rfl (aU rfl) rfl (fun w6 M6 => ?_)
    refine aE (aF (aG (aB ?_)))
    refine aA (aC (.slice _ _ _) rfl) rfl rfl ?_
    refine aA (aC (.int _ _) rfl) rfl rfl ?_
    refine aK zV rfl rfl rfl ?_
    refine (jP _ (F.mem M6) (N.mem M6) _ _ _ (dB (dY xs) a4) (hrx.rd M6 (aP (i := 1) rfl)) (sZ hvo a4) (pG hvs a4) (by omega) _ b4 (by omega) (by omega)).mono ?_
    rintro _ w7 ⟨v7, rfl, ⟨ry, ty, rfl, h1ty, h2ty, hry, hM7⟩⟩
    refine ⟨_, rfl, ?_⟩
    have M7 : Mem _ _ [_, _, _, _] _ := M6.call0 hM7
    have hnry : (dB (dB (dY xs) a4) b4).length = ry.n := by simpa using hry.1
    have hkry := gI (dB (dY xs) a4) b4
    have hlry := hkry.len
    refine aA (aC (.tuple (List.toArray _)) rfl) rfl rfl ?_
    refine aA (bC (.slice _ _ _) rfl rfl) rfl rfl ?_
    refine aA (bC (.agg (List.toArray _)) rfl rfl) rfl rfl ?_
    refine aS jF M7 rfl rfl (fun b8 w8 M8 => ?_)
    refine aA (aD (.slice _ _ _) rfl) rfl rfl ?_
    refine bJ 4 _ hJ M8 rfl rfl rfl rfl rfl (aU rfl) rfl (fun w9 M9 => ?_)
    refine aE (aF (aG (aB ?_)))
    refine aA (aC (.slice _ _ _) rfl) rfl rfl ?_
    refine aA (aC (.int _ _) rfl) rfl rfl ?_
    refine aA (aC (.int _ _) rfl) rfl rfl ?_
    refine aA (bW rfl rfl (by omega) (by omega)) rfl rfl ?_
    refine aM 54 (.int .i64 ((a4 + b4 : Nat) : Int)) (iE (by omega)) ?_
    refine aK zV rfl rfl rfl ?_
    refine (jP _ (F.mem M9) (N.mem M9) _ _ _ (dY xs) (hr.rd M9 (aP (i := 0) rfl)) hvo hvs (by omega) _ (a4 + b4) (by omega) (by omega)).mono ?_
    rintro _ w10 ⟨v10, rfl, ⟨rz, tz, rfl, h1tz, h2tz, hrz, hM10⟩⟩
    refine ⟨_, rfl, ?_⟩
    have M10 : Mem _ _ [_, _, _, _, _, _] _ := M9.call0 hM10
    have hnrz : (dB (dY xs) (a4 + b4)).length = rz.n := by simpa using hrz.1
    have hkrz := gI (dY xs) (a4 + b4)
    have hlrz := hkrz.len
    have hzN := uS (dY xs) a4 b4
    have hzC := uL (dY xs) a4 b4
    refine aA (aC (.tuple (List.toArray _)) rfl) rfl rfl ?_
    refine aA (bC (.slice _ _ _) rfl rfl) rfl rfl ?_
    refine aA (bC (.agg (List.toArray _)) rfl rfl) rfl rfl ?_
    refine aS jF M10 rfl rfl (fun b11 w11 M11 => ?_)
    refine aA (aD (.slice _ _ _) rfl) rfl rfl ?_
    refine bJ 6 _ hJ M11 rfl rfl rfl rfl rfl (aU rfl) rfl (fun w12 M12 => ?_)
    refine aE (aF (aG (aB ?_)))
    refine aA (aC (.slice _ _ _) rfl) rfl rfl ?_
    refine aK zV rfl rfl rfl ?_
    refine (jP _ (F.mem M12) (N.mem M12) _ _ _ (dY xs) (hr.rd M12 (aP (i := 0) rfl)) hvo hvs (by omega) _ 0 (by omega) (by omega)).mono ?_
    rintro _ w13 ⟨v13, rfl, ⟨ro, to_, rfl, h1to_, h2to_, hro, hM13⟩⟩
    refine ⟨_, rfl, ?_⟩
    have M13 : Mem _ _ [_, _, _, _, _, _, _, _] _ := M12.call0 hM13
    have hnro : (dB (dY xs) 0).length = ro.n := by simpa using hro.1
    have hkro := gI (dY xs) 0
    have hlro := hkro.len
    obtain rfl : to_ = 0 := by omega
    clear h1to_ h2to_
    refine aA (aC (.tuple (List.toArray _)) rfl) rfl rfl ?_
    refine aA (bC (.slice _ _ _) rfl rfl) rfl rfl ?_
    refine aA (bC (.agg (List.toArray _)) rfl rfl) rfl rfl ?_
    refine aS jF M13 rfl rfl (fun b14 w14 M14 => ?_)
    refine aA (aD (.slice _ _ _) rfl) rfl rfl ?_
    refine bJ 8 _ hJ M14 rfl rfl rfl rfl rfl (aU rfl) rfl (fun w15 M15 => ?_)
    refine aE (aF (aG (aG (aB ?_))))
    refine aA (aD (.int _ _) rfl) rfl rfl ?_
    refine aE (aF (bA ?_))
    refine dJ (σ := Nat) [7, 12, 13, 14, 15, 16, 17, 18] (fun i => [(19, .int .i64 (i : Int))]) (fun i w' => i ≤ r.n ∧ Mem w [] [r.e, rx.e, (some b5, bc [.int .i64 (tx : Int), .int .i64 (fS (dY xs) a4 : Int), .bool (gX (dY xs) a4)] 27), ry.e, (some b8, bc [.int .i64 (ty : Int), .int .i64 (fS (dB (dY xs) a4) b4 : Int), .bool (gX (dB (dY xs) a4) b4)] 27), rz.e, (some b11, bc [.int .i64 (tz : Int), .int .i64 (fS (dY xs) (a4 + b4) : Int), .bool (gX (dY xs) (a4 + b4))] 27), ro.e, (some b14, bc [.int .i64 ((0 : Nat) : Int), .int .i64 (fS (dY xs) 0 : Int), .bool (gX (dY xs) 0)] 27)] w') (fun i => r.n - i) 0 (bV rfl eX) (⟨by omega, M15⟩) ?_
    rintro i ρ16 w16 ⟨hi, hM16⟩
    refine aG (aG (aB ?_))
    refine aA (aC (.int _ _) rfl) rfl rfl ?_
    refine aA (aC (.slice _ _ _) rfl) rfl rfl ?_
    refine aA (cR Tryz.underlying22 rfl) rfl rfl ?_
    refine aA (aO (.bool (decide _)) rfl rfl rfl) rfl rfl ?_
    refine aE (aF ?_)
    refine aZ rfl (fun h66 => ?_) (fun h66 => ?_)
    · obtain ⟨x, hx⟩ := cN (xs := (dY xs)) (k := i) hrn (by omega)
      have hox := hvo x (List.mem_of_getElem? hx)
      have hfc := aNj (aRd hox)
      refine aN (aF (aG (bA (aG (aB ?_)))))
      refine aA (aC (.slice _ _ _) rfl) rfl rfl ?_
      refine aA (aC (.int _ _) rfl) rfl rfl ?_
      refine aA (bO (i) dG rfl rfl rfl ((hr.rd hM16 (aP (i := 0) rfl)).below_len (aL aI hx)) ((hr.rd hM16 (aP (i := 0) rfl)).someK (aL aI hx))) rfl rfl ?_
      refine aA (dK _ bX (hr.rd hM16 (aP (i := 0) rfl)) (aL aI hx) rfl) rfl rfl ?_
      refine aK aRs rfl rfl rfl ?_
      refine (xN _ x hox).mono ?_
      rintro _ w17 ⟨v17, rfl, ⟨rfl, hb17⟩⟩
      refine ⟨_, rfl, ?_⟩
      have M17 := hM16.callB hb17
      refine aK aJt rfl rfl rfl ?_
      refine (mO _ (uV x)).mono ?_
      rintro _ w18 ⟨v18, rfl, ⟨rfl, hb18⟩⟩
      refine ⟨_, rfl, ?_⟩
      have M18 := M17.callB hb18
      refine aA (aO (.bool (decide _)) rfl rfl rfl) rfl rfl ?_
      refine aM 75 (.bool false) (bF (fun h => h hfc)).symm ?_
      refine aE (aF ?_)
      refine cJ rfl ?_
      refine aN ?_
      refine dL ?_
      refine aF (aB ?_)
      refine aA (aC (.int _ _) rfl) rfl rfl ?_
      refine aA (bW rfl rfl (by omega) (by omega)) rfl rfl ?_
      refine aA (aD (.int _ _) rfl) rfl rfl ?_
      refine aE ?_
      refine cE (i + 1) (bV rfl eX) (cI rfl (cI rfl (cI rfl (cI rfl (cI rfl (cI rfl (cI rfl (cI rfl iO)))))))) ?_ ?_
      · exact ⟨by omega, M18⟩
      · omega
    · refine cL ?_
      refine dD ?_
      refine cY ?_
      refine eM ?_
      refine aF (aG (aB ?_))
      refine aA (aC (.slice _ _ _) rfl) rfl rfl ?_
      refine aA (aC (.slice _ _ _) rfl) rfl rfl ?_
      refine aK aMb rfl rfl rfl ?_
      refine (oQ _ _ _ _ _ (hry.rd hM16 (aP (i := 3) rfl)) _ _ _ _ (hrz.rd hM16 (aP (i := 5) rfl))).mono ?_
      rintro _ w19 ⟨v19, rfl, ⟨rfl, hb19⟩⟩
      refine ⟨_, rfl, ?_⟩
      have M19 := hM16.callB hb19
      refine aM 78 (.bool true) (bT (lT _ _ _).symm).symm ?_
      refine aA (aC (.bool true) rfl) rfl rfl ?_
      refine aA (aH 1 iX rfl) rfl rfl ?_
      refine aA (aW 6 (.int _ _) iA M19 rfl rfl rfl) rfl rfl ?_
      refine aA (aH 1 iX rfl) rfl rfl ?_
      refine aA (aW 2 (.int _ _) iA M19 rfl rfl rfl) rfl rfl ?_
      refine aA (aH 1 iX rfl) rfl rfl ?_
      refine aA (aW 4 (.int _ _) iA M19 rfl rfl rfl) rfl rfl ?_
      refine aA (bW rfl rfl (by omega) (by omega)) rfl rfl ?_
      refine aA (aO (.bool (decide _)) rfl rfl rfl) rfl rfl ?_
      refine aM 87 (.bool true) (bT (by omega)).symm ?_
      refine aA (bL true (.bool true) rfl rfl) rfl rfl ?_
      refine aA (aC (.bool true) rfl) rfl rfl ?_
      refine aA (aH 2 iI rfl) rfl rfl ?_
      refine aA (aW 6 (.bool _) jU M19 rfl rfl rfl) rfl rfl ?_
      refine aA (aH 2 iI rfl) rfl rfl ?_
      refine aA (aW 2 (.bool _) jU M19 rfl rfl rfl) rfl rfl ?_
      refine aA (aC (.bool _) rfl) rfl rfl ?_
      refine iL 94 _ rfl (fun g94 => ?_) (fun g94 => ?_)
      · refine aT rfl rfl ?_
        refine aT rfl rfl ?_
        refine aA (bL true (.bool true) rfl rfl) rfl rfl ?_
        refine aA (oG _ Tryz.underlying4 rfl rfl rfl) rfl rfl ?_
        refine aM 98 (.bool true) (bv rfl (by rw [hzC]; first | (rw [g94]; simp; done) | simp)) ?_
        refine aA (bL true (.bool true) rfl rfl) rfl rfl ?_
        refine aA (aC (.bool true) rfl) rfl rfl ?_
        refine aA (aH 0 nQ rfl) rfl rfl ?_
        refine aA (aW 6 (.int _ _) iA M19 rfl rfl rfl) rfl rfl ?_
        refine aA (aH 1 iX rfl) rfl rfl ?_
        refine aA (aW 6 (.int _ _) iA M19 rfl rfl rfl) rfl rfl ?_
        refine aA (aO (.bool (decide _)) rfl rfl rfl) rfl rfl ?_
        refine aM 105 (.bool true) (bT (by omega)).symm ?_
        refine aA (bL true (.bool true) rfl rfl) rfl rfl ?_
        refine aA (aC (.bool true) rfl) rfl rfl ?_
        refine aA (aC (.slice _ _ _) rfl) rfl rfl ?_
        refine aA (aC (.slice _ _ _) rfl) rfl rfl ?_
        refine aK aMb rfl rfl rfl ?_
        refine (oQ _ _ _ _ _ (hro.rd M19 (aP (i := 7) rfl)) _ _ _ _ (hr.rd M19 (aP (i := 0) rfl))).mono ?_
        rintro _ w20 ⟨v20, rfl, ⟨rfl, hb20⟩⟩
        refine ⟨_, rfl, ?_⟩
        have M20 := M19.callB hb20
        refine aM 110 (.bool true) (bT rfl).symm ?_
        refine aA (bL true (.bool true) rfl rfl) rfl rfl ?_
        refine aA (aC (.bool true) rfl) rfl rfl ?_
        refine aA (bB 8 hJ M20 rfl rfl rfl) rfl rfl ?_
        refine aA (cB [] _ oV rfl rfl) rfl rfl ?_
        refine aA (oB (aQa _ _ _ _ _ _) rfl rfl) rfl rfl ?_
        refine aM 115 (.bool true) (bT ⟨rfl, rfl, rfl⟩).symm ?_
        refine aA (bL true (.bool true) rfl rfl) rfl rfl ?_
        refine aA (aD (.bool true) rfl) rfl rfl ?_
        refine aE (aF (aR ?_))
        refine cH (.bool true) rfl ?_
        exact ⟨rfl, M20.below⟩
      · refine aA (aH 2 iI rfl) rfl rfl ?_
        refine aA (aW 4 (.bool _) jU M19 rfl rfl rfl) rfl rfl ?_
        refine aA (bL false (.bool _) rfl rfl) rfl rfl ?_
        refine aA (oG _ Tryz.underlying4 rfl rfl rfl) rfl rfl ?_
        refine aM 98 (.bool true) (bv rfl (by rw [hzC]; first | (rw [g94]; simp; done) | simp)) ?_
        refine aA (bL true (.bool true) rfl rfl) rfl rfl ?_
        refine aA (aC (.bool true) rfl) rfl rfl ?_
        refine aA (aH 0 nQ rfl) rfl rfl ?_
        refine aA (aW 6 (.int _ _) iA M19 rfl rfl rfl) rfl rfl ?_
        refine aA (aH 1 iX rfl) rfl rfl ?_
        refine aA (aW 6 (.int _ _) iA M19 rfl rfl rfl) rfl rfl ?_
        refine aA (aO (.bool (decide _)) rfl rfl rfl) rfl rfl ?_
        refine aM 105 (.bool true) (bT (by omega)).symm ?_
        refine aA (bL true (.bool true) rfl rfl) rfl rfl ?_
        refine aA (aC (.bool true) rfl) rfl rfl ?_
        refine aA (aC (.slice _ _ _) rfl) rfl rfl ?_
        refine aA (aC (.slice _ _ _) rfl) rfl rfl ?_
        refine aK aMb rfl rfl rfl ?_
        refine (oQ _ _ _ _ _ (hro.rd M19 (aP (i := 7) rfl)) _ _ _ _ (hr.rd M19 (aP (i := 0) rfl))).mono ?_
        rintro _ w21 ⟨v21, rfl, ⟨rfl, hb21⟩⟩
        refine ⟨_, rfl, ?_⟩
        have M21 := M19.callB hb21
        refine aM 110 (.bool true) (bT rfl).symm ?_
        refine aA (bL true (.bool true) rfl rfl) rfl rfl ?_
        refine aA (aC (.bool true) rfl) rfl rfl ?_
        refine aA (bB 8 hJ M21 rfl rfl rfl) rfl rfl ?_
        refine aA (cB [] _ oV rfl rfl) rfl rfl ?_
        refine aA (oB (aQa _ _ _ _ _ _) rfl rfl) rfl rfl ?_
        refine aM 115 (.bool true) (bT ⟨rfl, rfl, rfl⟩).symm ?_
        refine aA (bL true (.bool true) rfl rfl) rfl rfl ?_
        refine aA (aD (.bool true) rfl) rfl rfl ?_
        refine aE (aF (aR ?_))
        refine cH (.bool true) rfl ?_
        exact ⟨rfl, M21.below⟩
end Go.Proofs.YtlmcphcgiclanaaGreatDoor

namespace Go.Proofs.YtlmcphcgiclanaaGreatDoor
open Go.Bil
open Go.RowKit (Below)
open Go.Proofs
namespace stepSplits
open Go.ChangeShapes Go.WideShapes Go.ChangeAt Go.RowKit
open Go.ChangeMaps (open_string shut_string)
theorem own : ownKnob Tryz.prog.godebug = none := by kernel_rfl
theorem laidOut : laidOutB Tryz.prog = true := by kernel_rfl
set_option maxRecDepth 100000 in
theorem lifted (os : Os) (started : os.Started) (H : Type) (enc : TypeId × Value → H) :
    ReturnsInHanded {} Tryz.checked os 7 .any (fun w args => (Rows.stepSplitsSpec.pre enc Tryz.prog Tryz.f7 [] false w args ∧ laidMet Tryz.prog tY w) ∧ sizedMet enc Tryz.prog Tryz.f7 (OpenSpec.ofChange Rows.stepSplitsSpec) false w args) (Rows.stepSplitsSpec.post enc Tryz.prog Tryz.f7 false true false false) := by
  refine returnsInHanded_of_change_and (C := Tryz.checked) (X := fun w _ => laidMet Tryz.prog tY w) (fun _ _ _ hh h => h.of_heap hh) own started (by kernel_rfl) Tryz.func7
    (ChangeSpec.witness_at (enc := enc) (C := Tryz.checked) (os := os) (X := fun w _ => laidMet Tryz.prog tY w) false (aIq os) #[.slice none 0 0, .int .u8 0, .int .u8 0] 8 rfl (by kernel_rfl) (by kernel_rfl) (by kernel_rfl) (by kernel_rfl) (by kernel_rfl) (laidMet_of_run' 8 (by kernel_rfl) (by kernel_rfl))) ?_
  intro W base args ds gs before hval0 hW hcnd hsz0 hL _
  have hsz : (DataW.weightsEach Tryz.prog (Tryz.f7.params.toList ++ Rows.stepSplitsSpec.plain.varTypes Tryz.prog) (ds ++ gs)).all (· ≤ reachBytes) = true := hsz0
  have hval : ∀ (j : Nat) t v, Tryz.f7.params[j]? = some t → args[j]? = some v → Value.okWide Tryz.prog W .any base t v := hval0
  have hW' := hW
  obtain ⟨p, q, hA0, hV, rfl, hfz, hnd⟩ := hW
  have hA : DataW.TrodAll enc Tryz.prog W 0 (fun _ => true) true Tryz.f7.params.toList args.toList ds p := hA0
  rw [Tryz.params7] at hA hval hsz
  obtain ⟨v0, vs0, d0, ds0, p0, q0, hargs, rfl, rfl, h0, r0⟩ := trodAll_cons hA
  obtain ⟨v1, vs1, d1, ds1, p1, q1, rfl, rfl, rfl, h1, r1⟩ := trodAll_cons r0
  obtain ⟨v2, vs2, d2, ds2, p2, q2, rfl, rfl, rfl, h2, r2⟩ := trodAll_cons r1
  obtain ⟨rfl, rfl, rfl⟩ := trodAll_nil r2
  obtain rfl : args = #[v0, v1, v2] := by cases args; simp_all
  obtain ⟨rfl, rfl⟩ := trodVars_none hV
  have k0 := h0
  have lt0 : ∀ x ∈ p0, x.block < W.heap.size := by obtain ⟨m, hm⟩ := k0; exact DataW.trod_lt m _ _ _ hm
  obtain ⟨a0, len0, cap0, rfl⟩ := okWide_slice Tryz.underlying22 (hval 0 22 v0 rfl rfl)
  have y0 := aEv hsz (j := 0) (t := 22) rfl rfl dG h0
  obtain ⟨ls0, R0, hi0⟩ := aIc dG aKy rfl y0 h0
  obtain ⟨xs0, rfl, hx0⟩ := aFz aUh ls0 hi0
  obtain ⟨a1, rfl, rfl, rfl, w1⟩ := open_int Tryz.underlying5 (hval 1 5 v1 rfl rfl) h1
  have b1 : 0 ≤ a1 ∧ a1 ≤ 255 := aCu w1
  obtain ⟨a2, rfl, rfl, rfl, w2⟩ := open_int Tryz.underlying5 (hval 2 5 v2 rfl rfl) h2
  have b2 : 0 ≤ a2 ∧ a2 ≤ 255 := aCu w2
  clear hA0 hval0 hsz0 hsz
  obtain ⟨t1, rfl⟩ := Int.eq_ofNat_of_zero_le b1.1
  obtain ⟨t2, rfl⟩ := Int.eq_ofNat_of_zero_le b2.1
  refine (uJ W (rdF hL) (rdN hL) t1 t2 (by omega) (by omega) _ _ _ xs0 R0).mono fun e W' ⟨v, he, hv, bel⟩ => ?_
  subst he
  subst hv
  exact ⟨_, rfl, _, _, _, [], _, [], hW', trodAll_mk1 (shut_bool Tryz.underlying4 _), (trodAll_cons_mk (Below.trod laidOut (by kernel_rfl) (of_decide_eq_true (by kernel_rfl)) k0 bel lt0) (trodAll_cons_mk (shut_int Tryz.underlying5 w1) (trodAll_cons_mk (shut_int Tryz.underlying5 w2) trodAll_mk0))), rfl, bel.frame _, fun h => by cases h⟩
theorem andT {a b : Bool} (ha : a = true) (hb : b = true) : (a && b) = true := by rw [ha, hb]; rfl
set_option maxHeartbeats 16000000 in
theorem closed : joinedFacts Tryz.prog 7 Tryz.f7 Rows.stepSplitsSpec Rows.stepSplitsRow = true := by
  unfold joinedFacts
  repeat' (with_reducible refine andT ?_ ?_)
  all_goals (as_aux_lemma => kernel_rfl)
theorem over : Rows.stepSplitsRow.holds Tryz.pinned (OpenSpec.ofChange Rows.stepSplitsSpec) :=
  OpenClaim.holds_of_wide 7 Tryz.f7 rfl rfl rfl rfl rfl rfl rfl ⟨rfl, rfl, rfl, rfl, rfl⟩ rfl rfl rfl rfl rfl (by kernel_rfl) Tryz.func7 closed
    (of_decide_eq_true (by kernel_rfl)) (by unfold Func.isWrapper; first | (rw [if_pos (by decide +kernel)]; kernel_rfl) | (rw [if_neg (by decide +kernel)]; exact ⟨rfl, rfl⟩))
    (fun os started H enc _ => lifted os started H enc)
end stepSplits
theorem stepSplits_holds : Rows.StepSplitsSaid := stepSplits.over
#print axioms stepSplits_holds
theorem stepSplits_card : Rows.StepSplitsCardSaid :=
  Claim7.holds_tied_plain_at .later [] [.data, .data] true (true, "efc75206f113ecd8e5cc872cd0b30c800981909977c6e963415616c654d1aab5") false
    stepSplits_holds (fun _ h => by cases h) (by kernel_rfl) (fun _ h => by cases h) stepSplits_row_tie rfl ⟨rfl, rfl⟩ (by kernel_rfl) rfl
    (fun f fn hf hfn => by
      obtain rfl : f = 7 := Option.some.inj ((show Tryz.prog.funcNamed "billiard/billiardlaw20.StepSplits" = some 7 by kernel_rfl).symm.trans hf) |>.symm
      obtain rfl : fn = Tryz.f7 := (Option.some.inj (Tryz.func7.symm.trans hfn)).symm
      exact ⟨by kernel_rfl, fun j t ht => by
        rw [Tryz.params7] at ht
        have hm : t ∈ [22, 5, 5] := by simpa using Array.mem_of_getElem? ht
        have hall : ([22, 5, 5].all fun u => !Tryz.prog.wantsStandIn u) = true := by kernel_rfl
        exact (show Tryz.prog.wantsStandIn t = false by simpa using List.all_eq_true.1 hall t hm)⟩)
    (by kernel_rfl)
#print axioms stepSplits_card
end Go.Proofs.YtlmcphcgiclanaaGreatDoor
