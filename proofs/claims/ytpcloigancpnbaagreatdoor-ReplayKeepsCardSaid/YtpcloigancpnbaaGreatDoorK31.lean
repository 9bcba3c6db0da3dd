/- Part of the proof of a law of this seat (1 texts). No conditions. -/
import Derived.Test.YtpcloigancpnbaaGreatDoorK30
import Derived.Test.YtpcloigancpnbaaGreatDoorK13
set_option linter.unusedVariables false
set_option linter.unusedSimpArgs false
set_option linter.unnecessarySimpa false
set_option maxHeartbeats 100000000
namespace Go.Proofs.YtpcloigancpnbaaGreatDoor
open Go.Bil
open Go.RowKit (Below)
open Go.Proofs
open Go.Proofs.Tryz
theorem aIl (w:World) (b:Body) :
  Calls prog 150 #[(.agg (aF b).toArray)] w (Rb w (.bool (decide (b.mass=0)))):=by
 refine aI #[.tmp 2] 6 func150 Z results150 ntmps150 Z ?_
 have M0:=Mem.refl w
 refine aE (aA (bN (.agg (.mk _)) M0 Z Z Z (fun b1 w1 M1=>(wq (aJ (.bool false) Z) Z (aB (aC (aE (aA (wq (aD 4 eM Z) Z (wq (aK 0 (.int _ _) aY M1 Z Z Z) Z (cX Z Z Z Z (wq (aJ (.bool (decide _)) Z) Z (aB (aC (aO (cI (.bool (decide _)) Z ?_))))))))))))))))
 exact ⟨Z,M1.below⟩
end Go.Proofs.YtpcloigancpnbaaGreatDoor
