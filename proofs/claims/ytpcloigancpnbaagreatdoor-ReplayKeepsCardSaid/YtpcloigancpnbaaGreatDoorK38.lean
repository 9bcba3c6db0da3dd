/- Part of the proof of a law of this seat (1 texts). No conditions. -/
import Derived.Test.YtpcloigancpnbaaGreatDoorK5
import Derived.Test.YtpcloigancpnbaaGreatDoorRows
import Derived.Test.YtpcloigancpnbaaGreatDoorK17
import Derived.ProofKit
import Derived.Handed
import Derived.ChangeVars
import Derived.JoinedOf
import Derived.LaidLaws
import Derived.Stop.LaidErr
import Derived.Lib.LaidTab
set_option linter.unusedVariables false
set_option linter.unusedSimpArgs false
set_option linter.unnecessarySimpa false
set_option maxHeartbeats 100000000
namespace Go.Proofs.YtpcloigancpnbaaGreatDoor
open Go.Bil
open Go.RowKit (Below)
open Go.Proofs
open Go.ChangeShapes Go.WideShapes Go.ChangeAt Go.RowKit
open Go.Proofs.Tryz
theorem gN:prog.globalNamed "billiard/box.none" = some 3:=by kernel_rfl
theorem gNt:(prog.globals[3]?).map (·.type)=some 248:=by kernel_rfl
theorem gF:prog.globalNamed "billiard/cell.factors" = some 0:=by kernel_rfl
theorem gFt:(prog.globals[0]?).map (·.type)=some 315:=by kernel_rfl
theorem bIn:prog.cellsOf 248=4:=by kernel_rfl
theorem bIp:prog.cellsOf 21=1:=by kernel_rfl
theorem bIo:prog.cellsOf 315=2:=by kernel_rfl
theorem bIq:prog.cellsOf 39=1:=by kernel_rfl
def aFz:List (String × DataW Unit):=[("billiard/box.none",Rows.laid_billiard_box_none),("billiard/cell.factors",Rows.laid_billiard_cell_factors)]
theorem qU {H:Type} {enc:TypeId × Value→H} {P:Program} {w:World} {base:Nat} {sp:Nat→Bool} {held:Bool} {fuel:Nat} {t:TypeId} {k:IntKind} {c:Value} {y:DataW H × List MemPlace}
  (ht:P.underlying t=some (.int k)) (h:DataW.trod enc P w base sp held fuel t [c]=some y):∃ n,c=.int k n∧y=(.lit (.int k n),[]):=by
 cases fuel with
 | zero=>simp [DataW.trod] at h
 | succ fuel =>
  cases c <;> simp [DataW.trod,ht] at h
  rename_i k' n
  obtain ⟨⟨rfl,_⟩,rfl⟩:=h
  exact ⟨n,Z,Z⟩
theorem bJl {l:List Value} (h:l.length=4):∃ c0 c1 c2 c3,l=[c0,c1,c2,c3]:=by
 rcases l with _ | ⟨c0,_ | ⟨c1,_ | ⟨c2,_ | ⟨c3,_ | ⟨c4,l⟩⟩⟩⟩⟩
 ·simp at h
 ·simp at h
 ·simp at h
 ·simp at h
 ·exact ⟨c0,c1,c2,c3,Z⟩
 ·simp at h
theorem aMw {W:World} (h:laidMet prog aFz W):W.var? prog "billiard/box.none" = some #[.int .i32 1,.int .i32 0,.int .i32 0,.int .i32 0]:=by
 obtain ⟨ps,⟨g,t,cs,fuel,p,q,hg,ht,hvar,hd,_,_⟩,_⟩:=h
 obtain rfl:=Option.some.inj (gN.symm.trans hg)
 obtain rfl:=Option.some.inj (gNt.symm.trans ht)
 rw [hvar]
 congr 1
 obtain ⟨l⟩:=cs
 cases fuel with
 | zero=>simp [DataW.trod] at hd
 | succ fuel =>
  simp only [DataW.trod,underlying248,bIn] at hd
  split at hd
  ·rename_i hl
   obtain ⟨c0,c1,c2,c3,rfl⟩:=bJl hl
   simp only [Option.map_eq_some_iff,List.mapM_cons,List.mapM_nil,Option.bind_eq_bind,Option.bind_eq_some_iff,Option.pure_def,Option.some.injEq] at hd
   obtain ⟨xs,⟨y0,h0,_,⟨y1,h1,_,⟨y2,h2,_,⟨y3,h3,_,rfl,rfl⟩,rfl⟩,rfl⟩,rfl⟩,hx⟩:=hd
   rw [bIp] at h0 h1 h2 h3
   replace h0:DataW.trod _ _ _ _ _ _ _ _ [c0]=_:=h0
   replace h1:DataW.trod _ _ _ _ _ _ _ _ [c1]=_:=h1
   replace h2:DataW.trod _ _ _ _ _ _ _ _ [c2]=_:=h2
   replace h3:DataW.trod _ _ _ _ _ _ _ _ [c3]=_:=h3
   obtain ⟨n0,rfl,rfl⟩:=qU underlying21 h0
   obtain ⟨n1,rfl,rfl⟩:=qU underlying21 h1
   obtain ⟨n2,rfl,rfl⟩:=qU underlying21 h2
   obtain ⟨n3,rfl,rfl⟩:=qU underlying21 h3
   simp [Rows.laid_billiard_box_none] at hx
   obtain ⟨⟨rfl,rfl,rfl,rfl⟩,_⟩:=hx
   rfl
  ·cases hd
theorem aPc {W:World} (h:laidMet prog aFz W):W.var? prog "billiard/cell.factors" = some #[.int .u32 73856093,.int .u32 19349663] :=
 Lib.tabIs_of_head (k:=.u32) (zs:=[73856093,19349663]) gF gFt underlying315 underlying39 bIq bIo (laidMet.tail h)
theorem aKr {P:Program} {W:World} {n:String} {g sz:Nat} {l:List Value} (hg:P.globalNamed n=some g) (h:W.var? P n=some l.toArray) (hl:l.length=sz):Rd W sz (some ⟨g,0,none⟩) 1 [l]:=by
 simp only [World.var?,hg,Option.bind_some] at h
 split at h
 ·rename_i cs t fr hb
  injection h with h
  subst h
  refine ⟨rfl,by simp [hl],by omega,fun _=>⟨g,0,rfl,(Array.getElem?_eq_some_iff.1 hb).1,fun i m hm => ?_⟩⟩
  obtain ⟨rfl,rfl⟩:i=0∧m=l:=by
   cases i with
   | zero=>simpa using hm.symm
   | succ i=>simp at hm
  simpa using dL.of_heap hb (by simp)
 ·cases h
theorem rdN {W:World} (h:laidMet prog aFz W):Rd W 4 (some ⟨3,0,none⟩) 1 [eC iU]:=aKr gN (aMw h) rfl
theorem rdF {W:World} (h:laidMet prog aFz W):Rd W 2 (some ⟨0,0,none⟩) 1 [[.int .u32 73856093,.int .u32 19349663]]:=aKr gF (aPc h) rfl
def aQz (cs:Array Value):Obj→Obj
 | .cells _ t frozen=>.cells cs t frozen
 | o=>o
noncomputable def aZh (os:Os):World :=
 { World.holding prog os ⟨#[],#[],[]⟩ with heap:=((World.holding prog os ⟨#[],#[],[]⟩).heap.modify 3 (aQz #[.int .i32 1,.int .i32 0,.int .i32 0,.int .i32 0])).modify 0 (aQz #[.int .u32 73856093,.int .u32 19349663]) }
end Go.Proofs.YtpcloigancpnbaaGreatDoor
