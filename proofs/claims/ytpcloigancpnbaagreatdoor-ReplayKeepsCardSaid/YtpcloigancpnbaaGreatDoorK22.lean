/- Part of the proof of a law of this seat (1 texts). No conditions. -/
import Derived.Test.YtpcloigancpnbaaGreatDoorK5
import Derived.Test.YtpcloigancpnbaaGreatDoorK21
import Derived.Test.YtpcloigancpnbaaGreatDoorK16
import Derived.Test.YtpcloigancpnbaaGreatDoorK6
set_option linter.unusedVariables false
set_option linter.unusedSimpArgs false
set_option linter.unnecessarySimpa false
set_option maxHeartbeats 100000000
namespace Go.Proofs.YtpcloigancpnbaaGreatDoor
open Go.Bil
open Go.RowKit (Below)
open Go.Proofs
open Go.Proofs.Tryz
theorem bLk:Go.Sort.SWO (Go.Proofs.ltOf fun (a b:Body)=>qE a.key b.key):=by
 have e:∀ x y:Body,Go.Proofs.ltOf (fun (a b:Body)=>qE a.key b.key) x y=decide (x.key < y.key):=fun x y=>decide_eq_decide.2 yK
 refine ⟨fun x => ?_,fun x y z => ?_,fun x y z => ?_⟩
 ·rw [e];simp
 ·rw [e,e,e];simp only [decide_eq_true_eq];omega
 ·rw [e,e,e];simp only [decide_eq_false_iff_not];omega
theorem aDn (g:Nat) (hg:aW prog g=true) (hc:aVc prog g aF (fun (a b:Body)=>qE a.key b.key)) (w:World) (A:Option Addr) (n c:Nat) (xs:List Body) (e:eL) (hR:aZ 43 10 A n c (xs.map aF) e) (hw:Own [e] w) (hn:n≤1048576) :
  Calls prog 72 #[.slice A n c,.func (.func g) #[] #[]] w (fun ex w'=>∃ v,ex=.returned v∧v=.tuple #[]∧∃ (ys:List Body) (e':eL),ys.Perm xs∧Up ys∧aZ 43 10 A n c (ys.map aF) e'∧Mem w (bY [e]) [e'] w'):=by
 have h:=xD bAr (T:=43) bQ aF iP (fun x v hv=>by simp only [aF,List.mem_cons,List.not_mem_nil,or_false] at hv;rcases hv with h | h | h | h | h | h | h | h | h | h <;> subst h <;> rfl) _ bLk g hg hc w A xs e hR hw (by omega)
 refine Calls.mono h ?_
 rintro ex w' ⟨v,h1,h2,ys,e',h3,h4,h5,h6⟩
 refine ⟨v,h1,h2,ys,e',h3, ?_,h5,h6⟩
 refine List.pairwise_iff_getElem.2 fun i j hi hj hij => ?_
 have:=h4 i j _ _ hij (List.getElem?_eq_getElem hi) (List.getElem?_eq_getElem hj)
 have h:=of_decide_eq_false this
 rw [yK] at h
 omega
theorem aDo:aVc prog 73 aF (fun (a b:Body)=>qE a.key b.key):=fun x y w=>aJh x y w
end Go.Proofs.YtpcloigancpnbaaGreatDoor
