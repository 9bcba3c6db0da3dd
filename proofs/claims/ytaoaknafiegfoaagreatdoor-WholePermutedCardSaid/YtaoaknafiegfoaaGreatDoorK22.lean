/- Part of the proof of the laws of this seat: Srt. No conditions. -/
import Derived.Test.YtaoaknafiegfoaaGreatDoorK2
import Derived.Test.YtaoaknafiegfoaaGreatDoorK5
import Derived.Test.YtaoaknafiegfoaaGreatDoorK21
import Derived.Test.YtaoaknafiegfoaaGreatDoorK16
import Derived.Test.YtaoaknafiegfoaaGreatDoorK6
set_option linter.unusedVariables false
set_option linter.unusedSimpArgs false
set_option linter.unnecessarySimpa false
namespace Go.Proofs.YtaoaknafiegfoaaGreatDoor
open Go.Bil
open Go.RowKit (Below)
open Go.Proofs
theorem aZp : Go.Sort.SWO (Go.Proofs.ltOf fun (a b : Body) => lX a.key b.key) := by
 have e : ∀ x y : Body, Go.Proofs.ltOf (fun (a b : Body) => lX a.key b.key) x y = decide (x.key < y.key) := fun x y => decide_eq_decide.2 tJ
 refine ⟨fun x => ?_, fun x y z => ?_, fun x y z => ?_⟩
 ·rw [e]; simp
 ·rw [e, e, e]; simp only [decide_eq_true_eq]; omega
 ·rw [e, e, e]; simp only [decide_eq_false_iff_not]; omega
theorem wW (g : Nat) (hg : aP Tryz.prog g = true) (hc : aMz Tryz.prog g aF (fun (a b : Body) => lX a.key b.key)) (w : World) (A : Option Addr) (n c : Nat) (xs : List Body) (e : dN) (hR : aW 39 10 A n c (xs.map aF) e) (hw : Own [e] w) (hn : n ≤ 1048576) :
  Calls Tryz.prog 114 #[.slice A n c, .func (.func g) #[] #[]] w (fun ex w' => ∃ v, ex = .returned v ∧ v = .tuple #[] ∧ ∃ (ys : List Body) (e' : dN), ys.Perm xs ∧ Up ys ∧ aW 39 10 A n c (ys.map aF) e' ∧ Mem w (bH [e]) [e'] w') := by
 have h := rK aSm (T := 39) bS aF nC (fun x v hv => by simp only [aF, List.mem_cons, List.not_mem_nil, or_false] at hv; rcases hv with h | h | h | h | h | h | h | h | h | h <;> subst h <;> rfl) _ aZp g hg hc w A xs e hR hw (by omega)
 refine Calls.mono h ?_
 rintro ex w' ⟨v, h1, h2, ys, e', h3, h4, h5, h6⟩
 refine ⟨v, h1, h2, ys, e', h3, ?_, h5, h6⟩
 refine List.pairwise_iff_getElem.2 fun i j hi hj hij => ?_
 have := h4 i j _ _ hij (List.getElem?_eq_getElem hi) (List.getElem?_eq_getElem hj)
 have h := of_decide_eq_false this
 rw [tJ] at h
 omega
theorem wV : aMz Tryz.prog 115 aF (fun (a b : Body) => lX a.key b.key) := fun x y w => aAs x y w
end Go.Proofs.YtaoaknafiegfoaaGreatDoor
