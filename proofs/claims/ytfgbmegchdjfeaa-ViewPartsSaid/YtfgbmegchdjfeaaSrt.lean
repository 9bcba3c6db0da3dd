/- Walks of Go functions over the frame of this claim: what each computes, for every input of the stated types (Srt). -/
import Derived.Test.YtfgbmegchdjfeaaTy
import Derived.Test.YtfgbmegchdjfeaaLib
import Derived.Test.YtfgbmegchdjfeaaLay
import Derived.Test.YtfgbmegchdjfeaaFwK
import Derived.Test.YtfgbmegchdjfeaaMd4
set_option linter.unusedVariables false
set_option linter.unusedSimpArgs false
set_option linter.unnecessarySimpa false
namespace Go.Proofs.Ytfgbmegchdjfeaa
open Go.Bil
open Go.RowKit (Below)
open Go.Proofs

theorem swo_key : Go.Sort.SWO (Go.Proofs.ltOf fun (a b : Body) => cmpI a.key b.key) := by
  have e : ∀ x y : Body, Go.Proofs.ltOf (fun (a b : Body) => cmpI a.key b.key) x y = decide (x.key < y.key) := fun x y => decide_eq_decide.2 cmpI_neg
  refine ⟨fun x => ?_, fun x y z => ?_, fun x y z => ?_⟩
  · rw [e]; simp
  · rw [e, e, e]; simp only [decide_eq_true_eq]; omega
  · rw [e, e, e]; simp only [decide_eq_false_iff_not]; omega
theorem sortFunc_bodies (g : Nat) (hg : callOk Try.prog g = true) (hc : CmpOk Try.prog g bodyCells (fun (a b : Body) => cmpI a.key b.key)) (w : World) (A : Option Addr) (n c : Nat) (xs : List Body) (e : Ent) (hR : RowIs 38 10 A n c (xs.map bodyCells) e) (hw : Own [e] w) (hn : n ≤ 1048576) :
    Calls Try.prog 21 #[.slice A n c, .func (.func g) #[] #[]] w (fun ex w' => ∃ v, ex = .returned v ∧ v = .tuple #[] ∧ ∃ (ys : List Body) (e' : Ent), ys.Perm xs ∧ Up ys ∧ RowIs 38 10 A n c (ys.map bodyCells) e' ∧ Mem w (blks [e]) [e'] w') := by
  have h := sortFunc_rows sortB_lay (T := 38) agg38 bodyCells bodyCells_len (fun x v hv => by simp only [bodyCells, List.mem_cons, List.not_mem_nil, or_false] at hv; rcases hv with h | h | h | h | h | h | h | h | h | h <;> subst h <;> rfl) _ swo_key g hg hc w A xs e hR hw (by omega)
  refine Calls.mono h ?_
  rintro ex w' ⟨v, h1, h2, ys, e', h3, h4, h5, h6⟩
  refine ⟨v, h1, h2, ys, e', h3, ?_, h5, h6⟩
  refine List.pairwise_iff_getElem.2 fun i j hi hj hij => ?_
  have := h4 i j _ _ hij (List.getElem?_eq_getElem hi) (List.getElem?_eq_getElem hj)
  have h := of_decide_eq_false this
  rw [cmpI_neg] at h
  omega

end Go.Proofs.Ytfgbmegchdjfeaa
