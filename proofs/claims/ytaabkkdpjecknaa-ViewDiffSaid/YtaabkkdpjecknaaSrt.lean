/- Walks of Go functions over the frame of this claim: what each computes, for every input of the stated types (Srt). -/
import Derived.Test.YtaabkkdpjecknaaTy
import Derived.Test.YtaabkkdpjecknaaLib
import Derived.Test.YtaabkkdpjecknaaLay
import Derived.Test.YtaabkkdpjecknaaFwK
import Derived.Test.YtaabkkdpjecknaaMd4
set_option linter.unusedVariables false
set_option linter.unusedSimpArgs false
set_option linter.unnecessarySimpa false
namespace Go.Proofs.Ytaabkkdpjecknaa
open Go.Bil
open Go.RowKit (Below)
open Go.Proofs

theorem swo_key : Go.Sort.SWO (Go.Proofs.ltOf fun (a b : Body) => cmpI a.key b.key) := by
  have e : ∀ x y : Body, Go.Proofs.ltOf (fun (a b : Body) => cmpI a.key b.key) x y = decide (x.key < y.key) := fun x y => decide_eq_decide.2 cmpI_neg
  refine ⟨fun x => ?_, fun x y z => ?_, fun x y z => ?_⟩
  · rw [e]; simp
  · rw [e, e, e]; simp only [decide_eq_true_eq]; omega
  · rw [e, e, e]; simp only [decide_eq_false_iff_not]; omega
theorem sortFunc_bodies (g : Nat) (hg : callOk Try.prog g = true) (hc : CmpOk Try.prog g bodyCells (fun (a b : Body) => cmpI a.key b.key)) (w : World) (A : Option Addr) (n c : Nat) (xs : List Body) (e : Ent) (hR : RowIs 28 10 A n c (xs.map bodyCells) e) (hw : Own [e] w) (hn : n ≤ 1048576) :
    Calls Try.prog 44 #[.slice A n c, .func (.func g) #[] #[]] w (fun ex w' => ∃ v, ex = .returned v ∧ v = .tuple #[] ∧ ∃ (ys : List Body) (e' : Ent), ys.Perm xs ∧ Up ys ∧ RowIs 28 10 A n c (ys.map bodyCells) e' ∧ Mem w (blks [e]) [e'] w') := by
  have h := sortFunc_rows sortB_lay (T := 28) agg28 bodyCells bodyCells_len (fun x v hv => by simp only [bodyCells, List.mem_cons, List.not_mem_nil, or_false] at hv; rcases hv with h | h | h | h | h | h | h | h | h | h <;> subst h <;> rfl) _ swo_key g hg hc w A xs e hR hw (by omega)
  refine Calls.mono h ?_
  rintro ex w' ⟨v, h1, h2, ys, e', h3, h4, h5, h6⟩
  refine ⟨v, h1, h2, ys, e', h3, ?_, h5, h6⟩
  refine List.pairwise_iff_getElem.2 fun i j hi hj hij => ?_
  have := h4 i j _ _ hij (List.getElem?_eq_getElem hi) (List.getElem?_eq_getElem hj)
  have h := of_decide_eq_false this
  rw [cmpI_neg] at h
  omega

theorem store_Bodies1ok : CmpOk Try.prog 45 bodyCells (fun (a b : Body) => cmpI a.key b.key) := fun x y w => store_Bodies1 x y w

set_option maxHeartbeats 4000000 in
theorem store_Bodies (w : World) (b : Nat) (A : Option Addr) (n c : Nat) (p : Option Nat) (er em : Ent) (m : List Body) (hs : StoreIs 28 A n c p er em m) (hO : Own [(some b, bc [.slice A n c, .map p] 31), er, em] w) :
    Calls Try.prog 17 #[.pointer (some ⟨b, 0, none⟩)] w (fun ex w' => ∃ v, ex = .returned v ∧ (fun v w' => ∃ A' n' c' e', v = .slice A' n' c' ∧ RowIs 28 10 A' n' c' ((sortB m).map bodyCells) e' ∧ Mem w (blks [(some b, bc [.slice A n c, .map p] 31), er, em]) [(some b, bc [.slice A n c, .map p] 31), er, em, e'] w') v w') := by
  have hlen : m.length = n := by simpa using hs.row.1
  have hcap := hs.cap
  refine calls_of_W #[.tmp 2] 14 Try.func17 rfl Try.results17 Try.ntmps17 rfl ?_
  have M0 := hO.mem
  refine W_seq ?_
  refine W_region ?_
  refine wl_q (r_assign (.slice _ _ _) rfl) rfl rfl ?_
  refine wl_nil ?_
  refine thenN ?_
  refine W_seq ?_
  refine W_seq ?_
  refine W_region ?_
  refine wl_q (r_move (.pointer _) rfl) rfl rfl ?_
  refine wl_q (r_eqPtrNil false Try.underlying45 rfl rfl) rfl rfl ?_
  refine wl_nil ?_
  refine thenN ?_
  refine W_condF rfl ?_
  refine W_skip ?_
  refine thenN ?_
  refine W_seq ?_
  refine W_region ?_
  refine wl_q (r_move (.pointer _) rfl) rfl rfl ?_
  refine wl_q (r_nilCheck rfl) rfl rfl ?_
  refine wl_q (r_fieldAddr 0 fld31_0 rfl) rfl rfl ?_
  refine wl_q (r_ld 0 (.slice _ _ _) one22 M0 rfl rfl rfl) rfl rfl ?_
  refine wl_cal cal43 rfl rfl rfl ?_
  refine (slices_CloneB _ _ _ _ _ (hs.row.rd M0 (nthMem (i := 1) rfl)) (bodies_one m) (by omega)).mono ?_
  rintro _ w1 ⟨v1, rfl, ⟨A1, n1, c1, e1, rfl, hR1, hM1, _⟩⟩
  refine ⟨_, rfl, ?_⟩
  have M1 : Mem _ _ [_, _, _, _] _ := M0.call0 hM1
  have hn1 : n1 = m.length := by simpa using hR1.1.symm
  refine wl_q (r_assign (.slice _ _ _) rfl) rfl rfl ?_
  refine wl_nil ?_
  refine thenN ?_
  refine W_seq ?_
  refine W_region ?_
  refine wl_q (r_move (.slice _ _ _) rfl) rfl rfl ?_
  refine wl_cal cal44 rfl rfl rfl ?_
  refine (sortFunc_bodies 45 cal45 store_Bodies1ok _ _ _ _ m _ hR1 (M1.ownAt (i := 3) rfl) (by omega)).mono ?_
  rintro _ w2 ⟨v2, rfl, ⟨rfl, ys2, e2, hp2, hu2, hR2, hM2⟩⟩
  refine ⟨_, rfl, ?_⟩
  have M2 : Mem _ _ [_, _, _, _] _ := M1.seg 3 1 hM2
  have hys : ys2 = sortB m := up_unique hu2 (sortB_up m) (hp2.trans (sortB_perm m).symm) (hs.keys.perm hp2)
  rw [hys] at hR2
  refine wl_nil ?_
  refine thenN ?_
  refine W_seq ?_
  refine W_region ?_
  refine wl_q (r_move (.slice _ _ _) rfl) rfl rfl ?_
  refine wl_q (r_assign (.slice _ _ _) rfl) rfl rfl ?_
  refine wl_nil ?_
  refine thenN ?_
  refine W_ret ?_
  skip
  refine fin1 (.slice _ _ _) rfl ?_
  exact ⟨_, _, _, _, rfl, hR2, M2⟩

end Go.Proofs.Ytaabkkdpjecknaa
