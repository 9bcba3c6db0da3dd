/- The plain side of layer 6: lists of bodies in the order of their keys. -/
import Derived.Test.YtfgbmegchdjfeaaDoorMd
set_option linter.unusedVariables false
namespace Go.Bil

/-- An owned slice, as a loop carries it. -/
structure Row where
  A : Option Addr
  n : Nat
  c : Nat
  e : Ent
def putStep (b : Body) (s : List Body × Bool) (x : Body) : List Body × Bool :=
  let s := if s.2 = false ∧ b.key ≤ x.key then (s.1 ++ [b], true) else s
  if x.key ≠ b.key then (s.1 ++ [x], s.2) else s
def putAll (b : Body) (gone : Bool) (xs : List Body) : List Body × Bool := xs.foldl (putStep b) ([], gone)
def putB (xs : List Body) (b : Body) (gone : Bool) : List Body :=
  let s := putAll b gone xs
  if s.2 then s.1 else s.1 ++ [b]
def room (s : List Body × Bool) : Nat := s.1.length + (if s.2 then 0 else 1)
theorem putStep_room (b : Body) (s : List Body × Bool) (x : Body) : room (putStep b s x) ≤ room s + 1 := by
  obtain ⟨l, d⟩ := s
  unfold putStep room
  cases d <;> by_cases h : b.key ≤ x.key <;> by_cases h2 : x.key = b.key <;> simp [h, h2] <;> omega
theorem putAll_room (b : Body) : ∀ (xs : List Body) (s : List Body × Bool), room (xs.foldl (putStep b) s) ≤ room s + xs.length
  | [], s => by simp
  | x :: xs, s => by
    have h1 := putAll_room b xs (putStep b s x)
    have h2 := putStep_room b s x
    simp only [List.foldl_cons, List.length_cons]
    omega
theorem take_snoc {α : Type} {xs : List α} {k : Nat} {x : α} (h : xs[k]? = some x) : xs.take (k + 1) = xs.take k ++ [x] := by
  rw [List.take_add_one, h]
  rfl
theorem putAll_snoc (b : Body) (gone : Bool) {xs : List Body} {k : Nat} {x : Body} (h : xs[k]? = some x) : putAll b gone (xs.take (k + 1)) = putStep b (putAll b gone (xs.take k)) x := by
  unfold putAll
  rw [take_snoc h, List.foldl_append]
  rfl
theorem putAll_len (b : Body) (gone : Bool) (xs : List Body) (k : Nat) : (putAll b gone (xs.take k)).1.length ≤ k + 1 := by
  have h := putAll_room b (xs.take k) ([], gone)
  have h2 : (xs.take k).length ≤ k := List.length_take_le _ _
  unfold room at h
  unfold putAll
  have h3 : (if gone = true then 0 else 1) ≤ 1 := by split <;> omega
  simp only [List.length_nil] at h
  omega
end Go.Bil
