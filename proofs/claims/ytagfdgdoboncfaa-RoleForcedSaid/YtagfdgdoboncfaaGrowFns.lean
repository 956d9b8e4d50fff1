/- The chain that numbers grow. No program in sight. -/
import Derived.Test.YtagfdgdoboncfaaChainFns
namespace Go.Proofs.Ytagfdgdoboncfaa
def growStep (s : List Tag × Int) (x : Int) : List Tag × Int :=
  if 20 ≤ s.1.length then s
  else if x / 4 % 2 = 0 then (s.1, s.2 + x % 4)
  else (s.1 ++ [if x / 16 % 2 = 0 then ⟨nextId s.1 (1 + x / 8 % 2), 1 + x / 8 % 2, 0, s.2 + x % 4⟩ else ⟨nextId s.1 (1 + x / 8 % 2), 0, 3 - (1 + x / 8 % 2), s.2 + x % 4⟩], s.2 + x % 4)
def grow (l : List Int) : List Tag × Int := l.foldl growStep ([⟨1, 1, 0, 0⟩], 0)
theorem grow_more {l : List Int} {k : Nat} {x : Int} (h : l[k]? = some x) : grow (l.take (k + 1)) = growStep (grow (l.take k)) x := by
  rw [take_snoc h, grow, List.foldl_append]; rfl
theorem growStep_full {s : List Tag × Int} (h : 20 ≤ s.1.length) (x : Int) : growStep s x = s := by rw [growStep, if_pos h]
theorem grow_full_aux (l : List Int) (s : List Tag × Int) (h : 20 ≤ s.1.length) : l.foldl growStep s = s := by
  induction l with
  | nil => rfl
  | cons x l ih => rw [List.foldl_cons, growStep_full h, ih]
theorem grow_full {l : List Int} {k : Nat} (h : 20 ≤ (grow (l.take k)).1.length) : grow l = grow (l.take k) := by
  conv => lhs; rw [← List.take_append_drop k l]
  rw [grow, List.foldl_append]
  exact grow_full_aux _ _ h
end Go.Proofs.Ytagfdgdoboncfaa
