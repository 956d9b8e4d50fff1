/- bits.Put and bits.Get: the lowest bytes of a number. bits.Get. -/
import Derived.Test.YtagljjhfkhadpaaGreatStr3
import Derived.Test.YtagljjhfkhadpaaGreatArgs
import Derived.Test.YtagljjhfkhadpaaGreatSame10
/- bits.Put and bits.Get: the lowest bytes of a number. -/
set_option linter.unusedSimpArgs false
set_option linter.unusedVariables false
set_option linter.unusedSectionVars false
namespace Go.Proofs.YtagljjhfkhadpaaGreat
open Go.RowKit
/-- The lowest k bytes of a number. -/
def putB (n : Int) (k : Nat) : List Int := (List.range k).map fun i => n / 2 ^ (8 * i) % 256
theorem putB_succ (n : Int) (k : Nat) : putB n (k + 1) = putB n k ++ [n / 2 ^ (8 * k) % 256] := by
  unfold putB
  rw [List.range_succ, List.map_append]
  rfl
theorem putB_length (n : Int) (k : Nat) : (putB n k).length = k := by simp [putB]
/-- A number of the first k bytes. -/
def getB : List Int → Int
  | [] => 0
  | x :: l => x + 256 * getB l
section
variable {W w : World} {I : Hp} {l : List HP}
/-- What is owned is newer than all that there was. -/
theorem St.pt_new {b : Nat} {o : Obj} (h : St W I w (HP.pt b o :: l)) : W.heap.size ≤ b := by
  obtain ⟨k, a, d, h1, h2, _, a', _, p, _⟩ := h.own
  rcases Nat.lt_or_ge b W.heap.size with hlt | hge
  · have e : W.hp b = some W.heap[b] := Array.getElem?_eq_getElem hlt
    have h3 := h.base _ _ e
    rcases d b with q | q
    · rw [h3] at q; cases q
    · rw [a' _ _ (show h1 b = some o from p)] at q; cases q
  · exact hge
theorem St.row_new {e : TypeId} {size : Nat} {v : Value} {n : Nat} {xs : List Value} (h : St W I w (HP.row e size v n xs :: l)) : w.ownsRow W.heap.size e size v n xs := by
  obtain ⟨hl, ⟨p1, p2, _⟩ | ⟨g, cap, cur, p1, p3, p4, p5, p6, s⟩⟩ := h.row_open
  · exact ⟨hl, .inl ⟨p1, p2⟩⟩
  · exact ⟨hl, .inr ⟨g, cap, cur, p1, s.pt_new, s.heap, p3, p4, p5, p6⟩⟩
theorem byte_src (w : World) (x : Int) : SliceSrc (w.alloc (.cells #[.int .u8 x] 5)) 1 (.slice (some ⟨w.heap.size, 0, none⟩) 1 1) 1 [.int .u8 x] := by
  refine ⟨_, _, rfl, ⟨rfl, fun _ => ⟨_, rfl, fun j u hu => ?_⟩, fun u hu => by (rw [List.mem_singleton.1 hu]; rfl)⟩, fun e => by cases e⟩
  rw [add_plain, Nat.zero_add, cells_of (heap_alloc_new _ _) j, ← hu]
  simp
set_option maxRecDepth 4000
set_option maxHeartbeats 4000000
end
end Go.Proofs.YtagljjhfkhadpaaGreat
/- bits.Get. -/
namespace Go.Proofs.YtagljjhfkhadpaaGreat
open Go.RowKit
/-- Is there a number of so many bytes, and which. -/
def getAt (b : List Int) (at' k : Int) : Int × Bool :=
  if k < 1 ∨ 8 < k ∨ at' < 0 ∨ (b.length : Int) < at' ∨ (b.length : Int) - at' < k then (0, false) else (getB ((b.drop at'.toNat).take k.toNat), true)
theorem getB_lt : ∀ {l : List Int}, (∀ x ∈ l, isByte x) → 0 ≤ getB l ∧ getB l < 2 ^ (8 * l.length)
  | [], _ => by simp [getB]
  | x :: l, h => by
    have h1 := getB_lt (l := l) fun y hy => h y (List.mem_cons_of_mem _ hy)
    have h2 := h x (List.mem_cons_self ..)
    unfold isByte at h2
    have e : (2 : Int) ^ (8 * (x :: l).length) = 256 * 2 ^ (8 * l.length) := by
      rw [List.length_cons, show 8 * (l.length + 1) = 8 + 8 * l.length by omega, Int.pow_add]
      rfl
    rw [e, getB]
    omega
theorem getB_snoc : ∀ (l : List Int) (x : Int), getB (l ++ [x]) = getB l + x * 2 ^ (8 * l.length)
  | [], x => by simp [getB]
  | y :: l, x => by
    rw [List.cons_append, getB, getB_snoc, getB, List.length_cons, show 8 * (l.length + 1) = 8 + 8 * l.length by omega, Int.pow_add]
    rw [show (2 : Int) ^ 8 = 256 by rfl, Int.mul_add, Int.mul_comm x (256 * 2 ^ (8 * l.length)), Int.mul_assoc, Int.mul_comm x]
    omega
theorem or_add {n x : Int} {i : Nat} (h0 : 0 ≤ n) (h1 : n < 2 ^ (8 * i)) (hx0 : 0 ≤ x) (hx1 : x < 256) (hi : i < 8) : bits .or .u64 n (IntKind.u64.wrap (x * 2 ^ (8 * i))) = n + x * 2 ^ (8 * i) := by
  obtain ⟨N, rfl⟩ : ∃ N : Nat, n = N := ⟨n.toNat, by omega⟩
  obtain ⟨X, rfl⟩ : ∃ X : Nat, x = X := ⟨x.toNat, by omega⟩
  have hN : N < 2 ^ (8 * i) := by exact_mod_cast h1
  have hX : X < 256 := by omega
  have hp : X * 2 ^ (8 * i) + 2 ^ (8 * i) ≤ 2 ^ 64 := by
    have h2 : 2 ^ (8 * i) * 256 ≤ 2 ^ 64 := by
      rw [show (256 : Nat) = 2 ^ 8 by rfl, ← Nat.pow_add]
      exact Nat.pow_le_pow_right (by decide) (by omega)
    have h3 : (X + 1) * 2 ^ (8 * i) ≤ 256 * 2 ^ (8 * i) := Nat.mul_le_mul_right _ (by omega)
    rw [Nat.add_mul, Nat.one_mul] at h3
    omega
  have e1 : (X : Int) * 2 ^ (8 * i) = ((X * 2 ^ (8 * i) : Nat) : Int) := by push_cast; rfl
  rw [e1, IntKind.wrap_u64]
  have e2 : ((X * 2 ^ (8 * i) : Nat) : Int) % 18446744073709551616 = ((X * 2 ^ (8 * i) : Nat) : Int) := by omega
  rw [e2]
  show IntKind.u64.wrap ((BitVec.ofInt 64 (N : Int) ||| BitVec.ofInt 64 ((X * 2 ^ (8 * i) : Nat) : Int)).toNat : Nat) = _
  rw [BitVec.toNat_or, BitVec.ofInt_natCast, BitVec.ofInt_natCast, BitVec.toNat_ofNat, BitVec.toNat_ofNat, Nat.mod_eq_of_lt (by omega), Nat.mod_eq_of_lt (by omega), Nat.or_comm, Nat.mul_comm, ← Nat.two_pow_add_eq_or_of_lt hN, IntKind.wrap_u64, Nat.mul_comm]
  omega
section
variable {W w : World} {I : Hp} {l : List HP}
set_option maxRecDepth 4000
set_option maxHeartbeats 4000000
end
end Go.Proofs.YtagljjhfkhadpaaGreat
