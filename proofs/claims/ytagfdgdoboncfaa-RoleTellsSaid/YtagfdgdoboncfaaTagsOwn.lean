/- A slice of tags as a source of an append, and a row that the call owns read as a slice of tags. -/
import Derived.Test.YtagfdgdoboncfaaWords
import Derived.Test.YtagfdgdoboncfaaAppend
namespace Go.Proofs.Ytagfdgdoboncfaa
open Go.RowKit
def flat (l : List Tag) : List Value := l.flatMap Tag.vals
theorem flat_len : ∀ l : List Tag, (flat l).length = l.length * 4
  | [] => rfl
  | t :: l => by
    have := flat_len l
    simp only [flat, List.flatMap_cons, List.length_append, List.length_cons] at this ⊢
    simp only [Tag.vals, List.length_cons, List.length_nil]; omega
theorem flat_append (l r : List Tag) : flat (l ++ r) = flat l ++ flat r := by simp [flat]
theorem flat_get : ∀ (l : List Tag) (i j : Nat), j < 4 → (flat l)[i * 4 + j]? = (l[i]?).bind fun t => t.vals[j]?
  | [], i, j, _ => by simp [flat]
  | t :: l, 0, j, h => by
    have hv : t.vals.length = 4 := rfl
    simp only [flat, List.flatMap_cons, Nat.zero_mul, Nat.zero_add, List.getElem?_cons_zero, Option.bind_some]
    rw [List.getElem?_append_left (by omega)]
  | t :: l, i + 1, j, h => by
    have hv : t.vals.length = 4 := rfl
    have := flat_get l i j h
    simp only [flat, List.flatMap_cons, List.getElem?_cons_succ] at this ⊢
    rw [List.getElem?_append_right (by omega), hv, show (i + 1) * 4 + j - 4 = i * 4 + j by omega, this]
theorem flat_one (l : List Tag) : ∀ u ∈ flat l, u.oneCell' = true := by
  intro u hu
  simp only [flat, List.mem_flatMap, Tag.vals] at hu
  obtain ⟨t, _, hu⟩ := hu
  simp only [List.mem_cons, List.not_mem_nil, or_false] at hu
  rcases hu with rfl | rfl | rfl | rfl <;> rfl
theorem add_plain (b off j : Nat) : (⟨b, off, none⟩ : Addr).add j = ⟨b, off + j, none⟩ := by
  unfold Addr.add
  split
  · subst j; rfl
  · rfl
theorem TagsAt.src {w : World} {A : Option Addr} {n : Nat} {l : List Tag} (h : TagsAt w A n l) : SrcAt w 4 A n (flat l) where
  len := by rw [flat_len, h.1]
  one := flat_one l
  cells := fun hn => by
    obtain ⟨b, off, e, _, hc⟩ := h.2 hn
    refine ⟨_, e, fun j u hu => ?_⟩
    rw [show j = j / 4 * 4 + j % 4 by omega, flat_get l _ _ (Nat.mod_lt _ (by omega))] at hu
    cases ht : l[j / 4]? with
    | none => rw [ht] at hu; cases hu
    | some t =>
      rw [ht] at hu
      obtain ⟨c0, c1, c2, c3⟩ := hc _ t ht
      rw [add_plain]
      have h4 : j % 4 < 4 := Nat.mod_lt _ (by omega)
      rcases (by omega : j % 4 = 0 ∨ j % 4 = 1 ∨ j % 4 = 2 ∨ j % 4 = 3) with e | e | e | e <;> rw [e] at hu <;> simp only [Tag.vals, Option.bind_some, List.getElem?_cons_zero, List.getElem?_cons_succ, Option.some.injEq] at hu <;> subst hu
      · rw [show off + j = off + j / 4 * 4 by omega]; exact c0
      · rw [show off + j = off + j / 4 * 4 + 1 by omega]; exact c1
      · rw [show off + j = off + j / 4 * 4 + 2 by omega]; exact c2
      · rw [show off + j = off + j / 4 * 4 + 3 by omega]; exact c3
theorem TagsAt.of_own {w : World} {base e : Nat} {A : Option Addr} {n c : Nat} {l : List Tag} (h : w.ownsRow base e 4 (.slice A n c) n (flat l)) : TagsAt w A n l := by
  have hl : l.length = n := by have := h.1; rw [flat_len] at this; omega
  refine ⟨hl, fun hn => ?_⟩
  obtain ⟨g, cap, hv, _, hlt⟩ := h.form hn
  have hA : A = some ⟨g, 0, none⟩ := by injection hv
  subst hA
  refine ⟨g, 0, rfl, hlt, fun i t hi => ?_⟩
  have hc := h.cells (g := g) rfl
  have k : ∀ j, j < 4 → w.cell? ⟨g, 0 + i * 4 + j, none⟩ = t.vals[j]? := fun j hj => by
    have hj' : j < t.vals.length := hj
    have e1 : (flat l)[i * 4 + j]? = some t.vals[j] := by rw [flat_get l i j hj, hi, Option.bind_some, List.getElem?_eq_getElem hj']
    have := hc _ _ e1
    rw [add_plain] at this
    rw [Nat.add_assoc, this, List.getElem?_eq_getElem hj']
  exact ⟨k 0 (by omega), k 1 (by omega), k 2 (by omega), k 3 (by omega)⟩
theorem owns_empty {w : World} {base e size g : Nat} (hg : g = w.heap.size) (hb : base ≤ w.heap.size) : (w.alloc (.cells #[] e)).ownsRow base e size (.slice (some ⟨g, 0, none⟩) 0 0) 0 [] := by
  subst hg
  exact World.ownsRow_made w #[] 0 hb (Nat.zero_le _) (by simp)
theorem tag_info : (Try.prog.info? 50).map (fun i => (i.zero, i.size, i.bytes)) = some (some (.agg #[.int .i64 0, .int .i64 0, .int .i64 0, .int .i64 0]), 4, 32) := by kernel_rfl
end Go.Proofs.Ytagfdgdoboncfaa
