/- Rows of structs that nobody writes: their cells; append of ints. -/
import Derived.Test.YtagljjhfkhadpaaGreatStoreOps
set_option linter.unusedSimpArgs false
set_option linter.unusedVariables false
set_option linter.unusedSectionVars false
namespace Go.Proofs.YtagljjhfkhadpaaGreat
open Go.RowKit
theorem flatk_get {α : Type} {mk : α → List Value} {k : Nat} (hk : ∀ a, (mk a).length = k) : ∀ (l : List α) (i j : Nat) (a : α), l[i]? = some a → j < k → (l.flatMap mk)[i * k + j]? = (mk a)[j]?
  | [], i, j, a, h, _ => by simp at h
  | b :: l, 0, j, a, h, hj => by
    simp only [List.getElem?_cons_zero, Option.some.injEq] at h
    subst h
    rw [List.flatMap_cons, Nat.zero_mul, Nat.zero_add, List.getElem?_append_left (by rw [hk]; exact hj)]
  | b :: l, i + 1, j, a, h, hj => by
    rw [List.flatMap_cons, List.getElem?_append_right (by rw [hk, Nat.add_mul]; omega), hk, show (i + 1) * k + j - k = i * k + j by rw [Nat.add_mul]; omega]
    exact flatk_get hk l i j a (by simpa using h) hj
theorem flatk_len {α : Type} {mk : α → List Value} {k : Nat} (hk : ∀ a, (mk a).length = k) : ∀ l : List α, (l.flatMap mk).length = l.length * k
  | [] => by simp
  | a :: l => by rw [List.flatMap_cons, List.length_append, hk, flatk_len hk l, List.length_cons, Nat.add_mul]; omega
/-- A cell of such a row. -/
theorem rowk_cell {α : Type} {mk : α → List Value} {k : Nat} {W w : World} {I I' : Hp} {m : List HP} {v : Value} {l : List α} (h : RowI I k v l.length (l.flatMap mk)) (hs : I.sub I') (hst : St W I' w m) (hmk : ∀ a, (mk a).length = k) {i : Nat} {a : α} (ha : l[i]? = some a) :
    ∃ b off, v = .slice (some ⟨b, off, none⟩) l.length (match v with | .slice _ _ c => c | _ => 0) ∧ ∀ j, j < k → w.cell? ⟨b, off + i * k + j, none⟩ = (mk a)[j]? := by
  obtain ⟨A, c', rfl, h2, h3, h4, h5, h6⟩ := h
  have hjl := (List.getElem?_eq_some_iff.1 ha).1
  obtain ⟨b, off, cs, t, f, rfl, e2, e3⟩ := h6 (by omega)
  refine ⟨b, off, rfl, fun j hj => ?_⟩
  rw [cells_of (hst.imm_heap (hs _ _ e2)), Nat.add_assoc]
  have h7 := flatk_get hmk l i j a ha hj
  obtain ⟨u, hu⟩ : ∃ u, (mk a)[j]? = some u := ⟨_, List.getElem?_eq_getElem (by rw [hmk]; exact hj)⟩
  rw [hu]
  exact e3 (i * k + j) u (by rw [h7, hu])
theorem St.imm_cell {W w : World} {I : Hp} {l : List HP} {g : Nat} {cs : Array Value} {t : TypeId} (h : St W I w l) (e : I g = some (.cells cs t)) (i : Nat) : w.cell? ⟨g, i, none⟩ = cs[i]? := cells_of (h.imm_heap e) i
section
variable {W w : World} {I : Hp} {l : List HP}
/-- append(v, v2...) of ints. -/
theorem St.ints_append {v v2 : Value} {n m : Nat} {xs ys : List Value} (ty : TypeId) (h : St W I w (HP.row 3 1 v n xs :: l)) (hs : SliceSrc w 1 v2 m ys) (hb : n + m ≤ 1000000000) :
    ∃ v' w', (Builtin.append_ #[32, 32] ty #[v, v2]).run Tryz.prog w = .ok v' w' ∧ St W I w' (HP.row 3 1 v' (n + m) (xs ++ ys) :: l) := by
  obtain ⟨A, c, rfl, hsrc, hA⟩ := hs
  obtain ⟨i0, hi0, hz0, hz1, hz2⟩ := info_parts cloneI_info
  obtain ⟨v', w', hr, ho', hgr, hv'⟩ := run_append_src (P := Tryz.prog) w 0 32 ty 3 i0 _ 1 8 Tryz.underlying32 hi0 hz0 hz1 hz2 rfl (by decide) v n xs h.row_owns A m c ys hsrc hA (by unfold maxLen; omega) (by omega) (Nat.zero_le _)
  exact ⟨v', w', hr, h.row_grown ho' hgr hv'⟩
theorem int_src (w : World) (x : Int) : SliceSrc (w.alloc (.cells #[.int .i64 x] 3)) 1 (.slice (some ⟨w.heap.size, 0, none⟩) 1 1) 1 [.int .i64 x] := by
  refine ⟨_, _, rfl, ⟨rfl, fun _ => ⟨_, rfl, fun j u hu => ?_⟩, fun u hu => by (rw [List.mem_singleton.1 hu]; rfl)⟩, fun e => by cases e⟩
  rw [add_plain, Nat.zero_add, cells_of (heap_alloc_new _ _) j, ← hu]
  simp
theorem imm_cells4 {g : Nat} {c0 c1 c2 c3 : Value} {t : TypeId} (h : St W I w l) (e : I g = some (.cells #[c0, c1, c2, c3] t)) : w.cell? ⟨g, 0, none⟩ = some c0 ∧ w.cell? ⟨g, 1, none⟩ = some c1 ∧ w.cell? ⟨g, 2, none⟩ = some c2 ∧ w.cell? ⟨g, 3, none⟩ = some c3 := by
  have y := cells_of (h.imm_heap e)
  have y0 := y 0
  have y1 := y 1
  have y2 := y 2
  have y3 := y 3
  simp at y0 y1 y2 y3
  exact ⟨y0, y1, y2, y3⟩
theorem St.imm_lt {b : Nat} {o : Obj} (h : St W I w l) (e : I b = some o) : b < w.heap.size := (Array.getElem?_eq_some_iff.1 (h.imm_heap e)).1
end
end Go.Proofs.YtagljjhfkhadpaaGreat
