/- hectographref10.Same of two rows that read alike. -/
import Derived.Test.YtagljjhfkhadpaaGreatStr3
set_option linter.unusedSimpArgs false
set_option linter.unusedVariables false
set_option linter.unusedSectionVars false
namespace Go.Proofs.YtagljjhfkhadpaaGreat
open Go.RowKit
theorem src_at {w : World} {A : Option Addr} {n : Nat} {xs : List Value} (h : SrcAt w 1 A n xs) (hn : 0 < n) : ∃ b off, A = some ⟨b, off, none⟩ ∧ b < w.heap.size ∧ ∀ j u, xs[j]? = some u → w.cell? ⟨b, off + j, none⟩ = some u := by
  obtain ⟨ad, rfl, hc⟩ := h.cells hn
  have hl := h.len
  obtain ⟨u0, hu0⟩ : ∃ u, xs[0]? = some u := ⟨_, List.getElem?_eq_getElem (by omega)⟩
  have h0 := hc 0 u0 hu0
  obtain ⟨b, off, spot⟩ := ad
  have hspot : spot = none := by simpa [Addr.add] using World.cell?_spot h0
  subst hspot
  refine ⟨b, off, rfl, ?_, fun j u hu => ?_⟩
  · rw [add_plain] at h0
    exact World.block_lt_of_cell? w _ h0
  · have := hc j u hu
    rwa [add_plain] at this
section
set_option maxRecDepth 4000
set_option maxHeartbeats 2000000
end
end Go.Proofs.YtagljjhfkhadpaaGreat
