/- CowPlays, CowFalls: what the walks begin with. -/
import Derived.Test.YtbepmbcbcklmlaaGreatAt17
import Derived.Test.YtbepmbcbcklmlaaGreatKnown17
import Derived.Test.YtbepmbcbcklmlaaGreatArgs17
import Derived.Deep.CutRange
set_option linter.unusedSimpArgs false
set_option linter.unusedVariables false
set_option linter.unusedSectionVars false
namespace Go.Proofs.YtbepmbcbcklmlaaGreat
open Go.RowKit
def noneO : O17 := ⟨⟨none, .slice none 0 0⟩, [], .slice none 0 0⟩
def none4 : List O17 := [noneO, noneO, noneO, noneO]
def zero12 : Array Value := #[.bool false, .slice none 0 0, .slice none 0 0, .bool false, .slice none 0 0, .slice none 0 0, .bool false, .slice none 0 0, .slice none 0 0, .bool false, .slice none 0 0, .slice none 0 0]
theorem make_objects (w : World) : (Instr.makeSlice 27 (.int .i64 4) (.int .i64 4)).run Tryz.prog w = .ok (.slice (some ⟨w.heap.size, 0, none⟩) 4 4) (w.alloc (.cells zero12 47)) := by
  obtain ⟨i0, hi0, hz0, hz1, hz2⟩ := info_parts object_info
  have h := run_makeSlice (P := Tryz.prog) w 27 47 i0 (.agg #[.bool false, .slice none 0 0, .slice none 0 0]) Tryz.underlying27 hi0 hz0 .i64 .i64 4 4 (by decide) (by decide) (by rw [hz1]; decide) (by rw [hz2]; decide) (by decide)
  rw [hz1, show madeCells (Value.agg #[.bool false, .slice none 0 0, .slice none 0 0]).cells ((4 : Int).toNat * 3) = zero12 by kernel_rfl] at h
  exact h
theorem none4_cs : ∀ o ∈ none4, o.cs.length ≤ 0 := fun o ho => by
  have : o = noneO := by simpa [none4] using ho
  rw [this]
  exact Nat.le_refl _
theorem noneO_ok (I : Hp) : noneO.ok I := ⟨bytes_nil _, ⟨none, 0, rfl, rfl, Nat.le_refl _, by unfold maxLen; omega, fun _ => rfl, fun h => absurd h (by simp [noneO])⟩, fun c hc => by cases hc⟩
theorem none4_row {W w : World} {I : Hp} {l : List HP} {g : Nat} (h : St W I w (HP.pt g (.cells zero12 47) :: l)) : ∃ I', I.sub I' ∧ RowO I' (.slice (some ⟨g, 0, none⟩) 4 4) none4 ∧ St W I' w l := by
  obtain ⟨I', hs, hI, h2⟩ := h.freeze
  refine ⟨I', hs, ⟨⟨some ⟨g, 0, none⟩, 4, rfl, rfl, Nat.le_refl _, by unfold maxLen; omega, (fun e => by cases e), fun _ => ⟨g, 0, _, _, _, rfl, hI, fun i x hx => ?_⟩⟩, fun o ho => ?_⟩, h2⟩
  · rw [Nat.zero_add, ← hx, ← Array.getElem?_toList]
    rfl
  · have : o = noneO := by simpa [none4] using ho
    rw [this]
    exact noneO_ok _
theorem head_small {U : List K4} {S : Str} (h : Live U S) {os : List O17} (hs : Sim S (os.map O17.r)) : ∀ o ∈ os, (o.h.o.getD []).length ≤ 64 := fun o ho => by
  obtain ⟨i, hi⟩ := List.getElem?_of_mem ho
  exact small_at h (hs.obj i o.r (by rw [List.getElem?_map, hi]; rfl)) 0
end Go.Proofs.YtbepmbcbcklmlaaGreat
