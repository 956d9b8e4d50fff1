/- The notes' scripts that came in. -/
import Derived.Test.YtnokhjhhadnckaaArgs2
import Derived.Test.YtnokhjhhadnckaaNotes
set_option linter.unusedSimpArgs false
set_option linter.unusedVariables false
set_option linter.unusedSectionVars false
namespace Go.Proofs.Ytnokhjhhadnckaa
open Go.RowKit Go.ChangeShapes Go.WideShapes Go.ChangeAt Go.Deep Go.Joins
set_option maxRecDepth 100000
structure A21 where
  n : Nt
  v : Value
  fuse : Int
def A21.vals (a : A21) : List Value := [.int .i64 a.n.ph, .int .i64 a.n.bo, .int .i64 a.n.no, .int .i64 a.n.st, .int .i64 a.n.nu, a.v, .int .i64 a.fuse]
def A21.ok (I : Hp) (a : A21) : Prop := BytesI I a.v a.n.info ∧ (∀ x ∈ a.n.info, isByte x) ∧ a.n.info.length ≤ maxLen
section
variable {H : Type} {enc : TypeId × Value → H} {w : World} {base : Nat} {spare : Nat → Bool} {held : Bool}
theorem cells_a21 : Try.prog.cellsOf 76 = 7 := by kernel_rfl
theorem cells_note : Try.prog.cellsOf 74 = 6 := by kernel_rfl
instance : Nonempty A21 := ⟨⟨⟨0, 0, 0, 0, 0, []⟩, .slice none 0 0, 0⟩⟩
theorem a21_el (fuel : Nat) (cs : List Value) (x : DataW H × List MemPlace) (hl : cs.length = 7) (h : DataW.trod enc Try.prog w base spare held fuel 76 cs = some x) : ∃ a : A21, cs = a.vals ∧ a.ok w.hp := by
  match cs, hl with
  | [c0, c1, c2, c3, c4, c5, c6], _ =>
    obtain ⟨n1, y1, hy1⟩ := part_field Try.underlying76 h 0 _ rfl rfl rfl cells_note
    have hy1 : DataW.trod enc Try.prog w base spare held n1 74 [c0, c1, c2, c3, c4, c5] = some y1 := hy1
    obtain ⟨m0, rfl, _⟩ := int_field Try.underlying74 hy1 0 _ rfl rfl Try.underlying3 cells_int (c := c0) rfl
    obtain ⟨m1, rfl, _⟩ := int_field Try.underlying74 hy1 1 _ rfl rfl Try.underlying3 cells_int (c := c1) rfl
    obtain ⟨m2, rfl, _⟩ := int_field Try.underlying74 hy1 2 _ rfl rfl Try.underlying3 cells_int (c := c2) rfl
    obtain ⟨m3, rfl, _⟩ := int_field Try.underlying74 hy1 3 _ rfl rfl Try.underlying3 cells_int (c := c3) rfl
    obtain ⟨m4, rfl, _⟩ := int_field Try.underlying74 hy1 4 _ rfl rfl Try.underlying3 cells_int (c := c4) rfl
    obtain ⟨n5, y5, hy5⟩ := one_field Try.underlying74 hy1 5 _ rfl cells_bytes (c := c5) rfl
    obtain ⟨⟨v, q⟩, hv, h1, h2, h3⟩ := bytes_el n5 c5 y5 hy5
    simp only at hv
    subst hv
    obtain ⟨m6, rfl, _⟩ := int_field Try.underlying76 h 1 _ rfl rfl Try.underlying3 cells_int (c := c6) rfl
    exact ⟨⟨⟨m0, m1, m2, m3, m4, q⟩, c5, m6⟩, rfl, h1, h2, h3⟩
theorem open_a21 {r : Reach} {b0 : Nat} {v : Value} {d : DataW H} {p : List MemPlace} (hv : Value.okWide Try.prog w r b0 72 v) (h : DataW.Trod enc Try.prog w base spare held 72 v d p) : ∃ l : List A21, RowI w.hp 7 v l.length (l.flatMap A21.vals) ∧ (∀ a ∈ l, a.ok w.hp) ∧ l.length ≤ maxLen := by
  obtain ⟨A, n, c, e⟩ := okWide_slice Try.underlying72 hv
  obtain ⟨l, h1, h2, h3⟩ := rows_of (P := Try.prog) A21.vals (A21.ok w.hp) (fun _ => rfl) (by decide) Try.underlying72 cells_a21 a21_el h ⟨A, n, c, e⟩
  exact ⟨l, h1, h2, h3⟩
end
end Go.Proofs.Ytnokhjhhadnckaa
