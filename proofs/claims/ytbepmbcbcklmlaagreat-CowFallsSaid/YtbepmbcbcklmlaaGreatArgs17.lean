/- hectographlaw17's scripts that came in. -/
import Derived.Test.YtbepmbcbcklmlaaGreatArgs2
import Derived.Test.YtbepmbcbcklmlaaGreatActs17
set_option linter.unusedSimpArgs false
set_option linter.unusedVariables false
set_option linter.unusedSectionVars false
namespace Go.Proofs.YtbepmbcbcklmlaaGreat
open Go.RowKit Go.ChangeShapes Go.WideShapes Go.ChangeAt Go.Deep Go.Joins
set_option maxRecDepth 100000
section
variable {H : Type} {enc : TypeId × Value → H} {w : World} {base : Nat} {spare : Nat → Bool} {held : Bool}
theorem cells_a17 : Tryz.prog.cellsOf 31 = 8 := by kernel_rfl
theorem cells_ints17 : Tryz.prog.cellsOf 29 = 1 := by kernel_rfl
instance : Nonempty A17 := ⟨⟨0, 0, 0, 0, 0, 0, [], .slice none 0 0, [], .slice none 0 0⟩⟩
theorem wf_int17 {m : Int} (h : (Lit.int .i64 m).wf = true) : isI m := by
  simp [Lit.wf, IntKind.min, IntKind.max, IntKind.signed, IntKind.bits] at h
  unfold isI
  omega
theorem ints_el17 (fuel : Nat) (c : Value) (x : DataW H × List MemPlace) (h : DataW.trod enc Tryz.prog w base spare held fuel 29 [c] = some x) : ∃ a : Value × List Int, c = a.1 ∧ IntsI w.hp a.1 a.2 := by
  have hs : ∃ A n c', c = .slice A n c' := by
    rcases open_slice Tryz.underlying29 h with ⟨hcs, _⟩ | ⟨a, len, cap, m, n', D, Pl, hcs, _⟩
    · exact ⟨none, 0, 0, by simpa using hcs⟩
    · exact ⟨some a, len, cap, by simpa using hcs⟩
  have hT : DataW.Trod enc Tryz.prog w base spare held 29 c x.1 x.2 := by
    obtain ⟨A, n, c', rfl⟩ := hs
    exact ⟨fuel, by simpa [Value.cells] using h⟩
  obtain ⟨q, h1, _, _⟩ := row_of intV isInt Tryz.underlying29 cells_int int_el hT hs
  exact ⟨(c, q), rfl, h1⟩
theorem a17_el (fuel : Nat) (cs : List Value) (x : DataW H × List MemPlace) (hl : cs.length = 8) (h : DataW.trod enc Tryz.prog w base spare held fuel 31 cs = some x) : ∃ a : A17, cs = a.vals ∧ a.ok w.hp := by
  match cs, hl with
  | [c0, c1, c2, c3, c4, c5, c6, c7], _ =>
    obtain ⟨m0, rfl, i0⟩ := int_field Tryz.underlying31 h 0 _ rfl rfl Tryz.underlying3 cells_int (c := c0) rfl
    obtain ⟨m1, rfl, i1⟩ := int_field Tryz.underlying31 h 1 _ rfl rfl Tryz.underlying3 cells_int (c := c1) rfl
    obtain ⟨m2, rfl, i2⟩ := int_field Tryz.underlying31 h 2 _ rfl rfl Tryz.underlying3 cells_int (c := c2) rfl
    obtain ⟨m3, rfl, i3⟩ := int_field Tryz.underlying31 h 3 _ rfl rfl Tryz.underlying3 cells_int (c := c3) rfl
    obtain ⟨m4, rfl, i4⟩ := int_field Tryz.underlying31 h 4 _ rfl rfl Tryz.underlying3 cells_int (c := c4) rfl
    obtain ⟨m5, rfl, i5⟩ := int_field Tryz.underlying31 h 5 _ rfl rfl Tryz.underlying3 cells_int (c := c5) rfl
    obtain ⟨n6, y6, hy6⟩ := one_field Tryz.underlying31 h 6 _ rfl cells_bytes (c := c6) rfl
    obtain ⟨⟨v, q⟩, hv, h1, _⟩ := bytes_el n6 c6 y6 hy6
    simp only at hv
    subst hv
    obtain ⟨n7, y7, hy7⟩ := one_field Tryz.underlying31 h 7 _ rfl cells_ints17 (c := c7) rfl
    obtain ⟨⟨kv, ks⟩, hv, g1⟩ := ints_el17 n7 c7 y7 hy7
    simp only at hv
    subst hv
    exact ⟨⟨m0, m1, m2, m3, m4, m5, q, c6, ks, c7⟩, rfl, h1, g1, wf_int17 i0, wf_int17 i1, wf_int17 i2, wf_int17 i3, wf_int17 i4, wf_int17 i5⟩
theorem open_a17 {r : Reach} {b0 : Nat} {v : Value} {d : DataW H} {p : List MemPlace} (hv : Value.okWide Tryz.prog w r b0 22 v) (h : DataW.Trod enc Tryz.prog w base spare held 22 v d p) :
    ∃ l : List A17, RowI w.hp 8 v l.length (l.flatMap A17.vals) ∧ (∀ a ∈ l, a.ok w.hp) ∧ l.length ≤ maxLen := by
  obtain ⟨A, n, c, e⟩ := okWide_slice Tryz.underlying22 hv
  obtain ⟨l, h1, h2, h3⟩ := rows_of (P := Tryz.prog) A17.vals (A17.ok w.hp) (fun _ => rfl) (by decide) Tryz.underlying22 cells_a17 a17_el h ⟨A, n, c, e⟩
  exact ⟨l, h1, h2, h3⟩
theorem open_one17 {r : Reach} {b0 : Nat} {v : Value} {d : DataW H} {p : List MemPlace} (hv : Value.okWide Tryz.prog w r b0 31 v) (h : DataW.Trod enc Tryz.prog w base spare held 31 v d p) :
    ∃ a : A17, v = a.val ∧ a.ok w.hp := by
  obtain ⟨cs, rfl, hsz⟩ := okWide_struct Tryz.underlying31 hv
  obtain ⟨l⟩ := cs
  rw [cells_a17] at hsz
  obtain ⟨fuel, hf⟩ := h
  obtain ⟨a, ha, hok⟩ := a17_el fuel l _ hsz hf
  exact ⟨a, by rw [ha]; rfl, hok⟩
end
end Go.Proofs.YtbepmbcbcklmlaaGreat
