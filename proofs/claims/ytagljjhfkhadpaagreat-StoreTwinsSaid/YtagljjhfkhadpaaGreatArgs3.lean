/- The store's scripts that came in. -/
import Derived.Test.YtagljjhfkhadpaaGreatArgs2
import Derived.Test.YtagljjhfkhadpaaGreatStoreOps
set_option linter.unusedSimpArgs false
set_option linter.unusedVariables false
set_option linter.unusedSectionVars false
namespace Go.Proofs.YtagljjhfkhadpaaGreat
open Go.RowKit Go.ChangeShapes Go.WideShapes Go.ChangeAt Go.Deep Go.Joins
set_option maxRecDepth 100000
structure A3 where
  what : Int
  which : Int
  off : Int
  n : Int
  raw : Bool
  k : K4
  p : List Int
  pv : Value
  name : ByteArray
  keep : List Int
  kv : Value
def A3.vals (a : A3) : List Value := [.int .i64 a.what, .int .i64 a.which, .int .i64 a.off, .int .i64 a.n, .bool a.raw, .int .i64 a.k.kind, .int .i64 a.k.img, .int .i64 a.k.num, .int .i64 a.k.snap, a.pv, .string a.name, a.kv]
def A3.ok (I : Hp) (a : A3) : Prop := BytesI I a.pv a.p ∧ (∀ x ∈ a.p, isByte x) ∧ a.p.length ≤ maxLen ∧ IntsI I a.kv a.keep ∧ a.keep.length ≤ maxLen ∧ isInt a.what ∧ isInt a.which ∧ isInt a.off ∧ isInt a.n
section
variable {H : Type} {enc : TypeId × Value → H} {w : World} {base : Nat} {spare : Nat → Bool} {held : Bool}
theorem cells_a3 : Tryz.prog.cellsOf 34 = 12 := by kernel_rfl
theorem cells_key3 : Tryz.prog.cellsOf 30 = 4 := by kernel_rfl
theorem cells_ints3 : Tryz.prog.cellsOf 32 = 1 := by kernel_rfl
theorem cells_str3 : Tryz.prog.cellsOf 9 = 1 := by kernel_rfl
instance : Nonempty A3 := ⟨⟨0, 0, 0, 0, false, ⟨0, 0, 0, 0⟩, [], .slice none 0 0, ⟨#[]⟩, [], .slice none 0 0⟩⟩
theorem wf_int {m : Int} (h : (Lit.int .i64 m).wf = true) : isInt m := by
  simp [Lit.wf, IntKind.min, IntKind.max, IntKind.signed, IntKind.bits] at h
  unfold isInt
  omega
theorem ints_el (fuel : Nat) (c : Value) (x : DataW H × List MemPlace) (h : DataW.trod enc Tryz.prog w base spare held fuel 32 [c] = some x) : ∃ a : Value × List Int, c = a.1 ∧ (IntsI w.hp a.1 a.2 ∧ (∀ x ∈ a.2, isInt x) ∧ a.2.length ≤ maxLen) := by
  have hs : ∃ A n c', c = .slice A n c' := by
    rcases open_slice Tryz.underlying32 h with ⟨hcs, _⟩ | ⟨a, len, cap, m, n', D, Pl, hcs, _⟩
    · exact ⟨none, 0, 0, by simpa using hcs⟩
    · exact ⟨some a, len, cap, by simpa using hcs⟩
  have hT : DataW.Trod enc Tryz.prog w base spare held 32 c x.1 x.2 := by
    obtain ⟨A, n, c', rfl⟩ := hs
    exact ⟨fuel, by simpa [Value.cells] using h⟩
  obtain ⟨q, h1, h2, h3⟩ := row_of intV isInt Tryz.underlying32 cells_int int_el hT hs
  exact ⟨(c, q), rfl, h1, h2, h3⟩
theorem a3_el (fuel : Nat) (cs : List Value) (x : DataW H × List MemPlace) (hl : cs.length = 12) (h : DataW.trod enc Tryz.prog w base spare held fuel 34 cs = some x) : ∃ a : A3, cs = a.vals ∧ a.ok w.hp := by
  match cs, hl with
  | [c0, c1, c2, c3, c4, c5, c6, c7, c8, c9, c10, c11], _ =>
    obtain ⟨m0, rfl, i0⟩ := int_field Tryz.underlying34 h 0 _ rfl rfl Tryz.underlying3 cells_int (c := c0) rfl
    obtain ⟨m1, rfl, i1⟩ := int_field Tryz.underlying34 h 1 _ rfl rfl Tryz.underlying3 cells_int (c := c1) rfl
    obtain ⟨m2, rfl, i2⟩ := int_field Tryz.underlying34 h 2 _ rfl rfl Tryz.underlying3 cells_int (c := c2) rfl
    obtain ⟨m3, rfl, i3⟩ := int_field Tryz.underlying34 h 3 _ rfl rfl Tryz.underlying3 cells_int (c := c3) rfl
    obtain ⟨m4, rfl⟩ := bool_field Tryz.underlying34 h 4 _ rfl rfl Tryz.underlying4 cells_bool (c := c4) rfl
    obtain ⟨n5, y5, hy5⟩ := part_field Tryz.underlying34 h 5 _ rfl rfl rfl cells_key3
    have hy5 : DataW.trod enc Tryz.prog w base spare held n5 30 [c5, c6, c7, c8] = some y5 := hy5
    obtain ⟨k0, rfl, _⟩ := int_field Tryz.underlying30 hy5 0 _ rfl rfl Tryz.underlying3 cells_int (c := c5) rfl
    obtain ⟨k1, rfl, _⟩ := int_field Tryz.underlying30 hy5 1 _ rfl rfl Tryz.underlying3 cells_int (c := c6) rfl
    obtain ⟨k2, rfl, _⟩ := int_field Tryz.underlying30 hy5 2 _ rfl rfl Tryz.underlying3 cells_int (c := c7) rfl
    obtain ⟨k3, rfl, _⟩ := int_field Tryz.underlying30 hy5 3 _ rfl rfl Tryz.underlying3 cells_int (c := c8) rfl
    obtain ⟨n6, y6, hy6⟩ := one_field Tryz.underlying34 h 6 _ rfl cells_bytes (c := c9) rfl
    obtain ⟨⟨v, q⟩, hv, h1, h2, h3⟩ := bytes_el n6 c9 y6 hy6
    simp only at hv
    subst hv
    obtain ⟨n7, y7, hy7⟩ := one_field Tryz.underlying34 h 7 _ rfl cells_str3 (c := c10) rfl
    obtain ⟨nm, hnm, _, hw7⟩ := DataW.trod_string Tryz.underlying9 hy7
    obtain rfl : c10 = .string nm := by simpa using hnm
    obtain ⟨n8, y8, hy8⟩ := one_field Tryz.underlying34 h 8 _ rfl cells_ints3 (c := c11) rfl
    obtain ⟨⟨kv, ks⟩, hv, g1, g2, g3⟩ := ints_el n8 c11 y8 hy8
    simp only at hv
    subst hv
    exact ⟨⟨m0, m1, m2, m3, m4, ⟨k0, k1, k2, k3⟩, q, c9, nm, ks, c11⟩, rfl, h1, h2, h3, g1, g3, wf_int i0, wf_int i1, wf_int i2, wf_int i3⟩
theorem open_a3 {r : Reach} {b0 : Nat} {v : Value} {d : DataW H} {p : List MemPlace} (hv : Value.okWide Tryz.prog w r b0 22 v) (h : DataW.Trod enc Tryz.prog w base spare held 22 v d p) : ∃ l : List A3, RowI w.hp 12 v l.length (l.flatMap A3.vals) ∧ (∀ a ∈ l, a.ok w.hp) ∧ l.length ≤ maxLen := by
  obtain ⟨A, n, c, e⟩ := okWide_slice Tryz.underlying22 hv
  obtain ⟨l, h1, h2, h3⟩ := rows_of (P := Tryz.prog) A3.vals (A3.ok w.hp) (fun _ => rfl) (by decide) Tryz.underlying22 cells_a3 a3_el h ⟨A, n, c, e⟩
  exact ⟨l, h1, h2, h3⟩
end
end Go.Proofs.YtagljjhfkhadpaaGreat
