/- The lock's scripts that came in. -/
import Derived.Test.YtnokhjhhadnckaaArgs2
import Derived.Test.YtnokhjhhadnckaaLockActs
set_option linter.unusedSimpArgs false
set_option linter.unusedVariables false
set_option linter.unusedSectionVars false
namespace Go.Proofs.Ytnokhjhhadnckaa
open Go.RowKit Go.ChangeShapes Go.WideShapes Go.ChangeAt Go.Deep Go.Joins
set_option maxRecDepth 100000
section
variable {H : Type} {enc : TypeId × Value → H} {P : Program} {w : World} {base : Nat} {spare : Nat → Bool} {held : Bool}
theorem one_field {t : TypeId} {fs : Array Field} {fuel : Nat} {cs : List Value} {x : DataW H × List MemPlace} (ht : P.underlying t = some (.struct fs)) (h : DataW.trod enc P w base spare held fuel t cs = some x)
    (j : Nat) (f : Field) (hj : fs[j]? = some f) (h1 : P.cellsOf f.type = 1) {c : Value} (hc : cs[f.offset]? = some c) : ∃ n y, DataW.trod enc P w base spare held n f.type [c] = some y := by
  obtain ⟨n, y, hy⟩ := field_at ht h j f hj
  have hd : (cs.drop f.offset).take 1 = [c] := by
    obtain ⟨hlt, he⟩ := List.getElem?_eq_some_iff.1 hc
    rw [List.drop_eq_getElem_cons hlt, he]; rfl
  rw [h1, hd] at hy
  exact ⟨n, y, hy⟩
theorem int_field {t k : TypeId} {kd : IntKind} {fs : Array Field} {fuel : Nat} {cs : List Value} {x : DataW H × List MemPlace} (ht : P.underlying t = some (.struct fs)) (h : DataW.trod enc P w base spare held fuel t cs = some x)
    (j : Nat) (f : Field) (hj : fs[j]? = some f) (hk : f.type = k) (hu : P.underlying k = some (.int kd)) (h1 : P.cellsOf k = 1) {c : Value} (hc : cs[f.offset]? = some c) : ∃ m : Int, c = .int kd m ∧ (Lit.int kd m).wf = true := by
  subst hk
  obtain ⟨n, y, hy⟩ := one_field ht h j f hj h1 hc
  obtain ⟨m, hm, _, hw⟩ := DataW.trod_int hu hy
  exact ⟨m, by simpa using hm, hw⟩
theorem bool_field {t k : TypeId} {fs : Array Field} {fuel : Nat} {cs : List Value} {x : DataW H × List MemPlace} (ht : P.underlying t = some (.struct fs)) (h : DataW.trod enc P w base spare held fuel t cs = some x)
    (j : Nat) (f : Field) (hj : fs[j]? = some f) (hk : f.type = k) (hu : P.underlying k = some .bool) (h1 : P.cellsOf k = 1) {c : Value} (hc : cs[f.offset]? = some c) : ∃ m : Bool, c = .bool m := by
  subst hk
  obtain ⟨n, y, hy⟩ := one_field ht h j f hj h1 hc
  obtain ⟨m, hm, _⟩ := DataW.trod_bool hu hy
  exact ⟨m, by simpa using hm⟩
end
section
variable {H : Type} {enc : TypeId × Value → H} {w : World} {base : Nat} {spare : Nat → Bool} {held : Bool}
theorem cells_a19 : Try.prog.cellsOf 67 = 4 := by kernel_rfl
instance : Nonempty A19 := ⟨⟨0, 0, 0, false⟩⟩
theorem a19_el (fuel : Nat) (cs : List Value) (x : DataW H × List MemPlace) (hl : cs.length = 4) (h : DataW.trod enc Try.prog w base spare held fuel 67 cs = some x) : ∃ a : A19, cs = a.vals ∧ True := by
  match cs, hl with
  | [c0, c1, c2, c3], _ =>
    obtain ⟨m0, rfl, _⟩ := int_field Try.underlying67 h 0 _ rfl rfl Try.underlying3 cells_int (c := c0) rfl
    obtain ⟨m1, rfl, _⟩ := int_field Try.underlying67 h 1 _ rfl rfl Try.underlying3 cells_int (c := c1) rfl
    obtain ⟨m2, rfl, _⟩ := int_field Try.underlying67 h 2 _ rfl rfl Try.underlying3 cells_int (c := c2) rfl
    obtain ⟨m3, rfl⟩ := bool_field Try.underlying67 h 3 _ rfl rfl Try.underlying4 cells_bool (c := c3) rfl
    exact ⟨⟨m0, m1, m2, m3⟩, rfl, trivial⟩
theorem open_a19 {r : Reach} {b0 : Nat} {v : Value} {d : DataW H} {p : List MemPlace} (hv : Value.okWide Try.prog w r b0 63 v) (h : DataW.Trod enc Try.prog w base spare held 63 v d p) : ∃ l : List A19, RowI w.hp 4 v l.length (l.flatMap A19.vals) ∧ l.length ≤ maxLen := by
  obtain ⟨A, n, c, e⟩ := okWide_slice Try.underlying63 hv
  obtain ⟨l, h1, _, h2⟩ := rows_of (P := Try.prog) A19.vals (fun _ => True) (fun _ => rfl) (by decide) Try.underlying63 cells_a19 a19_el h ⟨A, n, c, e⟩
  exact ⟨l, h1, h2⟩
end
end Go.Proofs.Ytnokhjhhadnckaa
