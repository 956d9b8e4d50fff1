/- Arguments of the laws opened: slices of bytes, of ints, of bools, of slices of bytes. -/
import Derived.Test.YtagljjhfkhadpaaGreatStr3
import Derived.ProofKit
import Derived.OpenShut
import Derived.Deep.Slices
import Derived.Lib.SmallJoins
import Derived.Deep.Fields
set_option linter.unusedSimpArgs false
set_option linter.unusedVariables false
set_option linter.unusedSectionVars false
namespace Go.Proofs.YtagljjhfkhadpaaGreat
open Go.RowKit Go.ChangeShapes Go.WideShapes Go.ChangeAt Go.Deep Go.Joins
set_option maxRecDepth 100000
theorem plain_add (b o j : Nat) : (⟨b, o, none⟩ : Addr).add j = ⟨b, o + j, none⟩ := by
  unfold Addr.add; split
  · subst j; rfl
  · rfl
theorem cell_block {w : World} {b o : Nat} {v : Value} (h : w.cell? ⟨b, o, none⟩ = some v) : ∃ cs t f, w.heap[b]? = some (.cells cs t f) ∧ cs[o]? = some v := by
  unfold World.cell? at h
  simp only at h
  split at h
  · rename_i cs t f hb
    simp only [Option.isSome_none, Bool.false_eq_true, if_false] at h
    exact ⟨cs, t, f, hb, h⟩
  · cases h
section
variable {H : Type} {enc : TypeId × Value → H} {P : Program} {w : World} {base : Nat} {spare : Nat → Bool} {held : Bool}
/-- A slice that came in: where it lies, and each element's cells. -/
theorem slice_at {t e : TypeId} {k : Nat} (ht : P.underlying t = some (.slice e)) (hk : P.cellsOf e = k) (h0 : 0 < k) {v : Value} {d : DataW H} {p : List MemPlace} (h : DataW.Trod enc P w base spare held t v d p) (hs : ∃ A n c, v = .slice A n c) :
    ∃ A n c, v = .slice A n c ∧ n ≤ c ∧ c ≤ maxLen ∧ (A = none → n = 0 ∧ c = 0) ∧ (0 < n → ∃ b off, A = some ⟨b, off, none⟩ ∧ b < w.heap.size ∧ ∀ i, i < n → ∃ cs fuel x, DataW.trod enc P w base spare held fuel e cs = some x ∧ cs.length = k ∧ ∀ j, j < k → w.cell? ⟨b, off + (i * k + j), none⟩ = cs[j]?) := by
  obtain ⟨A, n, c, rfl⟩ := hs
  obtain ⟨fuel, hf⟩ := h
  rcases open_slice ht hf with ⟨hcs, _⟩ | ⟨a, len, cap, m, n', D, Pl, hcs, _, hl, hm, hmm, _, hi⟩
  · simp [Value.cells] at hcs
    obtain ⟨rfl, rfl, rfl⟩ := hcs
    exact ⟨none, 0, 0, rfl, Nat.le_refl _, Nat.zero_le _, fun _ => ⟨rfl, rfl⟩, fun h => absurd h (by omega)⟩
  · simp [Value.cells] at hcs
    obtain ⟨rfl, rfl, rfl⟩ := hcs
    rw [hk] at hi
    have hlm : n ≤ m := by rw [hmm]; split <;> omega
    refine ⟨some a, n, c, rfl, hl, hm, fun e => by (cases e), fun hn => ?_⟩
    have key : ∀ i, i < n → ∃ cs fuel x, DataW.trod enc P w base spare held fuel e cs = some x ∧ cs.length = k ∧ ∀ j, j < k → w.cell? ((a.add (i * k)).add j) = cs[j]? := fun i hin => by
      obtain ⟨cs', hc, ht⟩ := hi i (by omega)
      obtain ⟨_, hcl, hat⟩ := World.cells?_some hc
      exact ⟨cs', n', _, ht, hcl, hat⟩
    obtain ⟨b, off, spot⟩ := a
    have hspot : spot = none := by
      obtain ⟨cs, _, _, _, hcl, hat⟩ := key 0 hn
      have h1 := hat 0 h0
      rw [List.getElem?_eq_getElem (by omega)] at h1
      simpa [Addr.add] using World.cell?_spot h1
    subst hspot
    refine ⟨b, off, rfl, ?_, fun i hin => ?_⟩
    · obtain ⟨cs, _, _, _, hcl, hat⟩ := key 0 hn
      have h1 := hat 0 h0
      rw [plain_add, plain_add, List.getElem?_eq_getElem (by omega)] at h1
      exact World.block_lt_of_cell? w _ h1
    · obtain ⟨cs, fuel, x, h1, h2, h3⟩ := key i hin
      refine ⟨cs, fuel, x, h1, h2, fun j hj => ?_⟩
      rw [← h3 j hj, plain_add, plain_add, Nat.add_assoc]
/-- Elements of one cell: a row that nobody writes. -/
theorem row_of {α : Type} (mk : α → Value) (ok : α → Prop) {t e : TypeId} (ht : P.underlying t = some (.slice e)) (hk : P.cellsOf e = 1)
    (hel : ∀ fuel c x, DataW.trod enc P w base spare held fuel e [c] = some x → ∃ a, c = mk a ∧ ok a) [Nonempty α]
    {v : Value} {d : DataW H} {p : List MemPlace} (h : DataW.Trod enc P w base spare held t v d p) (hs : ∃ A n c, v = .slice A n c) :
    ∃ l : List α, RowI w.hp 1 v l.length (l.map mk) ∧ (∀ a ∈ l, ok a) ∧ l.length ≤ maxLen := by
  obtain ⟨A, n, c, rfl, hnc, hcm, hA, hcells⟩ := slice_at ht hk (by omega) h hs
  rcases Nat.eq_zero_or_pos n with rfl | hn
  · exact ⟨[], ⟨A, c, rfl, rfl, by simp, hcm, fun e => (hA e).2, fun h => absurd h (by simp)⟩, fun a ha => by (cases ha), by simp⟩
  · obtain ⟨b, off, rfl, hb, hc⟩ := hcells hn
    have key : ∀ i, ∃ a, i < n → ok a ∧ w.cell? ⟨b, off + i, none⟩ = some (mk a) := fun i => by
      by_cases hin : i < n
      · obtain ⟨cs, fuel, x, h1, h2, h3⟩ := hc i hin
        match cs, h2 with
        | [c0], _ =>
          obtain ⟨a, rfl, ha⟩ := hel fuel c0 x h1
          have := h3 0 (by omega)
          rw [Nat.mul_one, Nat.add_zero] at this
          exact ⟨a, fun _ => ⟨ha, this⟩⟩
      · exact ⟨Classical.choice inferInstance, fun h => absurd h hin⟩
    obtain ⟨f, key⟩ : ∃ f : Nat → α, ∀ i, i < n → ok (f i) ∧ w.cell? ⟨b, off + i, none⟩ = some (mk (f i)) := ⟨fun i => Classical.choose (key i), fun i => Classical.choose_spec (key i)⟩
    obtain ⟨cs, t', f', hblk, _⟩ := cell_block (key 0 hn).2
    refine ⟨(List.range n).map f, ⟨_, c, by simp, by simp, by simpa using hnc, hcm, (fun e => by cases e), fun _ => ⟨b, off, cs, t', f', rfl, hblk, fun i x hi => ?_⟩⟩, fun a ha => ?_, by simp; omega⟩
    · rw [List.map_map, List.getElem?_map] at hi
      cases hr : (List.range n)[i]? with
      | none => rw [hr] at hi; cases hi
      | some q =>
        obtain ⟨hq, hq'⟩ := List.getElem?_eq_some_iff.1 hr
        simp at hq hq'
        subst hq'
        rw [hr] at hi
        simp only [Option.map_some, Option.some.injEq, Function.comp] at hi
        subst hi
        have h4 := (key i hq).2
        unfold World.cell? at h4
        simpa [hblk] using h4
    · obtain ⟨i, hi, rfl⟩ := List.mem_map.1 ha
      exact (key i (List.mem_range.1 hi)).1
end
def isByte (x : Int) : Prop := 0 ≤ x ∧ x < 256
def isInt (x : Int) : Prop := -9223372036854775808 ≤ x ∧ x ≤ 9223372036854775807
def boolV (b : Bool) : Value := .bool b
section
variable {H : Type} {enc : TypeId × Value → H} {w : World} {base : Nat} {spare : Nat → Bool} {held : Bool}
theorem byte_el (fuel : Nat) (c : Value) (x : DataW H × List MemPlace) (h : DataW.trod enc Tryz.prog w base spare held fuel 5 [c] = some x) : ∃ a, c = byteV a ∧ isByte a := by
  obtain ⟨m, hm, _, hw⟩ := DataW.trod_int Tryz.underlying5 h
  refine ⟨m, by simpa [byteV] using hm, ?_⟩
  have := hw
  simp [Lit.wf, IntKind.min, IntKind.max, IntKind.signed, IntKind.bits] at this
  unfold isByte
  omega
theorem int_el (fuel : Nat) (c : Value) (x : DataW H × List MemPlace) (h : DataW.trod enc Tryz.prog w base spare held fuel 3 [c] = some x) : ∃ a, c = intV a ∧ isInt a := by
  obtain ⟨m, hm, _, hw⟩ := DataW.trod_int Tryz.underlying3 h
  refine ⟨m, by simpa [intV] using hm, ?_⟩
  have := hw
  simp [Lit.wf, IntKind.min, IntKind.max, IntKind.signed, IntKind.bits] at this
  unfold isInt
  omega
theorem bool_el (fuel : Nat) (c : Value) (x : DataW H × List MemPlace) (h : DataW.trod enc Tryz.prog w base spare held fuel 4 [c] = some x) : ∃ a, c = boolV a ∧ True := by
  obtain ⟨m, hm, _⟩ := DataW.trod_bool Tryz.underlying4 h
  exact ⟨m, by simpa [boolV] using hm, trivial⟩
theorem cells_u8 : Tryz.prog.cellsOf 5 = 1 := by kernel_rfl
theorem cells_int : Tryz.prog.cellsOf 3 = 1 := by kernel_rfl
theorem cells_bool : Tryz.prog.cellsOf 4 = 1 := by kernel_rfl
theorem cells_bytes : Tryz.prog.cellsOf 31 = 1 := by kernel_rfl
variable {r : Reach} {b0 : Nat} {v : Value} {d : DataW H} {p : List MemPlace}
theorem open_bytes (hv : Value.okWide Tryz.prog w r b0 31 v) (h : DataW.Trod enc Tryz.prog w base spare held 31 v d p) : ∃ q, BytesI w.hp v q ∧ (∀ x ∈ q, isByte x) ∧ q.length ≤ maxLen := by
  obtain ⟨A, n, c, e⟩ := okWide_slice Tryz.underlying31 hv
  obtain ⟨l, h1, h2, h3⟩ := row_of (P := Tryz.prog) byteV isByte Tryz.underlying31 cells_u8 byte_el h ⟨A, n, c, e⟩
  exact ⟨l, h1, h2, h3⟩
theorem open_ints (hv : Value.okWide Tryz.prog w r b0 32 v) (h : DataW.Trod enc Tryz.prog w base spare held 32 v d p) : ∃ q, IntsI w.hp v q ∧ (∀ x ∈ q, isInt x) ∧ q.length ≤ maxLen := by
  obtain ⟨A, n, c, e⟩ := okWide_slice Tryz.underlying32 hv
  obtain ⟨l, h1, h2, h3⟩ := row_of (P := Tryz.prog) intV isInt Tryz.underlying32 cells_int int_el h ⟨A, n, c, e⟩
  exact ⟨l, h1, h2, h3⟩
/-- A slice of slices of bytes that nobody writes. -/
def RowsI (I : Hp) (v : Value) (l : List (List Int)) : Prop := ∃ vs : List Value, vs.length = l.length ∧ RowI I 1 v l.length vs ∧ (∀ (i : Nat) x q, vs[i]? = some x → l[i]? = some q → BytesI I x q) ∧ ∀ q ∈ l, (∀ x ∈ q, isByte x) ∧ q.length ≤ maxLen
theorem bytes_el (fuel : Nat) (c : Value) (x : DataW H × List MemPlace) (h : DataW.trod enc Tryz.prog w base spare held fuel 31 [c] = some x) : ∃ a : Value × List Int, c = a.1 ∧ (BytesI w.hp a.1 a.2 ∧ (∀ x ∈ a.2, isByte x) ∧ a.2.length ≤ maxLen) := by
  have hs : ∃ A n c', c = .slice A n c' := by
    rcases open_slice Tryz.underlying31 h with ⟨hcs, _⟩ | ⟨a, len, cap, m, n', D, Pl, hcs, _⟩
    · exact ⟨none, 0, 0, by simpa using hcs⟩
    · exact ⟨some a, len, cap, by simpa using hcs⟩
  have hT : DataW.Trod enc Tryz.prog w base spare held 31 c x.1 x.2 := by
    obtain ⟨A, n, c', rfl⟩ := hs
    exact ⟨fuel, by simpa [Value.cells] using h⟩
  obtain ⟨q, h1, h2, h3⟩ := row_of byteV isByte Tryz.underlying31 cells_u8 byte_el hT hs
  exact ⟨(c, q), rfl, h1, h2, h3⟩
end
end Go.Proofs.YtagljjhfkhadpaaGreat
