/- Arguments of the laws opened: a slice of tags; a note. -/
import Derived.Test.YtagfdgdoboncfaaWords
import Derived.ProofKit
import Derived.OpenShut
import Derived.Deep.Slices
import Derived.Lib.SmallJoins
import Derived.Deep.Fields
namespace Go.Proofs.Ytagfdgdoboncfaa
open Go.ChangeShapes Go.WideShapes Go.ChangeAt Go.RowKit Go.Deep Go.Joins
section
variable {H : Type} {enc : TypeId × Value → H} {P : Program} {w : World} {base : Nat} {spare : Nat → Bool} {held : Bool}
/-- A field of one cell, read by itself. -/
theorem one_field {t : TypeId} {fs : Array Field} {fuel : Nat} {cs : List Value} {x : DataW H × List MemPlace} (ht : P.underlying t = some (.struct fs)) (h : DataW.trod enc P w base spare held fuel t cs = some x)
    (j : Nat) (f : Field) (hj : fs[j]? = some f) (h1 : P.cellsOf f.type = 1) {c : Value} (hc : cs[f.offset]? = some c) : ∃ n y, DataW.trod enc P w base spare held n f.type [c] = some y := by
  obtain ⟨ys, n, hn, hy, hlen, hyl, hf⟩ := DataW.trod_struct ht h
  have g := hf j f hj
  rw [h1] at g
  have hd : (cs.drop f.offset).take 1 = [c] := by
    obtain ⟨hlt, he⟩ := List.getElem?_eq_some_iff.1 hc
    rw [List.drop_eq_getElem_cons hlt, he]; rfl
  rw [hd] at g
  have hjl : j < ys.length := by rw [hyl]; exact (Array.getElem?_eq_some_iff.1 hj).1
  exact ⟨n, ys[j], by rw [g, List.getElem?_eq_getElem hjl]⟩
theorem int_field {t k : TypeId} {kd : IntKind} {fs : Array Field} {fuel : Nat} {cs : List Value} {x : DataW H × List MemPlace} (ht : P.underlying t = some (.struct fs)) (h : DataW.trod enc P w base spare held fuel t cs = some x)
    (j : Nat) (f : Field) (hj : fs[j]? = some f) (hk : f.type = k) (hu : P.underlying k = some (.int kd)) (h1 : P.cellsOf k = 1) {c : Value} (hc : cs[f.offset]? = some c) : ∃ m : Int, c = .int kd m ∧ (Lit.int kd m).wf = true := by
  subst hk
  obtain ⟨n, y, hy⟩ := one_field ht h j f hj h1 hc
  obtain ⟨m, hm, _, hw⟩ := DataW.trod_int hu hy
  exact ⟨m, by simpa using hm, hw⟩
theorem slice_field {t k e : TypeId} {fs : Array Field} {fuel : Nat} {cs : List Value} {x : DataW H × List MemPlace} (ht : P.underlying t = some (.struct fs)) (h : DataW.trod enc P w base spare held fuel t cs = some x)
    (j : Nat) (f : Field) (hj : fs[j]? = some f) (hk : f.type = k) (hu : P.underlying k = some (.slice e)) (h1 : P.cellsOf k = 1) {c : Value} (hc : cs[f.offset]? = some c) :
    ∃ A n cap, c = .slice A n cap ∧ n ≤ cap ∧ cap ≤ maxLen ∧ ∃ m y, DataW.trod enc P w base spare held m k [c] = some y := by
  subst hk
  obtain ⟨n, y, hy⟩ := one_field ht h j f hj h1 hc
  rcases open_slice hu hy with ⟨hcs, _⟩ | ⟨a, len, cap, m, n', D, Pl, hcs, _, hl, hm, _⟩
  · have : c = .slice none 0 0 := by simpa using hcs
    exact ⟨none, 0, 0, this, Nat.le_refl _, Nat.zero_le _, _, _, hy⟩
  · have : c = .slice (some a) len cap := by simpa using hcs
    exact ⟨some a, len, cap, this, hl, hm, _, _, hy⟩
end
section
variable {H : Type} {enc : TypeId × Value → H} {w : World} {base : Nat} {spare : Nat → Bool} {held : Bool}
theorem int_cells : Try.prog.cellsOf 3 = 1 := by kernel_rfl
theorem bytes_cells : Try.prog.cellsOf 30 = 1 := by kernel_rfl
theorem tag_cells : Try.prog.cellsOf 50 = 4 := by kernel_rfl
theorem note_cells : Try.prog.cellsOf 32 = 6 := by kernel_rfl
theorem open_tag {fuel : Nat} {cs : List Value} {x : DataW H × List MemPlace} (h : DataW.trod enc Try.prog w base spare held fuel 50 cs = some x) (hl : cs.length = 4) : ∃ t : Tag, cs = t.vals := by
  match cs, hl with
  | [c0, c1, c2, c3], _ =>
    obtain ⟨m0, rfl, _⟩ := int_field Try.underlying50 h 0 _ rfl rfl Try.underlying3 int_cells (c := c0) rfl
    obtain ⟨m1, rfl, _⟩ := int_field Try.underlying50 h 1 _ rfl rfl Try.underlying3 int_cells (c := c1) rfl
    obtain ⟨m2, rfl, _⟩ := int_field Try.underlying50 h 2 _ rfl rfl Try.underlying3 int_cells (c := c2) rfl
    obtain ⟨m3, rfl, _⟩ := int_field Try.underlying50 h 3 _ rfl rfl Try.underlying3 int_cells (c := c3) rfl
    exact ⟨⟨m0, m1, m2, m3⟩, rfl⟩
theorem open_tags {r : Reach} {b0 : Nat} {v : Value} {d : DataW H} {p : List MemPlace} (_hv : Value.okWide Try.prog w r b0 24 v) (h : DataW.Trod enc Try.prog w base spare held 24 v d p) :
    ∃ A n c l, v = .slice A n c ∧ TagsAt w A n l ∧ n ≤ c ∧ n ≤ 9223372036854775807 := by
  obtain ⟨A, n, c, rfl⟩ := okWide_slice Try.underlying24 _hv
  obtain ⟨fuel, hf⟩ := h
  rcases open_slice Try.underlying24 hf with ⟨hcs, _⟩ | ⟨a, len, cap, m, n', D, Pl, hcs, _, hl, hm, hmm, _, hi⟩
  · simp [Value.cells] at hcs
    obtain ⟨rfl, rfl, rfl⟩ := hcs
    exact ⟨none, 0, 0, [], rfl, TagsAt.nil _, Nat.le_refl _, by omega⟩
  · simp [Value.cells] at hcs
    obtain ⟨rfl, rfl, rfl⟩ := hcs
    rw [tag_cells] at hi
    have hlm : n ≤ m := by rw [hmm]; split <;> omega
    have key : ∀ i, ∃ t : Tag, i < n → ∀ j, j < 4 → w.cell? ((a.add (i * 4)).add j) = t.vals[j]? := fun i => by
      by_cases hin : i < n
      · obtain ⟨cs', hc, ht⟩ := hi i (by omega)
        obtain ⟨_, hcl, hat⟩ := World.cells?_some hc
        obtain ⟨t, ht⟩ := open_tag ht hcl
        subst ht
        exact ⟨t, fun _ j hj => hat j hj⟩
      · exact ⟨⟨0, 0, 0, 0⟩, fun h => absurd h hin⟩
    obtain ⟨f, key⟩ : ∃ f : Nat → Tag, ∀ i, i < n → ∀ j, j < 4 → w.cell? ((a.add (i * 4)).add j) = (f i).vals[j]? := ⟨fun i => Classical.choose (key i), fun i => Classical.choose_spec (key i)⟩
    refine ⟨some a, n, c, (List.range n).map f, rfl, ⟨by simp, fun hn => ?_⟩, hl, by unfold maxLen at hm; omega⟩
    have h0 := key 0 hn 0 (by omega)
    obtain ⟨b, off, spot⟩ := a
    have hspot : spot = none := by
      have h0' : w.cell? (((⟨b, off, spot⟩ : Addr).add (0 * 4)).add 0) = some (.int .i64 (f 0).id) := h0
      simpa [Addr.add] using World.cell?_spot h0'
    subst hspot
    have plain : ∀ (b o j : Nat), (⟨b, o, none⟩ : Addr).add j = ⟨b, o + j, none⟩ := fun b o j => by
      unfold Addr.add; split
      · subst j; rfl
      · rfl
    refine ⟨b, off, rfl, ?_, fun i t hi' => ?_⟩
    · have h0' : w.cell? (((⟨b, off, none⟩ : Addr).add (0 * 4)).add 0) = some (.int .i64 (f 0).id) := h0
      rw [plain, plain] at h0'
      exact World.block_lt_of_cell? w _ h0'
    · rw [List.getElem?_map] at hi'
      cases hr : (List.range n)[i]? with
      | none => rw [hr] at hi'; cases hi'
      | some q =>
        obtain ⟨hq, hq'⟩ := List.getElem?_eq_some_iff.1 hr
        simp at hq hq'
        subst hq'
        rw [hr] at hi'
        simp only [Option.map_some, Option.some.injEq] at hi'
        have hc := key i hq
        rw [hi'] at hc
        have c0 := hc 0 (by omega)
        have c1 := hc 1 (by omega)
        have c2 := hc 2 (by omega)
        have c3 := hc 3 (by omega)
        rw [plain, plain] at c0 c1 c2 c3
        exact ⟨c0, c1, c2, c3⟩
theorem open_note {r : Reach} {b0 : Nat} {v : Value} {d : DataW H} {p : List MemPlace} (hv : Value.okWide Try.prog w r b0 32 v) (h : DataW.Trod enc Try.prog w base spare held 32 v d p) :
    ∃ (ph bo no st nu : Int) (A : Option Addr) (n c : Nat), v = .agg #[.int .i64 ph, .int .i64 bo, .int .i64 no, .int .i64 st, .int .i64 nu, .slice A n c] ∧ n ≤ 9223372036854775807 := by
  obtain ⟨cs, rfl, hsz⟩ := okWide_struct Try.underlying32 hv
  obtain ⟨l⟩ := cs
  rw [note_cells] at hsz
  obtain ⟨fuel, hf⟩ := h
  match l, hsz with
  | [c0, c1, c2, c3, c4, c5], _ =>
    obtain ⟨m0, rfl, _⟩ := int_field Try.underlying32 hf 0 _ rfl rfl Try.underlying3 int_cells (c := c0) rfl
    obtain ⟨m1, rfl, _⟩ := int_field Try.underlying32 hf 1 _ rfl rfl Try.underlying3 int_cells (c := c1) rfl
    obtain ⟨m2, rfl, _⟩ := int_field Try.underlying32 hf 2 _ rfl rfl Try.underlying3 int_cells (c := c2) rfl
    obtain ⟨m3, rfl, _⟩ := int_field Try.underlying32 hf 3 _ rfl rfl Try.underlying3 int_cells (c := c3) rfl
    obtain ⟨m4, rfl, _⟩ := int_field Try.underlying32 hf 4 _ rfl rfl Try.underlying3 int_cells (c := c4) rfl
    obtain ⟨A, n, cap, rfl, hl, hm, _⟩ := slice_field Try.underlying32 hf 5 _ rfl rfl Try.underlying30 bytes_cells (c := c5) rfl
    exact ⟨m0, m1, m2, m3, m4, A, n, cap, rfl, by unfold maxLen at hm; omega⟩
end
end Go.Proofs.Ytagfdgdoboncfaa
