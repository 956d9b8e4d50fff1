/- Slices of structs that came in: rows of several cells. -/
import Derived.Test.YtagljjhfkhadpaaGreatArgs
import Derived.Test.YtagljjhfkhadpaaGreatRowsk
set_option linter.unusedSimpArgs false
set_option linter.unusedVariables false
set_option linter.unusedSectionVars false
namespace Go.Proofs.YtagljjhfkhadpaaGreat
open Go.RowKit Go.ChangeShapes Go.WideShapes Go.ChangeAt Go.Deep Go.Joins
set_option maxRecDepth 100000
section
variable {H : Type} {enc : TypeId × Value → H} {P : Program} {w : World} {base : Nat} {spare : Nat → Bool} {held : Bool}
theorem rows_of {α : Type} (mk : α → List Value) (ok : α → Prop) {k : Nat} (hmk : ∀ a, (mk a).length = k) (h0 : 0 < k) {t e : TypeId} (ht : P.underlying t = some (.slice e)) (hk : P.cellsOf e = k)
    (hel : ∀ fuel cs x, cs.length = k → DataW.trod enc P w base spare held fuel e cs = some x → ∃ a, cs = mk a ∧ ok a) [Nonempty α]
    {v : Value} {d : DataW H} {p : List MemPlace} (h : DataW.Trod enc P w base spare held t v d p) (hs : ∃ A n c, v = .slice A n c) :
    ∃ l : List α, RowI w.hp k v l.length (l.flatMap mk) ∧ (∀ a ∈ l, ok a) ∧ l.length ≤ maxLen := by
  obtain ⟨A, n, c, rfl, hnc, hcm, hA, hcells⟩ := slice_at ht hk h0 h hs
  rcases Nat.eq_zero_or_pos n with rfl | hn
  · exact ⟨[], ⟨A, c, rfl, by simp, by simp, hcm, fun e => (hA e).2, fun h => absurd h (by simp)⟩, fun a ha => by (cases ha), by simp⟩
  · obtain ⟨b, off, rfl, hb, hc⟩ := hcells hn
    have key : ∀ i, ∃ a, i < n → ok a ∧ ∀ j, j < k → w.cell? ⟨b, off + (i * k + j), none⟩ = (mk a)[j]? := fun i => by
      by_cases hin : i < n
      · obtain ⟨cs, fuel, x, h1, h2, h3⟩ := hc i hin
        obtain ⟨a, rfl, ha⟩ := hel fuel cs x h2 h1
        exact ⟨a, fun _ => ⟨ha, h3⟩⟩
      · exact ⟨Classical.choice inferInstance, fun h => absurd h hin⟩
    obtain ⟨f, key⟩ : ∃ f : Nat → α, ∀ i, i < n → ok (f i) ∧ ∀ j, j < k → w.cell? ⟨b, off + (i * k + j), none⟩ = (mk (f i))[j]? := ⟨fun i => Classical.choose (key i), fun i => Classical.choose_spec (key i)⟩
    have hfirst : ∃ u, w.cell? ⟨b, off + (0 * k + 0), none⟩ = some u := by
      rw [(key 0 hn).2 0 h0]
      exact ⟨_, List.getElem?_eq_getElem (by rw [hmk]; exact h0)⟩
    obtain ⟨u, hu⟩ := hfirst
    obtain ⟨cs, t', f', hblk, _⟩ := cell_block hu
    refine ⟨(List.range n).map f, ⟨_, c, by simp, by rw [flatk_len hmk], by simpa using hnc, hcm, (fun e => by cases e), fun _ => ⟨b, off, cs, t', f', rfl, hblk, fun q x hq => ?_⟩⟩, fun a ha => ?_, by simp; omega⟩
    · have hql : q < ((List.range n).map f).length * k := by
        rw [← flatk_len hmk]
        exact (List.getElem?_eq_some_iff.1 hq).1
      simp only [List.length_map, List.length_range] at hql
      have hqd : q = q / k * k + q % k := by rw [Nat.mul_comm]; exact (Nat.div_add_mod q k).symm
      have hi : q / k < n := Nat.div_lt_of_lt_mul (by rw [Nat.mul_comm]; exact hql)
      have hj : q % k < k := Nat.mod_lt _ h0
      have hai : ((List.range n).map f)[q / k]? = some (f (q / k)) := by simp [hi]
      have h4 := flatk_get hmk _ (q / k) (q % k) _ hai hj
      rw [← hqd, hq] at h4
      have h5 := (key (q / k) hi).2 (q % k) hj
      rw [← h4, ← hqd] at h5
      unfold World.cell? at h5
      simpa [hblk] using h5
    · obtain ⟨i, hi, rfl⟩ := List.mem_map.1 ha
      exact (key i (List.mem_range.1 hi)).1
end
section
variable {H : Type} {enc : TypeId × Value → H} {P : Program} {w : World} {base : Nat} {spare : Nat → Bool} {held : Bool}
/-- A field of so many cells. -/
theorem field_at {t : TypeId} {fs : Array Field} {fuel : Nat} {cs : List Value} {x : DataW H × List MemPlace} (ht : P.underlying t = some (.struct fs)) (h : DataW.trod enc P w base spare held fuel t cs = some x)
    (j : Nat) (f : Field) (hj : fs[j]? = some f) : ∃ n y, DataW.trod enc P w base spare held n f.type ((cs.drop f.offset).take (P.cellsOf f.type)) = some y := by
  obtain ⟨ys, n, hn, hy, hlen, hyl, hf⟩ := DataW.trod_struct ht h
  have hjl : j < ys.length := by rw [hyl]; exact (Array.getElem?_eq_some_iff.1 hj).1
  exact ⟨n, ys[j], by rw [hf j f hj, List.getElem?_eq_getElem hjl]⟩
end
section
variable {H : Type} {enc : TypeId × Value → H} {P : Program} {w : World} {base : Nat} {spare : Nat → Bool} {held : Bool}
theorem one_field {t : TypeId} {fs : Array Field} {fuel : Nat} {cs : List Value} {x : DataW H × List MemPlace} (ht : P.underlying t = some (.struct fs)) (h : DataW.trod enc P w base spare held fuel t cs = some x)
    (j : Nat) (f : Field) (hj : fs[j]? = some f) (h1 : P.cellsOf f.type = 1) {c : Value} (hc : cs[f.offset]? = some c) : ∃ n y, DataW.trod enc P w base spare held n f.type [c] = some y := by
  obtain ⟨n, y, hy⟩ := field_at ht h j f hj
  have hd : (cs.drop f.offset).take 1 = [c] := by
    obtain ⟨hlt, he⟩ := List.getElem?_eq_some_iff.1 hc
    rw [List.drop_eq_getElem_cons hlt, he]; rfl
  rw [h1, hd] at hy
  exact ⟨n, y, hy⟩
theorem int_field {t k : TypeId} {kd : IntKind} {fs : Array Field} {fuel : Nat} {cs : List Value} {x : DataW H × List MemPlace} (ht : P.underlying t = some (.struct fs)) (h : DataW.trod enc P w base spare held fuel t cs = some x)
    (j : Nat) (f : Field) (hj : fs[j]? = some f) (hk : f.type = k) (hu : P.underlying k = some (.int kd)) (h1 : P.cellsOf k = 1) {c : Value} (hc : cs[f.offset]? = some c) : ∃ m : Int, c = .int kd m ∧ (Lit.int kd m).wf = true := by
  subst hk
  obtain ⟨n, y, hy⟩ := one_field ht h j f hj h1 hc
  obtain ⟨m, hm, _, hw⟩ := DataW.trod_int hu hy
  exact ⟨m, by simpa using hm, hw⟩
theorem bool_field {t k : TypeId} {fs : Array Field} {fuel : Nat} {cs : List Value} {x : DataW H × List MemPlace} (ht : P.underlying t = some (.struct fs)) (h : DataW.trod enc P w base spare held fuel t cs = some x)
    (j : Nat) (f : Field) (hj : fs[j]? = some f) (hk : f.type = k) (hu : P.underlying k = some .bool) (h1 : P.cellsOf k = 1) {c : Value} (hc : cs[f.offset]? = some c) : ∃ m : Bool, c = .bool m := by
  subst hk
  obtain ⟨n, y, hy⟩ := one_field ht h j f hj h1 hc
  obtain ⟨m, hm, _⟩ := DataW.trod_bool hu hy
  exact ⟨m, by simpa using hm⟩
end
section
variable {H : Type} {enc : TypeId × Value → H} {P : Program} {w : World} {base : Nat} {spare : Nat → Bool} {held : Bool}
/-- A field of a type that is known. -/
theorem part_field {t k : TypeId} {fs : Array Field} {fuel o n : Nat} {cs : List Value} {x : DataW H × List MemPlace} (ht : P.underlying t = some (.struct fs)) (h : DataW.trod enc P w base spare held fuel t cs = some x)
    (j : Nat) (f : Field) (hj : fs[j]? = some f) (hk : f.type = k) (ho : f.offset = o) (hn : P.cellsOf k = n) : ∃ m y, DataW.trod enc P w base spare held m k ((cs.drop o).take n) = some y := by
  subst hk ho hn
  exact field_at ht h j f hj
end
end Go.Proofs.YtagljjhfkhadpaaGreat
