/- string(b) of what reads as bytes; a row of bytes that is written out. -/
import Derived.Test.YtagljjhfkhadpaaGreatStoreOps
import Derived.Laws.BytesArg
import Derived.Lib.SlBytesConst
set_option linter.unusedSimpArgs false
set_option linter.unusedVariables false
set_option linter.unusedSectionVars false
namespace Go.Proofs.YtagljjhfkhadpaaGreat
open Go.RowKit
theorem src_string {w : World} {v : Value} {n : Nat} {xs : List Int} (h : SliceSrc w 1 v n (xs.map byteV)) : (convert 31 9 v).run Tryz.prog w = .ok (.string (strOfNums xs)) w := by
  obtain ⟨A, c, rfl, hsrc, hA⟩ := h
  have hl := hsrc.len
  rw [List.length_map, Nat.mul_one] at hl
  rcases Nat.eq_zero_or_pos n with h0 | h0
  · subst h0
    obtain rfl := List.eq_nil_of_length_eq_zero hl
    rw [run_convert_bytes_string w 31 9 _ A 0 c Tryz.underlying31 (by kernel_rfl) Tryz.underlying9]
    cases A with
    | none => simp [Conv.bytesToString]; rfl
    | some a =>
      have hz : (loadCells a 0).run Tryz.prog w = .ok #[] w := by
        have := run_loadCells_list (P := Tryz.prog) w a [] (fun j v hj => by simp at hj)
        simpa using this
      rw [run_bytesToString w a 0 c [] (by simpa using hz)]
      rfl
  · obtain ⟨ad, rfl, hc⟩ := hsrc.cells h0
    have hl2 : (loadCells ad n).run Tryz.prog w = .ok (xs.map (Value.int .u8)).toArray w := by
      have := run_loadCells_list (P := Tryz.prog) w ad (xs.map byteV) (fun j v hj => hc j v hj)
      rw [List.length_map, hl] at this
      exact this
    rw [run_convert_bytes_string w 31 9 _ _ n c Tryz.underlying31 (by kernel_rfl) Tryz.underlying9, run_bytesToString w ad n c xs hl2, foldl_push_bytes]
    simp [strOfNums, ByteArray.empty, ByteArray.emptyWithCapacity]
    rfl
/-- []byte("..") of a constant. -/
theorem conv_lit (w : World) (C : Array Value) (n c : Nat) : (convert 31 31 (.slice (some ⟨w.heap.size, 0, none⟩) n c)).run Tryz.prog (w.alloc (.cells C 5)) = .ok (.slice (some ⟨w.heap.size, 0, none⟩) n c) (w.alloc (.cells C 5 (C.size, C.size + 1))) :=
  Lib.run_convert_bytes_const w 31 5 C n c Tryz.underlying31 Tryz.underlying5
theorem lit_src (w : World) (cs : Array Value) (xs : List Int) (n : Nat) (f : Nat × Nat) (h1 : cs.toList = xs.map byteV) (h2 : xs.length = n) : SliceSrc (w.alloc (.cells cs 5 f)) 1 (.slice (some ⟨w.heap.size, 0, none⟩) n n) n (xs.map byteV) := by
  refine ⟨_, _, rfl, ⟨by simp [h2], fun _ => ⟨_, rfl, fun j u hu => ?_⟩, bytes_one xs⟩, fun e => by cases e⟩
  rw [add_plain, Nat.zero_add, cells_of (heap_alloc_new _ _) j, ← hu, ← h1]
  simp
section
variable {W w : World} {I : Hp} {l : List HP}
/-- A new row of bytes. -/
theorem St.lit_row (h : St W I w l) (cs : Array Value) (xs : List Value) (n : Nat) (h1 : cs.toList = xs) (h2 : xs.length = n) (h3 : n ≤ maxLen) : St W I (w.alloc (.cells cs 5)) (HP.row 5 1 (.slice (some ⟨w.heap.size, 0, none⟩) n n) n xs :: l) := by
  have hs : cs.size = n := by rw [← h2, ← h1]; simp
  exact (h.alloc (.cells cs 5)).row_shut (by omega) (Nat.le_refl _) h3 (by omega) (by rw [← h1, List.take_of_length_le (by simp; omega)])
end
section
variable {W w : World} {I : Hp} {l : List HP}
/-- append(v, v2...) of bytes. -/
theorem St.bytes_append {v v2 : Value} {n m : Nat} {xs ys : List Value} (ty : TypeId) (h : St W I w (HP.row 5 1 v n xs :: l)) (hs : SliceSrc w 1 v2 m ys) (hb : n + m ≤ 1000000000) :
    ∃ v' w', (Builtin.append_ #[31, 31] ty #[v, v2]).run Tryz.prog w = .ok v' w' ∧ St W I w' (HP.row 5 1 v' (n + m) (xs ++ ys) :: l) := by
  obtain ⟨A, c, rfl, hsrc, hA⟩ := hs
  obtain ⟨i0, hi0, hz0, hz1, hz2⟩ := info_parts cloneB_info
  obtain ⟨v', w', hr, ho', hgr, hv'⟩ := run_append_src (P := Tryz.prog) w 0 31 ty 5 i0 _ 1 1 Tryz.underlying31 hi0 hz0 hz1 hz2 rfl (by decide) v n xs h.row_owns A m c ys hsrc hA (by unfold maxLen; omega) (by omega) (Nat.zero_le _)
  exact ⟨v', w', hr, h.row_grown ho' hgr hv'⟩
end
theorem bytes_take {I : Hp} {A : Option Addr} {n c m : Nat} {q : List Int} (h : BytesI I (.slice A n c) q) (hm : m ≤ q.length) : BytesI I (.slice A m c) (q.take m) := by
  obtain ⟨A', c', e, h1, h2, h3, h4, h5⟩ := h
  simp only [Value.slice.injEq] at e
  obtain ⟨rfl, rfl, rfl⟩ := e
  have hl : (q.take m).length = m := by rw [List.length_take]; omega
  refine ⟨A, c, by rw [hl], by simp, by omega, h3, h4, fun hn => ?_⟩
  obtain ⟨b, off, cs, t, f, e1, e2, e3⟩ := h5 (by omega)
  refine ⟨b, off, cs, t, f, e1, e2, fun i x hx => e3 i x ?_⟩
  rw [List.map_take, List.getElem?_take] at hx
  split at hx
  · exact hx
  · cases hx
end Go.Proofs.YtagljjhfkhadpaaGreat
