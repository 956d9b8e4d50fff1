/- A store that is new: what 'known' does with it. -/
import Derived.Test.YtagfdgdoboncfaaTurn
namespace Go.Proofs.Ytagfdgdoboncfaa
open Go.RowKit

/-- A new store: its cells, and that its map of what is seen is empty. -/
def Fresh (w : World) (p : Nat) (room : Int) : Prop :=
  ∃ m, p < w.heap.size ∧ m < w.heap.size ∧ w.heap[m]? = some (.map #[] 0) ∧
    w.heap[p]? = some (.cells #[.int .i64 room, .int .i64 0, .int .i64 0, .int .i64 0, .bool true, .map (some m), .map (some (m + 1)), .map (some (m + 2)), .map (some (m + 3)), .bool false, .int .i64 0, .int .i64 0, .slice none 0 0] 63)
theorem Fresh.below {w w' : World} {p : Nat} {room : Int} {B : Nat} (h : Fresh w p room) (hb : Below B w w') (hB : w.heap.size ≤ B) : Fresh w' p room := by
  obtain ⟨m, h1, h2, h3, h4⟩ := h
  have := hb.size
  exact ⟨m, by omega, by omega, (hb.block _ (by omega)).trans h3, (hb.block _ (by omega)).trans h4⟩

set_option maxHeartbeats 1000000 in
theorem new_fresh (room : Int) (w : World) (h0 : 0 ≤ room) (h1 : room ≤ 1000000) :
    Calls Try.prog 26 #[.int .i64 room] w fun e w' => ∃ p, e = .returned (.pointer (some ⟨p, 0, none⟩)) ∧ Fresh w' p room ∧ Below w.heap.size w w' := by
  have hmm := @run_makeMap Try.prog
  go_enter Try.func26, Try.ntmps26
  by_cases hz : room = 0
  all_goals
    go_wp2
    all_goals
      go_ret
      refine ⟨_, rfl, ⟨w.heap.size, ?_, ?_, ?_, ?_⟩, ?_⟩
      · simp
      · simp; omega
      · rw [heap_alloc_old (by simp; omega), heap_alloc_old (by simp; omega), heap_alloc_old (by simp; omega), heap_alloc_old (by simp)]
        exact heap_alloc_new _ _
      · first | exact heap_new_at (by simp) _ | (rw [hz]; exact heap_new_at (by simp) _) | fail
      · exact (((((Below.refl _ _).alloc (Nat.le_refl _) _).alloc (by simp) _).alloc (by simp; omega) _).alloc (by simp; omega) _).alloc (by simp; omega) _
set_option maxHeartbeats 1000000 in
theorem on_fresh (p : Nat) (room : Int) (w : World) (h : Fresh w p room) :
    Calls Try.prog 46 #[.pointer (some ⟨p, 0, none⟩)] w fun e w' => e = .returned (.bool true) ∧ w = w' := by
  obtain ⟨m, hp, hm, hmap, hcs⟩ := h
  have c4 := cell_of_row w _ 4 _ _ _ hcs
  simp at c4
  clear hcs hmap
  go_enter Try.func46, Try.ntmps46
  go_wp2
  go_ret
  exact ⟨rfl, rfl⟩
theorem lookup_empty (r : Nat) (w : World) (hm : w.heap[r]? = some (.map #[] 0)) :
    (Instr.lookup 59 (.map (some r)) (.agg #[.int .i64 6, .int .i64 0, .int .i64 0, .int .i64 0]) true).run Try.prog w = .ok (.tuple #[.pointer none, .bool false]) w := by
  have hu : Try.prog.underlying 59 = some (.map 68 78) := by kernel_rfl
  have hck : (Instr.checkKey true 10000 68 (.agg #[.int .i64 6, .int .i64 0, .int .i64 0, .int .i64 0])).run Try.prog w = .ok () w := by kernel_rfl
  have hz : (zeroValue 78).run Try.prog w = .ok (.pointer none) w := by kernel_rfl
  have hk : (Instr.findKey 68 (.agg #[.int .i64 6, .int .i64 0, .int .i64 0, .int .i64 0]) []).run Try.prog w = .ok none w := by kernel_rfl
  simp [Instr.lookup, run_underlying hu, MapKept.run_getObj_map hm, hck, hk, hz, Result.andThen]
set_option maxHeartbeats 1000000 in
theorem may_fresh (p : Nat) (room : Int) (w : World) (h : Fresh w p room) :
    Calls Try.prog 49 #[.pointer (some ⟨p, 0, none⟩), .agg #[.int .i64 6, .int .i64 0, .int .i64 0, .int .i64 0]] w fun e w' => e = .returned (.int .i64 0) ∧ Below w.heap.size w w' := by
  obtain ⟨m, hp, hm, hmap, hcs⟩ := h
  have c4 := cell_of_row w _ 4 _ _ _ hcs
  simp at c4
  clear hcs hmap
  go_enter Try.func49, Try.ntmps49
  go_wp2
  go_ret
  exact ⟨rfl, ((Below.refl _ _).alloc (Nat.le_refl _) _).alloc (by simp) _⟩
set_option maxHeartbeats 1000000 in
theorem there_fresh (p : Nat) (room : Int) (w : World) (h : Fresh w p room) :
    Calls Try.prog 47 #[.pointer (some ⟨p, 0, none⟩), .agg #[.int .i64 6, .int .i64 0, .int .i64 0, .int .i64 0]] w fun e w' => e = .returned (.tuple #[.pointer none, .int .i64 4]) ∧ Below w.heap.size w w' := by
  have HF := Lib.hid h
  obtain ⟨m, hp, hm, hmap, hcs⟩ := h
  have c5 := cell_of_row w _ 5 _ _ _ hcs
  simp at c5
  have HM := Lib.hid hmap
  clear hcs hmap
  go_enter Try.func47, Try.ntmps47
  go_wp2_with fail
  refine (may_fresh p room _ (HF.out.below ((Below.refl _ _).alloc (Nat.le_refl _) _) (Nat.le_refl _))).mono ?_
  rintro e w1 ⟨rfl, hb⟩
  have hbw : Below w.heap.size w w1 := ((Below.refl _ _).alloc (Nat.le_refl _) _).trans (hb.mono (by simp))
  have c5' := (hbw.cell (p := ⟨p, 5, none⟩) hp).trans c5
  have hg := block_behind hb
  have b0 := cell_of_row w1 _ 0 _ _ _ hg
  have b1 := cell_of_row w1 _ 1 _ _ _ hg
  have b2 := cell_of_row w1 _ 2 _ _ _ hg
  have b3 := cell_of_row w1 _ 3 _ _ _ hg
  simp at b0 b1 b2 b3
  have hl := fun nq => lookup_empty m (w1.drewN nq) ((hbw.block _ hm).trans HM.out)
  clear hb hg
  go_wp2_with fail
  go_quiet (fail)
  go_wp2
  go_ret2
  exact ⟨rfl, below_drewN hbw _⟩
set_option maxHeartbeats 1000000 in
theorem attr_fresh (p : Nat) (room : Int) (w : World) (h : Fresh w p room) (s : ByteArray) :
    Calls Try.prog 38 #[.pointer (some ⟨p, 0, none⟩), .agg #[.int .i64 6, .int .i64 0, .int .i64 0, .int .i64 0], .string s] w fun e w' => e = .returned (.tuple #[.slice none 0 0, .int .i64 4]) ∧ Below w.heap.size w w' := by
  go_enter Try.func38, Try.ntmps38
  go_wp2_with fail
  refine (there_fresh p room _ (h.below ((Below.refl _ _).alloc (Nat.le_refl _) _) (Nat.le_refl _))).mono ?_
  rintro e w1 ⟨rfl, hb⟩
  have hbw : Below w.heap.size w w1 := ((Below.refl _ _).alloc (Nat.le_refl _) _).trans (hb.mono (by simp))
  clear hb
  go_wp2_with fail
  go_ret2
  exact ⟨rfl, hbw⟩
set_option maxHeartbeats 1000000 in
theorem ready_fresh (p : Nat) (room : Int) (w : World) (h : Fresh w p room) :
    Calls Try.prog 37 #[.pointer (some ⟨p, 0, none⟩)] w fun e w' => e = .returned (.int .i64 0) ∧ w = w' := by
  go_enter Try.func37, Try.ntmps37
  go_wp2_with fail
  refine (on_fresh p room _ h).mono ?_
  rintro e w1 ⟨rfl, rfl⟩
  go_wp2_with fail
  go_ret
  exact ⟨rfl, rfl⟩
set_option maxHeartbeats 1000000 in
theorem own_any (w : World) :
    Calls Try.prog 39 #[] w fun e w' => e = .returned (.agg #[.int .i64 6, .int .i64 0, .int .i64 0, .int .i64 0]) ∧ Below w.heap.size w w' := by
  go_enter Try.func39, Try.ntmps39
  go_wp2
  exact bodyPost_ret (v := .agg #[.int .i64 6, .int .i64 0, .int .i64 0, .int .i64 0]) (by simp [results, Try.results39, go_sem]) rfl ⟨rfl, (Below.refl _ _).alloc (Nat.le_refl _) _⟩
set_option maxHeartbeats 1000000 in
theorem load_fresh (p : Nat) (room : Int) (w : World) (h : Fresh w p room) :
    Calls Try.prog 27 #[.pointer (some ⟨p, 0, none⟩)] w fun e w' => e = .returned (.tuple #[.agg #[.int .i64 0, .int .i64 0, .int .i64 0, .int .i64 0, .int .i64 0, .slice none 0 0], .int .i64 4]) ∧ Below w.heap.size w w' := by
  go_enter Try.func27, Try.ntmps27
  go_wp2_with fail
  refine (ready_fresh p room _ (h.below ((Below.refl _ _).alloc (Nat.le_refl _) _) (Nat.le_refl _))).mono ?_
  rintro e w1 ⟨rfl, rfl⟩
  go_wp2_with fail
  refine (own_any _).mono ?_
  rintro e w1 ⟨rfl, hb⟩
  have hg := block_behind hb
  have hb1 : Below w.heap.size w w1 := ((Below.refl _ _).alloc (Nat.le_refl _) _).trans (hb.mono (by simp))
  clear hb
  go_wp2_with fail
  refine (attr_fresh p room _ (h.below hb1 (Nat.le_refl _)) _).mono ?_
  rintro e w2 ⟨rfl, hb2⟩
  have hz := (Array.getElem?_eq_some_iff.1 hg).1
  have hg2 := (hb2.block _ hz).trans hg
  have hbw : Below w.heap.size w w2 := hb1.trans (hb2.mono hb1.size)
  have b0 := cell_of_row w2 _ 0 _ _ _ hg2
  have b1 := cell_of_row w2 _ 1 _ _ _ hg2
  have b2 := cell_of_row w2 _ 2 _ _ _ hg2
  have b3 := cell_of_row w2 _ 3 _ _ _ hg2
  have b4 := cell_of_row w2 _ 4 _ _ _ hg2
  have b5 := cell_of_row w2 _ 5 _ _ _ hg2
  simp at b0 b1 b2 b3 b4 b5
  have f0 := frozen_of_row hg2 0
  have f1 := frozen_of_row hg2 1
  have f2 := frozen_of_row hg2 2
  have f3 := frozen_of_row hg2 3
  have f4 := frozen_of_row hg2 4
  have f5 := frozen_of_row hg2 5
  have hz2 := (Array.getElem?_eq_some_iff.1 hg2).1
  clear hg hb1 hb2 hz hg2
  go_wp2_with fail
  have d0 : ((((((w2.setCell ⟨w.heap.size, 0, none⟩ (.int .i64 0)).setCell ⟨w.heap.size, 1, none⟩ (.int .i64 0)).setCell ⟨w.heap.size, 2, none⟩ (.int .i64 0)).setCell ⟨w.heap.size, 3, none⟩ (.int .i64 0)).setCell ⟨w.heap.size, 4, none⟩ (.int .i64 0)).setCell ⟨w.heap.size, 5, none⟩ (.slice none 0 0)).cell? ⟨w.heap.size, 0, none⟩ = some (.int .i64 0) := by go_simp
  have d1 : ((((((w2.setCell ⟨w.heap.size, 0, none⟩ (.int .i64 0)).setCell ⟨w.heap.size, 1, none⟩ (.int .i64 0)).setCell ⟨w.heap.size, 2, none⟩ (.int .i64 0)).setCell ⟨w.heap.size, 3, none⟩ (.int .i64 0)).setCell ⟨w.heap.size, 4, none⟩ (.int .i64 0)).setCell ⟨w.heap.size, 5, none⟩ (.slice none 0 0)).cell? ⟨w.heap.size, 1, none⟩ = some (.int .i64 0) := by go_simp
  have d2 : ((((((w2.setCell ⟨w.heap.size, 0, none⟩ (.int .i64 0)).setCell ⟨w.heap.size, 1, none⟩ (.int .i64 0)).setCell ⟨w.heap.size, 2, none⟩ (.int .i64 0)).setCell ⟨w.heap.size, 3, none⟩ (.int .i64 0)).setCell ⟨w.heap.size, 4, none⟩ (.int .i64 0)).setCell ⟨w.heap.size, 5, none⟩ (.slice none 0 0)).cell? ⟨w.heap.size, 2, none⟩ = some (.int .i64 0) := by go_simp
  have d3 : ((((((w2.setCell ⟨w.heap.size, 0, none⟩ (.int .i64 0)).setCell ⟨w.heap.size, 1, none⟩ (.int .i64 0)).setCell ⟨w.heap.size, 2, none⟩ (.int .i64 0)).setCell ⟨w.heap.size, 3, none⟩ (.int .i64 0)).setCell ⟨w.heap.size, 4, none⟩ (.int .i64 0)).setCell ⟨w.heap.size, 5, none⟩ (.slice none 0 0)).cell? ⟨w.heap.size, 3, none⟩ = some (.int .i64 0) := by go_simp
  have d4 : ((((((w2.setCell ⟨w.heap.size, 0, none⟩ (.int .i64 0)).setCell ⟨w.heap.size, 1, none⟩ (.int .i64 0)).setCell ⟨w.heap.size, 2, none⟩ (.int .i64 0)).setCell ⟨w.heap.size, 3, none⟩ (.int .i64 0)).setCell ⟨w.heap.size, 4, none⟩ (.int .i64 0)).setCell ⟨w.heap.size, 5, none⟩ (.slice none 0 0)).cell? ⟨w.heap.size, 4, none⟩ = some (.int .i64 0) := by go_simp
  have d5 : ((((((w2.setCell ⟨w.heap.size, 0, none⟩ (.int .i64 0)).setCell ⟨w.heap.size, 1, none⟩ (.int .i64 0)).setCell ⟨w.heap.size, 2, none⟩ (.int .i64 0)).setCell ⟨w.heap.size, 3, none⟩ (.int .i64 0)).setCell ⟨w.heap.size, 4, none⟩ (.int .i64 0)).setCell ⟨w.heap.size, 5, none⟩ (.slice none 0 0)).cell? ⟨w.heap.size, 5, none⟩ = some (.slice none 0 0) := by go_simp
  have hB : Below w.heap.size w ((((((w2.setCell ⟨w.heap.size, 0, none⟩ (.int .i64 0)).setCell ⟨w.heap.size, 1, none⟩ (.int .i64 0)).setCell ⟨w.heap.size, 2, none⟩ (.int .i64 0)).setCell ⟨w.heap.size, 3, none⟩ (.int .i64 0)).setCell ⟨w.heap.size, 4, none⟩ (.int .i64 0)).setCell ⟨w.heap.size, 5, none⟩ (.slice none 0 0)) := (((((hbw.setCell (p := ⟨w.heap.size, 0, none⟩) (Nat.le_refl _) _).setCell (p := ⟨w.heap.size, 1, none⟩) (Nat.le_refl _) _).setCell (p := ⟨w.heap.size, 2, none⟩) (Nat.le_refl _) _).setCell (p := ⟨w.heap.size, 3, none⟩) (Nat.le_refl _) _).setCell (p := ⟨w.heap.size, 4, none⟩) (Nat.le_refl _) _).setCell (p := ⟨w.heap.size, 5, none⟩) (Nat.le_refl _) _
  generalize ((((((w2.setCell ⟨w.heap.size, 0, none⟩ (.int .i64 0)).setCell ⟨w.heap.size, 1, none⟩ (.int .i64 0)).setCell ⟨w.heap.size, 2, none⟩ (.int .i64 0)).setCell ⟨w.heap.size, 3, none⟩ (.int .i64 0)).setCell ⟨w.heap.size, 4, none⟩ (.int .i64 0)).setCell ⟨w.heap.size, 5, none⟩ (.slice none 0 0)) = W at *
  clear b0 b1 b2 b3 b4 b5 f0 f1 f2 f3 f4 f5 hz2 hbw h
  exact bodyPost_ret (v := .tuple #[.agg #[.int .i64 0, .int .i64 0, .int .i64 0, .int .i64 0, .int .i64 0, .slice none 0 0], .int .i64 4]) (by simp [results, Try.results27, go_sem, d0, d1, d2, d3, d4, d5]) rfl ⟨rfl, hB⟩
end Go.Proofs.Ytagfdgdoboncfaa
