/- (*Store).Fuse. -/
import Derived.Test.YtnokhjhhadnckaaShowPut
set_option linter.unusedSimpArgs false
set_option linter.unusedVariables false
set_option linter.unusedSectionVars false
namespace Go.Proofs.Ytnokhjhhadnckaa
open Go.RowKit
def fuseS (S : Str) (n : Int) (keep : List Int) (torn : Int) : Str :=
  if 0 ≤ n then { S with armed := true, fuse := n, keep := keep, torn := torn } else { S with armed := false, fuse := 0, keep := [], torn := 0 }
section
variable {W w : World} {I : Hp} {l : List HP} {p : Nat} {S : Str}
set_option maxRecDepth 4000
set_option maxHeartbeats 4000000
theorem ints_src (h : St W I w l) {v : Value} {q : List Int} (hb : IntsI I v q) : SliceSrc w 1 v q.length (q.map intV) := RowI.src hb h.imm (ints_one q) (by omega)
theorem ints_nil (I : Hp) : IntsI I (.slice none 0 0) [] := ⟨none, 0, rfl, rfl, Nat.le_refl _, by unfold maxLen; omega, fun _ => rfl, fun h => absurd h (by simp)⟩
theorem fuse_spec {B : SB} (n : Int) (kv : Value) (keep : List Int) (torn : Int) (h : St W I w (storeBlk p S B :: l)) (hk : IntsI I kv keep) (hn : keep.length ≤ 1000000) :
    Calls Try.prog 33 #[.pointer (some ⟨p, 0, none⟩), .int .i64 n, kv, .int .i64 torn] w fun e w' => e = .returned (.tuple #[]) ∧ ∃ vk I', I.sub I' ∧ IntsI I' vk (fuseS S n keep torn).keep ∧ St W I' w' (storeBlk p (fuseS S n keep torn) { B with vk := vk } :: l) := by
  have f9 := frozen_of_row h.heap 9
  have f10 := frozen_of_row h.heap 10
  have f11 := frozen_of_row h.heap 11
  have f12 := frozen_of_row h.heap 12
  have c9 := h.blk 9
  have c10 := h.blk 10
  have c11 := h.blk 11
  have c12 := h.blk 12
  simp [storeCells] at c9 c10 c11 c12
  have h2 : St W I ((((w.setCell ⟨p, 9, none⟩ (.bool false)).setCell ⟨p, 10, none⟩ (.int .i64 0)).setCell ⟨p, 12, none⟩ (.slice none 0 0)).setCell ⟨p, 11, none⟩ (.int .i64 0)) (storeBlk p { S with armed := false, fuse := 0, keep := [], torn := 0 } { B with vk := .slice none 0 0 } :: l) := (((h.setCell 9 (.bool false)).setCell 10 (.int .i64 0)).setCell 12 (.slice none 0 0)).setCell 11 (.int .i64 0)
  have H := Lib.hid h2
  have HK := Lib.hid (ints_src h2 hk)
  have HKI := Lib.hid hk
  obtain ⟨A, c, rfl, _⟩ := hk
  clear h h2
  by_cases h0 : 0 ≤ n
  · go_enter Try.func33, Try.ntmps33
    go_wp2_with fail
    generalize (((w.setCell ⟨p, 9, none⟩ (.bool false)).setCell ⟨p, 10, none⟩ (.int .i64 0)).setCell ⟨p, 12, none⟩ (.slice none 0 0)).setCell ⟨p, 11, none⟩ (.int .i64 0) = w2 at *
    refine (cloneI_spec _ _ _ _ HK.out hn).mono ?_
    rintro e w4 ⟨v4, rfl, ho4, hb4⟩
    obtain ⟨A4, k4, rfl⟩ := is_slice ho4
    obtain ⟨I', h1, h3, h4⟩ := (H.out.row_fresh hb4 ho4).freeze_row
    have f9' := frozen_of_row h4.heap 9
    have f10' := frozen_of_row h4.heap 10
    have f11' := frozen_of_row h4.heap 11
    have f12' := frozen_of_row h4.heap 12
    have c9' := h4.blk 9
    have c10' := h4.blk 10
    have c11' := h4.blk 11
    have c12' := h4.blk 12
    simp [storeCells] at c9' c10' c11' c12'
    have h5 := (((h4.setCell 9 (.bool true)).setCell 10 (.int .i64 n)).setCell 12 (.slice A4 keep.length k4)).setCell 11 (.int .i64 torn)
    have H5 := Lib.hid h5
    have HI := Lib.hid h1
    have HR := Lib.hid h3
    clear h5 h4 h3 h1 ho4 hb4 c9 c10 c11 c12 f9 f10 f11 f12
    go_wp2_with fail
    go_end0
    refine ⟨rfl, .slice A4 keep.length k4, I', HI.out, ?_, ?_⟩
    · rw [show (fuseS S n keep torn).keep = keep by simp [fuseS, h0]]
      exact HR.out
    · rw [show fuseS S n keep torn = { S with armed := true, fuse := n, keep := keep, torn := torn } by simp [fuseS, h0]]
      exact H5.out
  · go_enter Try.func33, Try.ntmps33
    go_wp2_with fail
    go_end0
    refine ⟨rfl, .slice none 0 0, I, Hp.sub.refl _, ?_, ?_⟩
    · rw [show (fuseS S n keep torn).keep = [] by unfold fuseS; rw [if_neg (by omega)]]
      exact ints_nil I
    · rw [show fuseS S n keep torn = { S with armed := false, fuse := 0, keep := [], torn := 0 } by unfold fuseS; rw [if_neg (by omega)]]
      exact H.out
end
end Go.Proofs.Ytnokhjhhadnckaa
