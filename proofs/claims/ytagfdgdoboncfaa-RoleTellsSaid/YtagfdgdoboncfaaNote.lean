import Derived.Test.YtagfdgdoboncfaaWords
namespace Go.Proofs.Ytagfdgdoboncfaa
open Go.RowKit
def noteB (ph bo no st nu : Int) (n : Nat) : Bool :=
  decide (1 ≤ ph ∧ ph ≤ 5 ∧ 0 ≤ bo ∧ bo < 1048576 ∧ 0 ≤ no ∧ no ≤ 1099511627776 ∧ 0 ≤ st ∧ st ≤ 17 ∧ 0 ≤ nu ∧ nu ≤ 512 ∧ n ≤ 1500)
theorem noteB_of {b : Bool} {ph bo no st nu : Int} {n : Nat} (h : b = true ↔ (1 ≤ ph ∧ ph ≤ 5 ∧ 0 ≤ bo ∧ bo < 1048576 ∧ 0 ≤ no ∧ no ≤ 1099511627776 ∧ 0 ≤ st ∧ st ≤ 17 ∧ 0 ≤ nu ∧ nu ≤ 512 ∧ n ≤ 1500)) : b = noteB ph bo no st nu n := by
  rw [noteB, Bool.eq_iff_iff, h, decide_eq_true_eq]
set_option maxHeartbeats 2000000 in
theorem noteRight_any (ph bo no st nu : Int) (A : Option Addr) (n c : Nat) (w : World) (hn : n ≤ 9223372036854775807) :
    Calls Try.prog 12 #[.agg #[.int .i64 ph, .int .i64 bo, .int .i64 no, .int .i64 st, .int .i64 nu, .slice A n c]] w fun e w' => e = .returned (.bool (noteB ph bo no st nu n)) ∧ Below w.heap.size w w' := by
  go_enter Try.func12, Try.ntmps12
  go_wp2
  all_goals
    go_ret
    refine ⟨ret_bool (noteB_of ?_), (Below.refl _ _).alloc (Nat.le_refl _) _⟩
    simp only [decide_eq_true_eq, Bool.false_eq_true, false_iff]
    omega
set_option maxHeartbeats 2000000 in
theorem refNoteRight_any (ph bo no st nu : Int) (A : Option Addr) (n c : Nat) (w : World) (hn : n ≤ 9223372036854775807) :
    Calls Try.prog 13 #[.agg #[.int .i64 ph, .int .i64 bo, .int .i64 no, .int .i64 st, .int .i64 nu, .slice A n c]] w fun e w' => e = .returned (.bool (noteB ph bo no st nu n)) ∧ Below w.heap.size w w' := by
  go_enter Try.func13, Try.ntmps13
  go_wp2
  all_goals
    go_ret
    refine ⟨ret_bool (noteB_of ?_), (Below.refl _ _).alloc (Nat.le_refl _) _⟩
    simp only [decide_eq_true_eq, Bool.false_eq_true, false_iff]
    omega
def mayN (ph : Int) : Int := if ph = 1 then 0 else if ph = 2 then 10 else if ph = 4 then 12 else 9
set_option maxHeartbeats 400000 in
theorem may_any (ph : Int) (w : World) : Calls Try.prog 16 #[.int .i64 ph] w fun e w' => e = .returned (.int .i64 (mayN ph)) ∧ w = w' := by
  go_enter Try.func16, Try.ntmps16
  go_wp2
  all_goals
    go_ret
    refine ⟨ret_int ?_, rfl⟩
    unfold mayN
    simp_all
set_option maxHeartbeats 400000 in
theorem refMay_any (ph : Int) (w : World) : Calls Try.prog 17 #[.int .i64 ph] w fun e w' => e = .returned (.int .i64 (mayN ph)) ∧ w = w' := by
  go_enter Try.func17, Try.ntmps17
  go_wp2
  all_goals
    go_ret
    refine ⟨ret_int ?_, rfl⟩
    unfold mayN
    simp_all
end Go.Proofs.Ytagfdgdoboncfaa
