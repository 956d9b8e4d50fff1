/- The store's Fuse on a whole store. -/
import Derived.Test.YtagljjhfkhadpaaGreatStoreOps
set_option linter.unusedSimpArgs false
set_option linter.unusedVariables false
set_option linter.unusedSectionVars false
namespace Go.Proofs.YtagljjhfkhadpaaGreat
open Go.RowKit
section
variable {W w : World} {I : Hp} {l : List HP} {p : Nat} {S : Str}
set_option maxRecDepth 4000
set_option maxHeartbeats 8000000
theorem fuseC_spec (n : Int) (kv : Value) (keep : List Int) (torn : Int) (h : St W I w (storeHP p S :: l)) (hk : IntsI I kv keep) (hn : keep.length ≤ 1000000) :
    Calls Tryz.prog 38 #[.pointer (some ⟨p, 0, none⟩), .int .i64 n, kv, .int .i64 torn] w fun e w' => ∃ I', I.sub I' ∧ e = .returned (.tuple #[]) ∧ St W I' w' (storeHP p (fuseS S n keep torn) :: l) := by
  obtain ⟨B, h1⟩ := h.store_open
  have h2 := (h1.pull 5 _ rfl).drop
  refine (fuse_spec n kv keep torn h2 hk hn).mono ?_
  rintro e w' ⟨rfl, vk, I', hs, hv, h3⟩
  refine ⟨I', hs, rfl, St.store_shut (B := { B with vk := vk }) ?_⟩
  have e1 : seenHP B S = seenHP { B with vk := vk } (fuseS S n keep torn) := by unfold seenHP fuseS; split <;> rfl
  have e2 : dryHP B S = dryHP { B with vk := vk } (fuseS S n keep torn) := by unfold dryHP fuseS; split <;> rfl
  have e3 : lateHP B S = lateHP { B with vk := vk } (fuseS S n keep torn) := by unfold lateHP fuseS; split <;> rfl
  have e4 : keyHP B S = keyHP { B with vk := vk } (fuseS S n keep torn) := by unfold keyHP fuseS; split <;> rfl
  rw [← e1, ← e2, ← e3, ← e4]
  exact (St.imm_shut (A := intsIP vk (fuseS S n keep torn).keep) hv h3).perm (by ((try simp only [List.eraseIdx_cons_succ, List.eraseIdx_cons_zero, List.cons_append, List.nil_append]); repeat (first | with_reducible exact List.Perm.refl _ | (apply perm_step; (· repeat (first | with_reducible exact find_here | with_reducible apply find_there))))))
end
end Go.Proofs.YtagljjhfkhadpaaGreat
