/- How many bytes all objects have. No program in sight. -/
import Derived.Test.YtagljjhfkhadpaaGreatStoreOps
set_option linter.unusedSimpArgs false
set_option linter.unusedVariables false
set_option linter.unusedSectionVars false
namespace Go.Proofs.YtagljjhfkhadpaaGreat
open Go.RowKit
def sumS (L : List (K4 × TS)) : Int := (L.map fun x => x.2.size).sum
theorem ts_nonneg (t : TS) : 0 ≤ t.size := by
  unfold TS.size attrSize
  have : ∀ l : List (ByteArray × List Int), 0 ≤ (l.map fun x => (x.1.size : Int) + x.2.length).sum := fun l => by
    induction l with
    | nil => simp
    | cons a l ih => simp only [List.map_cons, List.sum_cons]; omega
  have := this t.attr
  omega
theorem sumS_nonneg : ∀ L : List (K4 × TS), 0 ≤ sumS L
  | [] => by simp [sumS]
  | x :: L => by
    have := sumS_nonneg L
    have h := ts_nonneg x.2
    have e : sumS (x :: L) = x.2.size + sumS L := by simp [sumS]
    omega
theorem sum_perm {l k : List Int} (h : l.Perm k) : l.sum = k.sum := by
  induction h with
  | nil => rfl
  | cons a _ ih => simp [ih]
  | swap a b l => simp only [List.sum_cons]; omega
  | trans _ _ i j => exact i.trans j
theorem sumS_split {L : List (K4 × TS)} (hn : (L.map (·.1)).Nodup) (k : K4) : sumS L = sizeO (get k L) + sumS (del k L) := by
  cases hg : get k L with
  | none => rw [del_of_none hg]; simp [sizeO]
  | some t =>
    have h := sum_perm ((perm_of_get hn hg).map fun x => x.2.size)
    unfold sumS
    rw [h]
    simp [sizeO]
end Go.Proofs.YtagljjhfkhadpaaGreat
