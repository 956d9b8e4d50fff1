/- A round of RoleSaves as plain data. No program in sight. -/
import Derived.Test.YtnokhjhhadnckaaArgs21
set_option linter.unusedSimpArgs false
set_option linter.unusedVariables false
set_option linter.unusedSectionVars false
namespace Go.Proofs.Ytnokhjhhadnckaa
open Go.RowKit
structure NtC (S : Str) (o : Option Nt) (m : Nat) : Prop where
  j : NtJ S o
  on : S.on = true
  arm : S.armed = false
  keeps : Keeps S m
theorem NtC.new (m : Nat) (h : m ≤ 100000) : NtC (newS 65536) none m := ⟨NtJ.new, rfl, rfl, (keeps_new 65536).fewer h⟩
theorem NtC.less {S : Str} {o : Option Nt} {m n : Nat} (h : NtC S o m) (hn : n ≤ m) : NtC S o n := ⟨h.j, h.on, h.arm, h.keeps.fewer hn⟩
theorem saveS_keeps {S : Str} {q : Nt} {m : Nat} (h : Keeps S (m + 4)) : Keeps (saveS S q).2 m := by
  unfold saveS
  split
  · exact h.fewer (by omega)
  · split
    · exact h.fewer (by omega)
    · exact keepS_keeps h
theorem NtC.back {S : Str} {o : Option Nt} {m : Nat} (h : NtJ S o) (hk : Keeps S m) : NtC (fuseS (powerS S) (-1) [] 0) o m :=
  ⟨h.power.fuse (-1) [] 0, by rw [fuse_on]; rfl, fuse_off, fuseS_keeps (powerS_keeps hk) (by simp) (by decide)⟩
/-- A fuse is set, a note is saved. -/
theorem save_step {S : Str} {o : Option Nt} {m : Nat} (h : NtC S o (m + 4)) (n : Int) (keep : List Int) (torn : Int) (hk : keep.length ≤ 1000000) (hn : n ≤ 9223372036854775807) (q : Nt) (hb : ∀ x ∈ q.info, isByte x) :
    ∃ e S', saveS (fuseS S n keep torn) q = (e, S') ∧ NtJ (fuseS S n keep torn) o ∧ Keeps (fuseS S n keep torn) (m + 4) ∧ Keeps S' m ∧
      ((S'.on = true ∧ q.okB = false ∧ e = 1 ∧ NtJ S' o) ∨ (S'.on = true ∧ q.okB = true ∧ e = 0 ∧ NtJ S' (some q)) ∨ (S'.on = false ∧ q.okB = true ∧ e = 7 ∧ ∃ o', NtJ S' o' ∧ (o' = o ∨ o' = some q))) := by
  have hj := h.j.fuse n keep torn
  have hkp := fuseS_keeps (n := n) (torn := torn) h.keeps hk hn
  have hon : (fuseS S n keep torn).on = true := by rw [fuse_on]; exact h.on
  have hk2 : Keeps (saveS (fuseS S n keep torn) q).2 m := saveS_keeps hkp
  refine ⟨(saveS (fuseS S n keep torn) q).1, (saveS (fuseS S n keep torn) q).2, rfl, hj, hkp, hk2, ?_⟩
  cases hq : q.okB with
  | false =>
    have e : saveS (fuseS S n keep torn) q = (1, fuseS S n keep torn) := by simp [saveS, hon, hq]
    rw [e]
    exact .inl ⟨hon, rfl, rfl, hj⟩
  | true =>
    have e : saveS (fuseS S n keep torn) q = keepS (fuseS S n keep torn) kN nmN (noteBytes q) := by simp [saveS, hon, hq]
    rw [e]
    rcases (hj.keep hon hq hb).2 with ⟨h1, h2, h3, _⟩ | ⟨_, h1, h2, _, o', h4, h5⟩
    · exact .inr (.inl ⟨h2, rfl, h1, h3⟩)
    · exact .inr (.inr ⟨h2, rfl, h1, o', h4, h5⟩)
/-- The note that the law holds for the one that was saved last. -/
def Held (o : Option Nt) (q : Nt) : Prop := match o with
  | none => True
  | some m => sameN m q = true
section
variable {W w : World} {I : Hp} {l : List HP} {p : Nat} {S : Str}
/-- A note in a block of its own, its bytes never written again. -/
def ntHP (g : Nat) (q : Nt) (v : Value) : HP := HP.pt g (.cells #[.int .i64 q.ph, .int .i64 q.bo, .int .i64 q.no, .int .i64 q.st, .int .i64 q.nu, v] 74)
theorem St.nt_cells {g : Nat} {q : Nt} {v : Value} (h : St W I w (ntHP g q v :: l)) : w.cell? ⟨g, 0, none⟩ = some (.int .i64 q.ph) ∧ w.cell? ⟨g, 1, none⟩ = some (.int .i64 q.bo) ∧ w.cell? ⟨g, 2, none⟩ = some (.int .i64 q.no) ∧ w.cell? ⟨g, 3, none⟩ = some (.int .i64 q.st) ∧ w.cell? ⟨g, 4, none⟩ = some (.int .i64 q.nu) ∧ w.cell? ⟨g, 5, none⟩ = some v := by
  have y := cells_of h.heap
  have y0 := y 0
  have y1 := y 1
  have y2 := y 2
  have y3 := y 3
  have y4 := y 4
  have y5 := y 5
  simp at y0 y1 y2 y3 y4 y5
  exact ⟨y0, y1, y2, y3, y4, y5⟩
end
end Go.Proofs.Ytnokhjhhadnckaa
