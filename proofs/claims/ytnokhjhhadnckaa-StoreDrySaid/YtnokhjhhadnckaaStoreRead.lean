/- The store's functions that only read: Right, may, there. -/
import Derived.Test.YtnokhjhhadnckaaStoreMem
import Derived.Test.YtnokhjhhadnckaaBits
import Derived.Test.YtnokhjhhadnckaaAppend
import Derived.WalkLawsBesides
import Derived.Deep.RegionWith
import Derived.Deep.RegionHeld3
import Derived.BigQuiet
set_option linter.unusedSimpArgs false
set_option linter.unusedVariables false
set_option linter.unusedSectionVars false
namespace Go.Proofs.Ytnokhjhhadnckaa
open Go.RowKit
theorem ret_bool {a b : Bool} (h : a = b) : Ending.returned (.bool a) = .returned (.bool b) := by rw [h]
theorem ret_int {k : IntKind} {a b : Int} (h : a = b) : Ending.returned (.int k a) = .returned (.int k b) := by rw [h]
theorem below_alloc (w : World) (o : Obj) : Below w.heap.size w (w.alloc o) := (Below.refl _ _).alloc (Nat.le_refl _) _
theorem block_behind {w w1 : World} {o : Obj} (hb : Below (w.alloc o).heap.size (w.alloc o) w1) : w1.heap[w.heap.size]? = some o := (hb.block _ (by simp)).trans (heap_alloc_new _ _)
theorem frozen_of_row {w : World} {g : Nat} {cs : Array Value} {t : TypeId} (h : w.heap[g]? = some (.cells cs t (0, 0))) (i : Nat) : w.frozen? ⟨g, i, none⟩ = false := by simp [World.frozen?, h]
/-- A struct's cells, one by one. -/
theorem cells_of {w : World} {g : Nat} {cs : Array Value} {t : TypeId} {f : Nat × Nat} (h : w.heap[g]? = some (.cells cs t f)) (i : Nat) : w.cell? ⟨g, i, none⟩ = cs[i]? := by simp [World.cell?, h]
section
variable {W w : World} {I : Hp} {l : List HP} {p : Nat} {S : Str} {B : SB}
theorem ok_of {k : K4} {b : Bool} (h : b = true ↔ (1 ≤ k.kind ∧ k.kind ≤ 255 ∧ 0 ≤ k.img ∧ k.img ≤ 255 ∧ 0 ≤ k.num ∧ k.num ≤ 1073741824 ∧ 0 ≤ k.snap ∧ k.snap ≤ 1073741824)) : b = k.ok := by
  rw [Bool.eq_iff_iff, h, K4.ok, decide_eq_true_eq]
set_option maxHeartbeats 1000000 in
theorem right_spec (k : K4) (w : World) : Calls Try.prog 111 #[k.val] w fun e w' => e = .returned (.bool k.ok) ∧ Below w.heap.size w w' := by
  obtain ⟨a, b, c, d⟩ := k
  unfold K4.val
  go_enter Try.func111, Try.ntmps111
  go_wp2
  all_goals
    go_ret
    refine ⟨ret_bool (ok_of ?_), below_alloc _ _⟩
    simp only [decide_eq_true_eq, Bool.false_eq_true, false_iff]
    omega
def mayS (S : Str) (k : K4) : Int := if S.on = false then 7 else if k.ok = false then 1 else 0
theorem St.blk (h : St W I w (storeBlk p S B :: l)) (i : Nat) : w.cell? ⟨p, i, none⟩ = (storeCells S B)[i]? := cells_of h.heap i
set_option maxHeartbeats 1000000 in
theorem may_spec (k : K4) (h : St W I w (storeBlk p S B :: l)) : Calls Try.prog 89 #[.pointer (some ⟨p, 0, none⟩), k.val] w fun e w' => e = .returned (.int .i64 (mayS S k)) ∧ Below w.heap.size w w' := by
  have hp := h.lt
  have c4 : w.cell? ⟨p, 4, none⟩ = some (.bool S.on) := h.blk 4
  clear h
  obtain ⟨a, b, c, d⟩ := k
  unfold mayS
  cases hon : S.on
  · rw [hon] at c4
    unfold K4.val
    go_enter Try.func89, Try.ntmps89
    go_wp2
    go_ret
    exact ⟨rfl, below_alloc _ _⟩
  · rw [hon] at c4
    unfold K4.val
    go_enter Try.func89, Try.ntmps89
    go_wp2_with fail
    refine (right_spec ⟨a, b, c, d⟩ _).mono ?_
    rintro e w1 ⟨rfl, hb⟩
    have hbw : Below w.heap.size w w1 := (below_alloc _ _).trans (hb.mono (by simp))
    clear hb
    cases hok : K4.ok ⟨a, b, c, d⟩
    all_goals
      go_wp2
      go_ret
      exact ⟨rfl, hbw⟩
set_option maxHeartbeats 1000000 in
theorem there_spec (k : K4) (h : St W I w (storeBlk p S B :: seenHP B S :: l)) :
    Calls Try.prog 51 #[.pointer (some ⟨p, 0, none⟩), k.val] w fun e w' => Below w.heap.size w w' ∧
      ((mayS S k ≠ 0 ∧ e = .returned (.tuple #[.pointer none, .int .i64 (mayS S k)])) ∨ (mayS S k = 0 ∧ get k S.seen = none ∧ e = .returned (.tuple #[.pointer none, .int .i64 4])) ∨
       ∃ v t, mayS S k = 0 ∧ get k S.seen = some t ∧ e = .returned (.tuple #[v, .int .i64 0]) ∧ St W I w (thingHP v t :: HP.hole keyKT thingHP B.m1 k v (del k S.seen) :: storeBlk p S B :: l)) := by
  have H := Lib.hid h
  have hp := h.lt
  have c5 : w.cell? ⟨p, 5, none⟩ = some (.map (some B.m1)) := h.blk 5
  have hl := St.mapOf_look (P := Try.prog) (T := keyKT) (h.pull 1 _ rfl) Try.underlying85 (z := .pointer none) (fun w => by kernel_rfl) k
  clear h
  obtain ⟨a, b, c, d⟩ := k
  unfold K4.val
  go_enter Try.func51, Try.ntmps51
  go_wp2_with fail
  refine (may_spec ⟨a, b, c, d⟩ (H.out.keep (below_alloc _ _))).mono ?_
  rintro e w1 ⟨rfl, hb⟩
  have hbw : Below w.heap.size w w1 := (below_alloc _ _).trans (hb.mono (by simp))
  have c5' := (hbw.cell (p := ⟨p, 5, none⟩) hp).trans c5
  have hg := block_behind hb
  have b0 := cells_of hg 0
  have b1 := cells_of hg 1
  have b2 := cells_of hg 2
  have b3 := cells_of hg 3
  simp at b0 b1 b2 b3
  clear hb hg c5
  by_cases hm : mayS S ⟨a, b, c, d⟩ = 0
  · have HM := Lib.hid hm
    rw [hm]
    rcases hl with ⟨hn, hl⟩ | ⟨v, x, hn, hl, hs⟩
    · have hl' := fun nq => hl (w1.drewN nq) (below_drewN hbw nq) true
      simp only [keyKT, K4.val, if_true] at hl'
      have HN := Lib.hid hn
      clear hl hn hm
      go_wp2_with fail
      go_quiet (fail)
      go_wp2
      go_ret2
      exact ⟨below_drewN hbw _, .inr (.inl ⟨HM.out, HN.out, rfl⟩)⟩
    · have hl' := fun nq => hl (w1.drewN nq) (below_drewN hbw nq) true
      simp only [keyKT, K4.val, if_true] at hl'
      have HN := Lib.hid hn
      have HS := Lib.hid hs
      clear hl hn hm hs
      go_wp2_with fail
      go_quiet (fail)
      go_wp2
      go_ret2
      exact ⟨below_drewN hbw _, .inr (.inr ⟨_, _, HM.out, HN.out, rfl, HS.out⟩)⟩
  · have hm2 : mayS S ⟨a, b, c, d⟩ ≠ 0 := hm
    have HM := Lib.hid hm
    clear hl
    have hd : (mayS S ⟨a, b, c, d⟩ != 0) = true := by simpa using hm
    clear hm
    go_wp2_with fail
    go_ret2
    exact ⟨hbw, .inl ⟨HM.out, rfl⟩⟩
end
end Go.Proofs.Ytnokhjhhadnckaa
