/- Which key comes first. -/
import Derived.Test.YtnokhjhhadnckaaClones
import Derived.StillTailTactics
set_option linter.unusedSimpArgs false
set_option linter.unusedVariables false
set_option linter.unusedSectionVars false
namespace Go.Proofs.Ytnokhjhhadnckaa
open Go.RowKit
def cmpI (a b : Int) : Int := if a < b then -1 else if b < a then 1 else 0
def orI : List Int → Int
  | [] => 0
  | x :: l => if x ≠ 0 then x else orI l
def cmpK (a b : K4) : Int := orI [cmpI a.kind b.kind, cmpI a.img b.img, cmpI a.num b.num, cmpI a.snap b.snap]
theorem nan_any (a : Int) (w : World) : Calls Try.prog 116 #[.int .i64 a] w fun e w' => e = .returned (.bool false) ∧ w = w' := by
  go_enter Try.func116, Try.ntmps116
  go_wp2
  go_ret
  exact ⟨by simp, rfl⟩
set_option maxHeartbeats 1000000 in
theorem compare_any (a b : Int) (w : World) : Calls Try.prog 95 #[.int .i64 a, .int .i64 b] w fun e w' => e = .returned (.int .i64 (cmpI a b)) ∧ w = w' := by
  unfold cmpI
  by_cases h1 : a < b
  · rw [if_pos h1]
    go_enter Try.func95, Try.ntmps95
    go_wp2_with fail
    refine (nan_any a _).mono ?_
    rintro e w1 ⟨rfl, rfl⟩
    go_wp2_with fail
    refine (nan_any b _).mono ?_
    rintro e w1 ⟨rfl, rfl⟩
    go_wp2
    go_ret
    exact ⟨rfl, rfl⟩
  · rw [if_neg h1]
    by_cases h2 : b < a
    all_goals
      first | rw [if_pos h2] | rw [if_neg h2] | fail
      go_enter Try.func95, Try.ntmps95
      go_wp2_with fail
      refine (nan_any a _).mono ?_
      rintro e w1 ⟨rfl, rfl⟩
      go_wp2_with fail
      refine (nan_any b _).mono ?_
      rintro e w1 ⟨rfl, rfl⟩
      go_wp2
      go_ret
      exact ⟨rfl, rfl⟩
set_option maxHeartbeats 1000000 in
theorem or_any (g : Nat) (x : Nat → Int) (w : World) (hc : ∀ k, k < 4 → w.cell? ⟨g, k, none⟩ = some (.int .i64 (x k))) :
    Calls Try.prog 94 #[.slice (some ⟨g, 0, none⟩) 4 4] w fun e w' => e = .returned (.int .i64 (orI [x 0, x 1, x 2, x 3])) ∧ w = w' := by
  go_enter Try.func94, Try.ntmps94
  go_wp2_with fail
  go_loopw [8] (fun v8 wr => ∃ k : Nat, k ≤ 4 ∧ v8 = .int .i64 k ∧ (∀ j, j < k → x j = 0) ∧ wr = w) (fun v8 _ => 4 - (intOf v8).toNat)
  case atStart => exact ⟨0, by omega, rfl, fun j h => absurd h (by omega), rfl⟩
  case round =>
    obtain ⟨k, hk, rfl, hz, rfl⟩ := hrel
    have HZ := Lib.hid hz
    by_cases hlt : k < 4
    · have ck := hc k hlt
      have HC := Lib.hid hc
      clear hz hc
      by_cases hx : x k = 0
      · have hxe : (x k != 0) = false := by simpa using hx
        have HX := Lib.hid hx
        clear hx
        go_wp2_with fail
        go_roundw
        case rel => exact ⟨k + 1, by omega, by go_num, fun j hj => by
          rcases Nat.lt_or_ge j k with h | h
          · exact HZ.out j h
          · rw [show j = k by omega]; exact HX.out, by trivial⟩
        case measure => simp [intOf]; omega
      · have hxe : (x k != 0) = true := by simpa using hx
        have HX := Lib.hid hx
        clear hx
        go_wp2_with fail
        go_ret
        refine ⟨ret_int ?_, rfl⟩
        have hz := HZ.out
        have hx := HX.out
        match k, hlt, hz, hx with
        | 0, _, hz, hx => simp [orI, hx]
        | 1, _, hz, hx => simp [orI, hx, hz 0 (by omega)]
        | 2, _, hz, hx => simp [orI, hx, hz 0 (by omega), hz 1 (by omega)]
        | 3, _, hz, hx => simp [orI, hx, hz 0 (by omega), hz 1 (by omega), hz 2 (by omega)]
    · clear hc
      obtain rfl : k = 4 := by omega
      clear hz
      go_wp2_with fail
      go_ret
      have hz := HZ.out
      exact ⟨ret_int (by simp [orI, hz 0 (by omega), hz 1 (by omega), hz 2 (by omega), hz 3 (by omega)]), rfl⟩
theorem compare_quiet (a b : Int) (w : World) : Calls Try.prog 95 #[.int .i64 a, .int .i64 b] w fun e w' => e = .returned (.int .i64 (cmpI a b)) ∧ w' = w :=
  (compare_any a b w).mono fun e w' h => ⟨h.1, h.2.symm⟩
set_option maxRecDepth 4000 in
set_option maxHeartbeats 2000000 in
theorem order_any (a b : K4) (w : World) : Calls Try.prog 57 #[a.val, b.val] w fun e w' => e = .returned (.int .i64 (cmpK a b)) ∧ Below w.heap.size w w' := by
  obtain ⟨a0, a1, a2, a3⟩ := a
  obtain ⟨b0, b1, b2, b3⟩ := b
  unfold K4.val
  go_enter Try.func57, Try.ntmps57
  go_wp2_with fail
  obtain ⟨X, hX⟩ : ∃ X : Obj, X = .cells #[.int .i64 a0, .int .i64 a1, .int .i64 a2, .int .i64 a3] 27 := ⟨_, rfl⟩
  obtain ⟨Y, hY⟩ : ∃ Y : Obj, Y = .cells #[.int .i64 b0, .int .i64 b1, .int .i64 b2, .int .i64 b3] 27 := ⟨_, rfl⟩
  rw [← hX, ← hY]
  have hx : ((w.alloc X).alloc Y).heap[w.heap.size]? = some X := (Below.heap_alloc _ _ _ (by simp)).trans (heap_alloc_new _ _)
  have hy : ((w.alloc X).alloc Y).heap[w.heap.size + 1]? = some Y := by
    have := heap_alloc_new (w.alloc X) Y
    simpa using this
  have hb : Below w.heap.size w ((w.alloc X).alloc Y) := (below_alloc _ _).alloc (by simp) _
  generalize (w.alloc X).alloc Y = w2 at *
  subst hX
  subst hY
  have x0 := cells_of hx 0
  have x1 := cells_of hx 1
  have x2 := cells_of hx 2
  have x3 := cells_of hx 3
  have y0 := cells_of hy 0
  have y1 := cells_of hy 1
  have y2 := cells_of hy 2
  have y3 := cells_of hy 3
  simp at x0 x1 x2 x3 y0 y1 y2 y3
  have HB := Lib.hid hb
  clear hx hy hb
  go_still_tail 20, (by kernel_rfl)
  still_call (compare_quiet _ _ _)
  repeat still_step
  still_call (compare_quiet _ _ _)
  repeat still_step
  still_call (compare_quiet _ _ _)
  repeat still_step
  still_call (compare_quiet _ _ _)
  refine wpStill_nil ?_
  change wpList _ _ _ _ _ w2.drew
  have HB2 := Lib.hid (HB.out.drew)
  clear x0 x1 x2 x3 y0 y1 y2 y3 HB
  generalize w2.drew = w3 at *
  go_wp2_with fail
  refine (or_any w3.heap.size (fun k => match k with | 0 => cmpI a0 b0 | 1 => cmpI a1 b1 | 2 => cmpI a2 b2 | _ => cmpI a3 b3) _ ?_).mono ?_
  · intro k hk
    match k, hk with
    | 0, _ => exact cells_of (heap_alloc_new w3 _) 0
    | 1, _ => exact cells_of (heap_alloc_new w3 _) 1
    | 2, _ => exact cells_of (heap_alloc_new w3 _) 2
    | 3, _ => exact cells_of (heap_alloc_new w3 _) 3
  · rintro e w4 ⟨rfl, rfl⟩
    go_wp2_with fail
    go_ret
    exact ⟨rfl, HB2.out.alloc (HB2.out.size) _⟩
end Go.Proofs.Ytnokhjhhadnckaa
