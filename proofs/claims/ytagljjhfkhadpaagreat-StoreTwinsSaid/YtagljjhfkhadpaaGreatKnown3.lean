/- hectographlaw3.known answers true. -/
import Derived.Test.YtagljjhfkhadpaaGreatStr3
set_option linter.unusedSimpArgs false
set_option linter.unusedVariables false
set_option linter.unusedSectionVars false
namespace Go.Proofs.YtagljjhfkhadpaaGreat
open Go.RowKit
def k3K : K4 := ⟨4, 0, 0, 0⟩
def k3a : Str := (makeS (newS 100) k3K).2
def k3b : Str := (writeS k3a k3K 0 [97, 98]).2
def k3c : Str := (barrierS k3b).2
def k3d : Str := (writeS k3c k3K 2 [99]).2
def k3e : Str := (fallS k3d [] 0).1
theorem k3a_eq : makeS (newS 100) k3K = (0, k3a) := by kernel_rfl
theorem k3b_eq : writeS k3a k3K 0 [97, 98] = (0, k3b) := by kernel_rfl
theorem k3c_eq : barrierS k3b = (0, k3c) := by kernel_rfl
theorem k3d_eq : writeS k3c k3K 2 [99] = (0, k3d) := by kernel_rfl
theorem k3e_eq : fallS k3d [] 0 = (k3e, 1) := by kernel_rfl
theorem k3e_on : k3e.on = false := by kernel_rfl
theorem k3_read : readS (powerS k3e) k3K 0 9 = ([97, 98], 0) := by kernel_rfl
theorem k3a_keeps : Keeps k3a 99990 := by
  have := makeS_keeps (k := k3K) ((keeps_new 100).fewer (show 99990 + 2 ≤ 100000 by omega))
  rwa [k3a_eq] at this
theorem k3b_keeps : Keeps k3b 99988 := by
  have := writeS_keeps (k := k3K) (off := 0) (p := [97, 98]) (k3a_keeps.fewer (show 99988 + 2 ≤ 99990 by omega))
  rwa [k3b_eq] at this
theorem k3c_keeps : Keeps k3c 99988 := by
  have := barrierS_keeps k3b_keeps
  rwa [k3c_eq] at this
theorem k3d_keeps : Keeps k3d 99986 := by
  have := writeS_keeps (k := k3K) (off := 2) (p := [99]) (k3c_keeps.fewer (show 99986 + 2 ≤ 99988 by omega))
  rwa [k3d_eq] at this
theorem k3e_keeps : Keeps k3e 99986 := by
  have := fallS_keeps (keep := []) (torn := 0) k3d_keeps
  rwa [k3e_eq] at this
section
set_option maxRecDepth 4000
set_option maxHeartbeats 4000000
theorem known3_spec (w : World) : Calls Tryz.prog 6 #[] w fun e w' => e = .returned (.bool true) ∧ Below w.heap.size w w' := by
  go_enter Tryz.func6, Tryz.ntmps6
  go_wp2_with fail
  refine (new_spec 100 (St.init w)).mono ?_
  rintro e w1 ⟨p, rfl, h1⟩
  have h2 := h1.alloc (.cells #[.int .i64 4, .int .i64 0, .int .i64 0, .int .i64 0] 30)
  have H2 := Lib.hid (h2.pull 1 _ rfl)
  clear h1 h2
  go_wp2_with fail
  have hc := make_spec k3K H2.out (keeps_new 100)
  rw [k3a_eq] at hc
  simp only [K4.val, k3K] at hc
  refine hc.mono ?_
  rintro e w2 ⟨I2, hs2, rfl, h2⟩
  have hxk := (h2.pull 1 _ rfl).heap
  have x0 := cells_of hxk 0
  have x1 := cells_of hxk 1
  have x2 := cells_of hxk 2
  have x3 := cells_of hxk 3
  simp at x0 x1 x2 x3
  have H3 := Lib.hid h2
  have HS2 := Lib.hid hs2
  clear h2 hc hs2 hxk H2
  have hcv := conv_lit
  go_wp2_with fail
  have h4 := H3.out.keep (below_alloc w2 (.cells #[.int .u8 97, .int .u8 98] 5 (2, 3)))
  have hc := write_spec k3K 0 _ [97, 98] h4 k3a_keeps (lit_src w2 #[.int .u8 97, .int .u8 98] [97, 98] 2 (2, 3) rfl rfl) (by decide)
  rw [k3b_eq] at hc
  simp only [K4.val, k3K] at hc
  refine hc.mono ?_
  clear hcv
  rintro e w3 ⟨I3, hs3, rfl, h5⟩
  have H5 := Lib.hid h5
  have HS3 := Lib.hid hs3
  clear h4 h5 hc hs3 x0 x1 x2 x3
  go_wp2_with fail
  refine (barrier_spec H5.out k3b_keeps).mono ?_
  rw [k3c_eq]
  rintro e w4 ⟨I4, hs4, rfl, h6⟩
  have hxk := (h6.pull 1 _ rfl).heap
  have x0 := cells_of hxk 0
  have x1 := cells_of hxk 1
  have x2 := cells_of hxk 2
  have x3 := cells_of hxk 3
  simp at x0 x1 x2 x3
  have H6 := Lib.hid h6
  have HS4 := Lib.hid hs4
  clear h6 hs4 hxk
  have hcv := conv_lit
  go_wp2_with fail
  have h7 := H6.out.keep (below_alloc w4 (.cells #[.int .u8 99] 5 (1, 2)))
  have hc := write_spec k3K 2 _ [99] h7 k3c_keeps (lit_src w4 #[.int .u8 99] [99] 1 (1, 2) rfl rfl) (by decide)
  rw [k3d_eq] at hc
  simp only [K4.val, k3K] at hc
  refine hc.mono ?_
  clear hcv
  rintro e w5 ⟨I5, hs5, rfl, h8⟩
  have H8 := Lib.hid h8
  have HS5 := Lib.hid hs5
  clear h7 h8 hc hs5 x0 x1 x2 x3
  go_wp2_with fail
  have hc := fall_spec (.slice none 0 0) [] 0 H8.out (ints_nil _) (by decide) (fun _ => k3d_keeps.inv.fewer (Nat.le_add_right _ _))
  rw [k3e_eq] at hc
  refine hc.mono ?_
  rintro e w6 ⟨I6, hs6, rfl, h9⟩
  have H9 := Lib.hid h9
  have HS6 := Lib.hid hs6
  clear h9 hs6 hc
  go_wp2_with fail
  refine (on_spec H9.out).mono ?_
  rw [k3e_on]
  rintro e w7 ⟨rfl, rfl⟩
  go_wp2_with fail
  refine (power_spec H9.out).mono ?_
  rw [k3e_on]
  rintro e w7 ⟨rfl, h10⟩
  have hxk := (h10.pull 1 _ rfl).heap
  have x0 := cells_of hxk 0
  have x1 := cells_of hxk 1
  have x2 := cells_of hxk 2
  have x3 := cells_of hxk 3
  simp at x0 x1 x2 x3
  have H10 := Lib.hid h10
  clear h10 hxk
  go_wp2_with fail
  have hc := read_spec k3K 0 9 H10.out (powerS_keeps k3e_keeps).inv
  rw [show readS { k3e with on := true } k3K 0 9 = ([97, 98], 0) from k3_read] at hc
  simp only [K4.val, k3K] at hc
  refine hc.mono ?_
  rintro e w8 ⟨hb8, v, rfl, ho8⟩
  have hst := src_string (SliceSrc.of_owns ho8 (bytes_one [97, 98]))
  obtain ⟨A8, c8, rfl⟩ := is_slice ho8
  have HB := Lib.hid (H10.out.below.trans (hb8.mono H10.out.below.size))
  rw [show strOfNums [97, 98] = ⟨#[97, 98]⟩ by rfl] at hst
  clear hc ho8 hb8 x0 x1 x2 x3
  change (convert _ _ (.slice A8 2 c8)).run _ _ = _ at hst
  go_wp2_with fail
  go_ret
  exact ⟨rfl, HB.out⟩
end
end Go.Proofs.YtagljjhfkhadpaaGreat
