/- LockOne: the walk. -/
import Derived.Test.YtnokhjhhadnckaaLockCalm
set_option linter.unusedSimpArgs false
set_option linter.unusedVariables false
set_option linter.unusedSectionVars false
namespace Go.Proofs.Ytnokhjhhadnckaa
open Go.RowKit
section
variable {own who : Int}
theorem th_take (h1 : 1 ≤ who) (h2 : who ≤ 1073741824) (h : own = 0 ∨ own = who) : theirsS own 0 who = (who, 0) := by
  unfold theirsS
  rw [if_neg (by omega), if_neg (by omega), if_neg (by omega)]
  rfl
theorem th_taken (h1 : 1 ≤ who) (h2 : who ≤ 1073741824) (h0 : own ≠ 0) (h : own ≠ who) : theirsS own 0 who = (own, 8) := by
  unfold theirsS
  rw [if_neg (by omega), if_neg (by omega), if_pos (.inl ⟨rfl, h0, h⟩)]
theorem th_give (h1 : 1 ≤ who) (h2 : who ≤ 1073741824) : theirsS who 1 who = (0, 0) := by
  unfold theirsS
  rw [if_neg (by omega), if_neg (by omega), if_neg (by omega)]
  rfl
theorem th_given (h1 : 1 ≤ who) (h2 : who ≤ 1073741824) (h : own ≠ who) : theirsS own 1 who = (own, 8) := by
  unfold theirsS
  rw [if_neg (by omega), if_neg (by omega), if_pos (.inr ⟨rfl, h⟩)]
theorem th_brk (h1 : 1 ≤ who) (h2 : who ≤ 1073741824) : theirsS own 2 who = (who, 0) := by
  unfold theirsS
  rw [if_neg (by omega), if_neg (by omega), if_neg (by omega)]
  rfl
end
set_option maxRecDepth 4000
set_option maxHeartbeats 4000000
theorem lockOne_walk (a b : Int) (c : Bool) (W : World) : Calls Try.prog 9 #[.int .i64 a, .int .i64 b, .bool c] W fun e w' => e = .returned (.bool true) ∧ Below W.heap.size W w' := by
  obtain ⟨x, hx⟩ : ∃ x, 1 + a % 65536 = x := ⟨_, rfl⟩
  obtain ⟨y, hy⟩ : ∃ y, 1 + b % 65536 = y := ⟨_, rfl⟩
  have hx1 : 1 ≤ x := by omega
  have hx2 : x ≤ 1073741824 := by omega
  have hy1 : 1 ≤ y := by omega
  have hy2 : y ≤ 1073741824 := by omega
  have HX1 := Lib.hid (show 1 ≤ x ∧ x ≤ 1073741824 from ⟨hx1, hx2⟩)
  have HY1 := Lib.hid (show 1 ≤ y ∧ y ≤ 1073741824 from ⟨hy1, hy2⟩)
  obtain ⟨a', ha'⟩ : ∃ a', a % 65536 = a' := ⟨_, rfl⟩
  obtain ⟨b', hb'⟩ : ∃ b', b % 65536 = b' := ⟨_, rfl⟩
  have ha1 : bits .and .i64 a 65535 = a' := (i64_and65535 a).trans ha'
  have hb1 : bits .and .i64 b 65535 = b' := (i64_and65535 b).trans hb'
  have hsx : IntKind.i64.wrap (1 + a') = x := by rw [IntKind.wrap_i64]; omega
  have hsy : IntKind.i64.wrap (1 + b') = y := by rw [IntKind.wrap_i64]; omega
  have t1 := Lib.hid (th_take (own := 0) hx1 hx2 (.inl rfl))
  have t2 := Lib.hid (th_take (own := x) hx1 hx2 (.inr rfl))
  clear hx hy ha' hb' hx1 hx2 hy1 hy2
  go_enter Try.func9, Try.ntmps9
  go_wp2_with fail
  refine (new_spec 1000 (St.init W)).mono ?_
  rintro e w1 ⟨p, rfl, h1⟩
  have H0 := Lib.hid h1
  have C0 := Lib.hid (LkC.new 100 (by omega))
  clear h1
  go_wp2_with fail
  have hc := take_calm (m := 96) x H0.out C0.out
  rw [t1.out] at hc
  refine hc.mono ?_
  rintro e w ⟨I1, S1, hs, rfl, h, c'⟩
  have H1 := Lib.hid h
  have C1 := Lib.hid c'
  clear h c' hc hs
  go_wp2_with fail
  have hc := take_calm (m := 92) x H1.out C1.out
  rw [t2.out] at hc
  refine hc.mono ?_
  rintro e w ⟨I2, S2, hs, rfl, h, c'⟩
  have H2 := Lib.hid h
  have C2 := Lib.hid c'
  clear h c' hc hs
  by_cases hxy : x = y
  · subst hxy
    have t3 := Lib.hid (th_give HX1.out.1 HX1.out.2)
    go_wp2_with fail
    have hc := give_calm (m := 88) x H2.out C2.out
    rw [t3.out] at hc
    refine hc.mono ?_
    rintro e w ⟨I3, S3, hs, rfl, h, c'⟩
    have H3 := Lib.hid h
    have C3 := Lib.hid c'
    clear h c' hc hs
    go_wp2_with fail
    refine (known19_spec _).mono ?_
    rintro e w9 ⟨rfl, hb9⟩
    have HB := Lib.hid (H3.out.below.trans (hb9.mono H3.out.below.size))
    clear hb9
    go_wp2_with fail
    go_ret
    exact ⟨rfl, HB.out⟩
  · have hb : (x == y) = false := by rw [beq_eq_false_iff_ne]; exact hxy
    have hx0 : x ≠ 0 := by have := HX1.out.1; omega
    have hy0 : y ≠ 0 := by have := HY1.out.1; omega
    have t3 := Lib.hid (th_taken HY1.out.1 HY1.out.2 hx0 hxy)
    have t4 := Lib.hid (th_given HY1.out.1 HY1.out.2 hxy)
    have t5 := Lib.hid (th_brk (own := x) HY1.out.1 HY1.out.2)
    have t6 := Lib.hid (th_taken HX1.out.1 HX1.out.2 hy0 (Ne.symm hxy))
    have t7 := Lib.hid (th_given HX1.out.1 HX1.out.2 (Ne.symm hxy))
    have t8 := Lib.hid (th_give HY1.out.1 HY1.out.2)
    have t9 := Lib.hid (th_give HX1.out.1 HX1.out.2)
    have t10 := Lib.hid (th_take (own := 0) HY1.out.1 HY1.out.2 (.inl rfl))
    clear hxy hx0 hy0
    go_wp2_with fail
    have hc := take_calm (m := 88) y H2.out C2.out
    rw [t3.out] at hc
    refine hc.mono ?_
    rintro e w ⟨I3, S3, hs, rfl, h, c'⟩
    have H3 := Lib.hid h
    have C3 := Lib.hid c'
    clear h c' hc hs
    go_wp2_with fail
    have hc := give_calm (m := 84) y H3.out C3.out
    rw [t4.out] at hc
    refine hc.mono ?_
    rintro e w ⟨I4, S4, hs, rfl, h, c'⟩
    have H4 := Lib.hid h
    have C4 := Lib.hid c'
    clear h c' hc hs
    cases c with
    | true =>
      go_wp2_with fail
      have hc := brk_calm (m := 80) y H4.out C4.out
      rw [t5.out] at hc
      refine hc.mono ?_
      rintro e w ⟨I5, S5, hs, rfl, h, c'⟩
      have H5 := Lib.hid h
      have C5 := Lib.hid c'
      clear h c' hc hs
      go_wp2_with fail
      have hc := take_calm (m := 76) x H5.out C5.out
      rw [t6.out] at hc
      refine hc.mono ?_
      rintro e w ⟨I6, S6, hs, rfl, h, c'⟩
      have H6 := Lib.hid h
      have C6 := Lib.hid c'
      clear h c' hc hs
      go_wp2_with fail
      have hc := give_calm (m := 72) x H6.out C6.out
      rw [t7.out] at hc
      refine hc.mono ?_
      rintro e w ⟨I7, S7, hs, rfl, h, c'⟩
      have H7 := Lib.hid h
      have C7 := Lib.hid c'
      clear h c' hc hs
      go_wp2_with fail
      have hc := give_calm (m := 68) y H7.out C7.out
      rw [t8.out] at hc
      refine hc.mono ?_
      rintro e w ⟨I8, S8, hs, rfl, h, c'⟩
      have H8 := Lib.hid h
      have C8 := Lib.hid c'
      clear h c' hc hs
      go_wp2_with fail
      have hc := take_calm (m := 64) x H8.out C8.out
      rw [t1.out] at hc
      refine hc.mono ?_
      rintro e w ⟨I9, S9, hs, rfl, h, c'⟩
      have H9 := Lib.hid h
      have C9 := Lib.hid c'
      clear h c' hc hs
      go_wp2_with fail
      refine (known19_spec _).mono ?_
      rintro e w9 ⟨rfl, hb9⟩
      have HB := Lib.hid (H9.out.below.trans (hb9.mono H9.out.below.size))
      clear hb9
      go_wp2_with fail
      go_ret
      exact ⟨rfl, HB.out⟩
    | false =>
      go_wp2_with fail
      have hc := give_calm (m := 80) x H4.out C4.out
      rw [t9.out] at hc
      refine hc.mono ?_
      rintro e w ⟨I5, S5, hs, rfl, h, c'⟩
      have H5 := Lib.hid h
      have C5 := Lib.hid c'
      clear h c' hc hs
      go_wp2_with fail
      have hc := take_calm (m := 76) y H5.out C5.out
      rw [t10.out] at hc
      refine hc.mono ?_
      rintro e w ⟨I6, S6, hs, rfl, h, c'⟩
      have H6 := Lib.hid h
      have C6 := Lib.hid c'
      clear h c' hc hs
      go_wp2_with fail
      have hc := take_calm (m := 72) x H6.out C6.out
      rw [t6.out] at hc
      refine hc.mono ?_
      rintro e w ⟨I7, S7, hs, rfl, h, c'⟩
      have H7 := Lib.hid h
      have C7 := Lib.hid c'
      clear h c' hc hs
      go_wp2_with fail
      refine (known19_spec _).mono ?_
      rintro e w9 ⟨rfl, hb9⟩
      have HB := Lib.hid (H7.out.below.trans (hb9.mono H7.out.below.size))
      clear hb9
      go_wp2_with fail
      go_ret
      exact ⟨rfl, HB.out⟩
end Go.Proofs.Ytnokhjhhadnckaa
