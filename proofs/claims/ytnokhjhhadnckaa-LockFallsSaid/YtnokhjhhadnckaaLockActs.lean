/- The lock's script: an act's owner, the document's answer, the program's. -/
import Derived.Test.YtnokhjhhadnckaaLockCalm
set_option linter.unusedSimpArgs false
set_option linter.unusedVariables false
set_option linter.unusedSectionVars false
namespace Go.Proofs.Ytnokhjhhadnckaa
open Go.RowKit
structure A19 where
  what : Int
  who : Int
  fuse : Int
  raw : Bool
def A19.vals (a : A19) : List Value := [.int .i64 a.what, .int .i64 a.who, .int .i64 a.fuse, .bool a.raw]
def A19.val (a : A19) : Value := .agg #[.int .i64 a.what, .int .i64 a.who, .int .i64 a.fuse, .bool a.raw]
def A19.n (a : A19) : Int := if a.raw then a.who else 1 + a.who % 4
section
variable {W w : World} {I : Hp} {l : List HP} {p : Nat} {S : Str}
set_option maxRecDepth 4000
set_option maxHeartbeats 4000000
theorem actwho_spec (a : A19) (w : World) : Calls Try.prog 79 #[a.val] w fun e w' => e = .returned (.int .i64 a.n) ∧ Below w.heap.size w w' := by
  obtain ⟨a0, a1, a2, a3⟩ := a
  unfold A19.val A19.n
  cases a3 with
  | true =>
    go_enter Try.func79, Try.ntmps79
    go_wp2
    go_ret
    exact ⟨rfl, below_alloc _ _⟩
  | false =>
    obtain ⟨b, hb⟩ : ∃ b, a1 % 4 = b := ⟨_, rfl⟩
    have h3 : bits .and .i64 a1 3 = b := (i64_and3 a1).trans hb
    have hw : IntKind.i64.wrap (1 + b) = 1 + b := by rw [IntKind.wrap_i64]; omega
    have HB := Lib.hid hb
    clear hb
    go_enter Try.func79, Try.ntmps79
    go_wp2
    go_ret
    refine ⟨?_, below_alloc _ _⟩
    have := HB.out
    simp only [Bool.false_eq_true, if_false]
    rw [this]
    rfl
theorem lours_spec (a : A19) {o : Int} {m : Nat} (h : St W I w (storeHP p S :: l)) (hk : Keeps S (m + 4)) (hj : LkJ S o) :
    Calls Try.prog 42 #[.pointer (some ⟨p, 0, none⟩), a.val] w fun e w' => ∃ I', I.sub I' ∧ e = .returned (.int .i64 (oursS S a.what a.n).1) ∧ St W I' w' (storeHP p (oursS S a.what a.n).2 :: l) := by
  obtain ⟨n, hn⟩ : ∃ n, a.n = n := ⟨_, rfl⟩
  have hst := ((h.alloc (.cells #[.int .i64 a.what, .int .i64 a.who, .int .i64 a.fuse, .bool a.raw] 67)).pull 1 _ rfl)
  have HST := Lib.hid hst
  have hwho : ∀ w, Calls Try.prog 79 #[.agg #[.int .i64 a.what, .int .i64 a.who, .int .i64 a.fuse, .bool a.raw]] w fun e w' => e = .returned (.int .i64 n) ∧ Below w.heap.size w w' := fun w => by
    have := actwho_spec a w
    rw [hn] at this
    exact this
  have HWHO := Lib.hid hwho
  rw [hn]
  have HK := Lib.hid hk
  have HJ := Lib.hid hj
  obtain ⟨a0, a1, a2, a3⟩ := a
  unfold A19.val
  simp only at HST HWHO ⊢
  clear h hk hj hst hwho hn
  by_cases h0 : a0 = 0
  · subst h0
    have HE := Lib.hid (show oursS S 0 n = takeS S n from rfl)
    go_enter Try.func42, Try.ntmps42
    go_wp2_with fail
    refine (HWHO.out _).mono ?_
    rintro e w1 ⟨rfl, hb1⟩
    have H1 := Lib.hid (HST.out.keep hb1)
    clear hb1
    go_wp2_with fail
    refine (take_any n H1.out HK.out HJ.out).mono ?_
    rintro e w2 ⟨I2, hs2, rfl, h2⟩
    have H2 := Lib.hid h2
    have HS2 := Lib.hid hs2
    clear h2 hs2
    go_wp2_with fail
    go_ret
    rw [HE.out]
    exact ⟨I2, HS2.out, rfl, (H2.out.pull 1 _ rfl).drop⟩
  · by_cases h1 : a0 = 1
    · subst h1
      have HE := Lib.hid (show oursS S 1 n = gbackS S n from rfl)
      clear h0
      go_enter Try.func42, Try.ntmps42
      go_wp2_with fail
      refine (HWHO.out _).mono ?_
      rintro e w1 ⟨rfl, hb1⟩
      have H1 := Lib.hid (HST.out.keep hb1)
      clear hb1
      go_wp2_with fail
      refine (gback_any n H1.out HK.out HJ.out).mono ?_
      rintro e w2 ⟨I2, hs2, rfl, h2⟩
      have H2 := Lib.hid h2
      have HS2 := Lib.hid hs2
      clear h2 hs2
      go_wp2_with fail
      go_ret
      rw [HE.out]
      exact ⟨I2, HS2.out, rfl, (H2.out.pull 1 _ rfl).drop⟩
    · by_cases h2 : a0 = 2
      · subst h2
        have HE := Lib.hid (show oursS S 2 n = brkS S n from rfl)
        clear h0 h1
        go_enter Try.func42, Try.ntmps42
        go_wp2_with fail
        refine (HWHO.out _).mono ?_
        rintro e w1 ⟨rfl, hb1⟩
        have H1 := Lib.hid (HST.out.keep hb1)
        clear hb1
        go_wp2_with fail
        refine (brk_any n H1.out HK.out HJ.out).mono ?_
        rintro e w2 ⟨I2, hs2, rfl, h2⟩
        have H2 := Lib.hid h2
        have HS2 := Lib.hid hs2
        clear h2 hs2
        go_wp2_with fail
        go_ret
        rw [HE.out]
        exact ⟨I2, HS2.out, rfl, (H2.out.pull 1 _ rfl).drop⟩
      · have HE := Lib.hid (show oursS S a0 n = (0, S) by simp [oursS, h0, h1, h2])
        have b0 : (a0 == 0) = false := by simpa using h0
        have b1 : (a0 == 1) = false := by simpa using h1
        have b2 : (a0 == 2) = false := by simpa using h2
        clear h0 h1 h2
        go_enter Try.func42, Try.ntmps42
        go_wp2_with fail
        go_ret
        rw [HE.out]
        exact ⟨I, Hp.sub.refl _, rfl, (HST.out.pull 1 _ rfl).drop⟩
theorem ltheirs_spec (own : Int) (a : A19) (w : World) :
    Calls Try.prog 41 #[.int .i64 own, a.val] w fun e w' => e = .returned (.tuple #[.int .i64 (theirsS own a.what a.n).1, .int .i64 (theirsS own a.what a.n).2]) ∧ Below w.heap.size w w' := by
  obtain ⟨n, hn⟩ : ∃ n, a.n = n := ⟨_, rfl⟩
  have hwho : ∀ w, Calls Try.prog 79 #[.agg #[.int .i64 a.what, .int .i64 a.who, .int .i64 a.fuse, .bool a.raw]] w fun e w' => e = .returned (.int .i64 n) ∧ Below w.heap.size w w' := fun w => by
    have := actwho_spec a w
    rw [hn] at this
    exact this
  have HWHO := Lib.hid hwho
  rw [hn]
  obtain ⟨a0, a1, a2, a3⟩ := a
  unfold A19.val
  simp only at HWHO ⊢
  clear hn hwho
  obtain ⟨T, hT⟩ : ∃ T, theirsS own a0 n = T := ⟨_, rfl⟩
  rw [hT]
  have hcase : (decide (a0 < 0) = true ∧ T = (own, 0)) ∨ (decide (a0 < 0) = false ∧ decide (2 < a0) = true ∧ T = (own, 0)) ∨
      (decide (a0 < 0) = false ∧ decide (2 < a0) = false ∧ decide (n < 1) = true ∧ T = (own, 1)) ∨
      (decide (a0 < 0) = false ∧ decide (2 < a0) = false ∧ decide (n < 1) = false ∧ decide (1073741824 < n) = true ∧ T = (own, 1)) ∨
      (a0 = 0 ∧ decide (n < 1) = false ∧ decide (1073741824 < n) = false ∧ (own != 0) = true ∧ (own != n) = true ∧ T = (own, 8)) ∨
      (a0 = 0 ∧ decide (n < 1) = false ∧ decide (1073741824 < n) = false ∧ (own != 0) = true ∧ (own != n) = false ∧ T = (n, 0)) ∨
      (a0 = 0 ∧ decide (n < 1) = false ∧ decide (1073741824 < n) = false ∧ (own != 0) = false ∧ T = (n, 0)) ∨
      (a0 = 1 ∧ decide (n < 1) = false ∧ decide (1073741824 < n) = false ∧ (own != n) = true ∧ T = (own, 8)) ∨
      (a0 = 1 ∧ decide (n < 1) = false ∧ decide (1073741824 < n) = false ∧ (own != n) = false ∧ T = (0, 0)) ∨
      (a0 = 2 ∧ decide (n < 1) = false ∧ decide (1073741824 < n) = false ∧ T = (n, 0)) := by
    rw [← hT]
    simp only [decide_eq_true_eq, decide_eq_false_iff_not, bne_iff_ne, ne_eq, bne_eq_false_iff_eq]
    unfold theirsS
    by_cases c1 : a0 < 0 ∨ 2 < a0
    · rw [if_pos c1]
      by_cases h : a0 < 0
      · exact .inl ⟨h, rfl⟩
      · exact .inr (.inl ⟨h, by omega, rfl⟩)
    · rw [if_neg c1]
      have k1 : ¬ a0 < 0 := by omega
      have k2 : ¬ 2 < a0 := by omega
      by_cases c2 : n < 1 ∨ 1073741824 < n
      · rw [if_pos c2]
        by_cases h : n < 1
        · exact .inr (.inr (.inl ⟨k1, k2, h, rfl⟩))
        · exact .inr (.inr (.inr (.inl ⟨k1, k2, h, by omega, rfl⟩)))
      · rw [if_neg c2]
        have k3 : ¬ n < 1 := by omega
        have k4 : ¬ 1073741824 < n := by omega
        by_cases c3 : (a0 = 0 ∧ own ≠ 0 ∧ own ≠ n) ∨ (a0 = 1 ∧ own ≠ n)
        · rw [if_pos c3]
          rcases c3 with ⟨h, h0, h1⟩ | ⟨h, h1⟩
          · exact .inr (.inr (.inr (.inr (.inl ⟨h, k3, k4, h0, h1, rfl⟩))))
          · exact .inr (.inr (.inr (.inr (.inr (.inr (.inr (.inl ⟨h, k3, k4, h1, rfl⟩)))))))
        · rw [if_neg c3]
          by_cases c4 : a0 = 1
          · rw [if_pos c4]
            exact .inr (.inr (.inr (.inr (.inr (.inr (.inr (.inr (.inl ⟨c4, k3, k4, by omega, rfl⟩))))))))
          · rw [if_neg c4]
            by_cases c5 : a0 = 0
            · by_cases h0 : own = 0
              · exact .inr (.inr (.inr (.inr (.inr (.inr (.inl ⟨c5, k3, k4, h0, rfl⟩))))))
              · exact .inr (.inr (.inr (.inr (.inr (.inl ⟨c5, k3, k4, h0, by omega, rfl⟩)))))
            · exact .inr (.inr (.inr (.inr (.inr (.inr (.inr (.inr (.inr ⟨by omega, k3, k4, rfl⟩))))))))
  clear hT
  have fin : ∀ {w w1 : World} {o : Obj}, Below (w.alloc o).heap.size (w.alloc o) w1 → Below w.heap.size w w1 := fun hb => (below_alloc _ _).trans (hb.mono (by simp))
  rcases hcase with ⟨c1, rfl⟩ | ⟨c1, c2, rfl⟩ | ⟨c1, c2, c3, rfl⟩ | ⟨c1, c2, c3, c4, rfl⟩ | ⟨rfl, c3, c4, c5, c6, rfl⟩ | ⟨rfl, c3, c4, c5, c6, rfl⟩ | ⟨rfl, c3, c4, c5, rfl⟩ | ⟨rfl, c3, c4, c5, rfl⟩ | ⟨rfl, c3, c4, c5, rfl⟩ | ⟨rfl, c3, c4, rfl⟩
  all_goals
    go_enter Try.func41, Try.ntmps41
    go_wp2_with fail
    refine (HWHO.out _).mono ?_
    rintro e w1 ⟨rfl, hb1⟩
    have hg := block_behind hb1
    have y0 := cells_of hg 0
    simp at y0
    have HB := Lib.hid (fin hb1)
    clear hb1 hg fin
    go_wp2_with fail
    go_ret2
    exact ⟨rfl, HB.out⟩
end
end Go.Proofs.Ytnokhjhhadnckaa
