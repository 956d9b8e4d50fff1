/- The lock's calls as the document's answer; hectographlaw19.known. -/
import Derived.Test.YtnokhjhhadnckaaLockPlain
set_option linter.unusedSimpArgs false
set_option linter.unusedVariables false
set_option linter.unusedSectionVars false
namespace Go.Proofs.Ytnokhjhhadnckaa
open Go.RowKit
theorem LkJ.notfull {S : Str} {o : Int} (h : LkJ S o) (b : List Int) (hb : b.length ≤ 8) : (setS (if whyS S kL ≠ 0 then (makeS S kL).2 else S) kL nmO b).1 ≠ 6 := by
  cases hon : S.on with
  | true =>
    obtain ⟨x, v, h1, h2, h3⟩ := h.one
    have hvl := ownV_len h3
    exact (keep_law (b := b) h1 h2 hon kL_ok (by decide) (by decide) (by omega) (by omega) (by rw [h.room]; show ((1 : Nat) : Int) + _ ≤ _; omega) (by rw [h.room]; decide)).1
  | false =>
    have hm : mayS S kL = 7 := by simp [mayS, hon]
    have hw : whyS S kL = 7 := by unfold whyS; rw [hm]; rfl
    have hk : makeS S kL = (7, S) := by simp [makeS, hw]
    rw [if_pos (by rw [hw]; decide), hk, setS_why (by rw [hw]; decide), hw]
    show (7 : Int) ≠ 6
    decide
theorem LkJ.bytes' {S : Str} {o : Int} (h : LkJ S o) : (∀ x ∈ (attrS S kL nmO).1, isByte x) ∧ (attrS S kL nmO).1.length ≤ 1000000 := by
  cases hon : S.on with
  | true => exact h.bytes hon
  | false =>
    have hm : mayS S kL = 7 := by simp [mayS, hon]
    have hw : whyS S kL = 7 := by unfold whyS; rw [hm]; rfl
    have : attrS S kL nmO = ([], 7) := by simp [attrS, hw]
    rw [this]
    exact ⟨(fun x hx => by cases hx), by simp⟩
section
variable {W w : World} {I : Hp} {l : List HP} {p : Nat} {S : Str}
theorem take_any (who : Int) {o : Int} {m : Nat} (h : St W I w (storeHP p S :: l)) (hk : Keeps S (m + 4)) (hj : LkJ S o) :
    Calls Try.prog 37 #[.pointer (some ⟨p, 0, none⟩), .int .i64 who] w fun e w' => ∃ I', I.sub I' ∧ e = .returned (.int .i64 (takeS S who).1) ∧ St W I' w' (storeHP p (takeS S who).2 :: l) :=
  take_spec who h hk hj.bytes'.1 hj.bytes'.2 (hj.notfull _ (by rw [putB_length]; exact Nat.le_refl _))
theorem gback_any (who : Int) {o : Int} {m : Nat} (h : St W I w (storeHP p S :: l)) (hk : Keeps S (m + 4)) (hj : LkJ S o) :
    Calls Try.prog 38 #[.pointer (some ⟨p, 0, none⟩), .int .i64 who] w fun e w' => ∃ I', I.sub I' ∧ e = .returned (.int .i64 (gbackS S who).1) ∧ St W I' w' (storeHP p (gbackS S who).2 :: l) :=
  gback_spec who h hk hj.bytes'.1 hj.bytes'.2 (hj.notfull _ (by decide))
theorem brk_any (who : Int) {o : Int} {m : Nat} (h : St W I w (storeHP p S :: l)) (hk : Keeps S (m + 4)) (hj : LkJ S o) :
    Calls Try.prog 40 #[.pointer (some ⟨p, 0, none⟩), .int .i64 who] w fun e w' => ∃ I', I.sub I' ∧ e = .returned (.int .i64 (brkS S who).1) ∧ St W I' w' (storeHP p (brkS S who).2 :: l) :=
  brk_spec who h hk (hj.notfull _ (by rw [putB_length]; exact Nat.le_refl _))
/-- A store that is on, and no fuse: o owns it. -/
structure LkC (S : Str) (o : Int) (m : Nat) : Prop where
  j : LkJ S o
  on : S.on = true
  arm : S.armed = false
  keeps : Keeps S m
theorem LkC.new (m : Nat) (h : m ≤ 100000) : LkC (newS 1000) 0 m := ⟨LkJ.new, rfl, rfl, (keeps_new 1000).fewer h⟩
theorem LkC.step {S : Str} {o : Int} {m : Nat} (h : LkC S o (m + 4)) (what who : Int) : (oursS S what who).1 = (theirsS o what who).2 ∧ LkC (oursS S what who).2 (theirsS o what who).1 m := by
  rcases ours_law (what := what) (who := who) h.j h.on with ⟨h1, h2, h3, h4⟩ | ⟨h1, _⟩
  · exact ⟨h1, h3, h2, h4.trans h.arm, ours_keeps h.keeps⟩
  · rw [h.arm] at h1; cases h1
theorem take_calm (who : Int) {o : Int} {m : Nat} (h : St W I w (storeHP p S :: l)) (hk : LkC S o (m + 4)) :
    Calls Try.prog 37 #[.pointer (some ⟨p, 0, none⟩), .int .i64 who] w fun e w' => ∃ I' S', I.sub I' ∧ e = .returned (.int .i64 (theirsS o 0 who).2) ∧ St W I' w' (storeHP p S' :: l) ∧ LkC S' (theirsS o 0 who).1 m := by
  have hs := hk.step 0 who
  refine (take_any who h hk.keeps hk.j).mono ?_
  rintro e w' ⟨I', h1, rfl, h3⟩
  exact ⟨I', _, h1, by rw [← hs.1]; rfl, h3, hs.2⟩
theorem give_calm (who : Int) {o : Int} {m : Nat} (h : St W I w (storeHP p S :: l)) (hk : LkC S o (m + 4)) :
    Calls Try.prog 38 #[.pointer (some ⟨p, 0, none⟩), .int .i64 who] w fun e w' => ∃ I' S', I.sub I' ∧ e = .returned (.int .i64 (theirsS o 1 who).2) ∧ St W I' w' (storeHP p S' :: l) ∧ LkC S' (theirsS o 1 who).1 m := by
  have hs := hk.step 1 who
  refine (gback_any who h hk.keeps hk.j).mono ?_
  rintro e w' ⟨I', h1, rfl, h3⟩
  exact ⟨I', _, h1, by rw [← hs.1]; rfl, h3, hs.2⟩
theorem brk_calm (who : Int) {o : Int} {m : Nat} (h : St W I w (storeHP p S :: l)) (hk : LkC S o (m + 4)) :
    Calls Try.prog 40 #[.pointer (some ⟨p, 0, none⟩), .int .i64 who] w fun e w' => ∃ I' S', I.sub I' ∧ e = .returned (.int .i64 (theirsS o 2 who).2) ∧ St W I' w' (storeHP p S' :: l) ∧ LkC S' (theirsS o 2 who).1 m := by
  have hs := hk.step 2 who
  refine (brk_any who h hk.keeps hk.j).mono ?_
  rintro e w' ⟨I', h1, rfl, h3⟩
  exact ⟨I', _, h1, by rw [← hs.1]; rfl, h3, hs.2⟩
theorem who_any {o : Int} {m : Nat} (h : St W I w (storeHP p S :: l)) (hk : Keeps S m) (hj : LkJ S o) :
    Calls Try.prog 43 #[.pointer (some ⟨p, 0, none⟩)] w fun e w' => e = .returned (.tuple #[.int .i64 (whoS S).1, .int .i64 (whoS S).2]) ∧ Below w.heap.size w w' :=
  who_spec h hk.inv hj.bytes'.1 hj.bytes'.2
set_option maxRecDepth 4000
set_option maxHeartbeats 4000000
theorem known19_spec (w : World) : Calls Try.prog 39 #[] w fun e w' => e = .returned (.bool true) ∧ Below w.heap.size w w' := by
  have t0 : theirsS 0 0 0 = (0, 1) := by decide
  have t1 : theirsS 0 1 1 = (0, 8) := by decide
  have t2 : theirsS 0 0 4 = (4, 0) := by decide
  have t3 : theirsS 4 0 5 = (4, 8) := by decide
  have T0 := Lib.hid t0
  have T1 := Lib.hid t1
  have T2 := Lib.hid t2
  have T3 := Lib.hid t3
  clear t0 t1 t2 t3
  go_enter Try.func39, Try.ntmps39
  go_wp2_with fail
  refine (new_spec 1000 (St.init w)).mono ?_
  rintro e w1 ⟨p, rfl, h1⟩
  have H1 := Lib.hid h1
  have C1 := Lib.hid (LkC.new 100 (by omega))
  clear h1
  go_wp2_with fail
  have hwc := who_any H1.out C1.out.keeps C1.out.j
  rw [C1.out.j.who C1.out.on] at hwc
  refine hwc.mono ?_
  rintro e w2 ⟨rfl, hb2⟩
  have H2 := Lib.hid (H1.out.keep hb2)
  clear hb2 hwc
  go_wp2_with fail
  have hc := take_calm (m := 96) 0 H2.out C1.out
  rw [T0.out] at hc
  refine hc.mono ?_
  rintro e w3 ⟨I3, S3, hs3, rfl, h3, c3⟩
  have H3 := Lib.hid h3
  have C3 := Lib.hid c3
  clear h3 c3 hc hs3
  go_wp2_with fail
  have hc := give_calm (m := 92) 1 H3.out C3.out
  rw [T1.out] at hc
  refine hc.mono ?_
  rintro e w4 ⟨I4, S4, hs4, rfl, h4, c4⟩
  have H4 := Lib.hid h4
  have C4 := Lib.hid c4
  clear h4 c4 hc hs4
  go_wp2_with fail
  have hc := take_calm (m := 88) 4 H4.out C4.out
  rw [T2.out] at hc
  refine hc.mono ?_
  rintro e w5 ⟨I5, S5, hs5, rfl, h5, c5⟩
  have H5 := Lib.hid h5
  have C5 := Lib.hid c5
  clear h5 c5 hc hs5
  go_wp2_with fail
  have hc := take_calm (m := 84) 5 H5.out C5.out
  rw [T3.out] at hc
  refine hc.mono ?_
  rintro e w6 ⟨I6, S6, hs6, rfl, h6, c6⟩
  have H6 := Lib.hid h6
  clear h6 c6 hc hs6
  go_wp2_with fail
  go_ret
  exact ⟨rfl, H6.out.below⟩
end
end Go.Proofs.Ytnokhjhhadnckaa
