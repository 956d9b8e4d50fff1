/- hectographlaw17.known answers true. -/
import Derived.Test.YtbepmbcbcklmlaaGreatCowTidy
set_option linter.unusedSimpArgs false
set_option linter.unusedVariables false
set_option linter.unusedSectionVars false
namespace Go.Proofs.YtbepmbcbcklmlaaGreat
open Go.RowKit
def k7a : Str := (cwriteS (newS 10000) 0 3 0 0 [97]).2
def k7b : Str := (cwriteS k7a 0 3 1 0 [98]).2
theorem k7a_eq : cwriteS (newS 10000) 0 3 0 0 [97] = (0, k7a) := by kernel_rfl
theorem k7b_eq : cwriteS k7a 0 3 1 0 [98] = (0, k7b) := by kernel_rfl
theorem k7_read1 : creadS k7b 0 3 1 0 1 = ([97], 0) := by kernel_rfl
theorem k7_read0 : creadS k7b 0 3 0 0 1 = ([98], 0) := by kernel_rfl
theorem k7_copies : ccopiesS k7b 0 4 = ([], 0) := by kernel_rfl
theorem k7_there : cthereS k7b 0 4 0 = (false, 0) := by kernel_rfl
theorem k7a_keeps : Keeps k7a 99980 := by
  have := cwriteS_keeps (img := 0) (num := 3) (newest := 0) (off := 0) (p := [97]) ((keeps_new 10000).fewer (show 99980 + 16 ≤ 100000 by omega))
  rwa [k7a_eq] at this
theorem k7b_keeps : Keeps k7b 99960 := by
  have := cwriteS_keeps (img := 0) (num := 3) (newest := 1) (off := 0) (p := [98]) (k7a_keeps.fewer (show 99960 + 16 ≤ 99980 by omega))
  rwa [k7b_eq] at this
theorem one_byte {W w : World} {I : Hp} {l : List HP} {g : Nat} {x : Int} {f : Nat × Nat} (h : St W I w (HP.pt g (.cells #[.int .u8 x] 5 f) :: l)) : ∃ I', I.sub I' ∧ BytesI I' (.slice (some ⟨g, 0, none⟩) 1 1) [x] ∧ St W I' w l := by
  obtain ⟨I', hs, hI, h2⟩ := h.freeze
  exact ⟨I', hs, ⟨some ⟨g, 0, none⟩, 1, rfl, rfl, Nat.le_refl _, by unfold maxLen; omega, (fun e => by cases e), fun _ => ⟨g, 0, _, _, _, rfl, hI, fun i x hx => by simpa [byteV] using hx⟩⟩, h2⟩
section
set_option maxRecDepth 4000
set_option maxHeartbeats 8000000
theorem known17_spec (w : World) : Calls Tryz.prog 6 #[] w fun e w' => e = .returned (.bool true) ∧ Below w.heap.size w w' := by
  go_enter Tryz.func6, Tryz.ntmps6
  go_wp2_with fail
  refine (new_spec 10000 (St.init w)).mono ?_
  rintro e w1 ⟨p, rfl, h1⟩
  have hcv := conv_lit
  obtain ⟨I2, hs2, hb2, h2⟩ := one_byte (h1.alloc (.cells #[.int .u8 97] 5 (1, 2)))
  have hc := cwrite_spec 0 3 0 0 _ [97] h2 ((keeps_new 10000).fewer (show 99980 + 16 ≤ 100000 by omega)) hb2 (by simp)
  rw [k7a_eq] at hc
  have HC := Lib.hid hc
  have HS2 := Lib.hid hs2
  clear h1 hs2 hb2 h2 hc
  go_wp2_with fail
  refine HC.out.mono ?_
  rintro e w3 ⟨I3, hs3, rfl, h3⟩
  obtain ⟨I4, hs4, hb4, h4⟩ := one_byte (h3.alloc (.cells #[.int .u8 98] 5 (1, 2)))
  have hc := cwrite_spec 0 3 1 0 _ [98] h4 (k7a_keeps.fewer (show 99960 + 16 ≤ 99980 by omega)) hb4 (by simp)
  rw [k7b_eq] at hc
  have HC2 := Lib.hid hc
  have HS4 := Lib.hid ((HS2.out.trans hs3).trans hs4)
  clear h3 hs3 hs4 hb4 h4 hc HC
  go_wp2_with fail
  refine HC2.out.mono ?_
  rintro e w5 ⟨I5, hs5, rfl, h5⟩
  have hr := cread_spec 0 3 1 0 1 h5 k7b_keeps.inv
  rw [k7_read1] at hr
  have HR := Lib.hid hr
  have HS5 := Lib.hid (HS4.out.trans hs5)
  clear h5 hs5 hr HC2 hcv
  go_wp2_with fail
  refine HR.out.mono ?_
  rintro e w6 ⟨v6, I6, hs6, rfl, hb6, h6⟩
  have HB6 := Lib.hid hb6
  obtain ⟨A6, c6, rfl, _⟩ := hb6
  have hr := cread_spec 0 3 0 0 1 h6 k7b_keeps.inv
  rw [k7_read0] at hr
  have HR2 := Lib.hid hr
  have HS6 := Lib.hid (HS5.out.trans hs6)
  clear h6 hs6 hr HR
  go_wp2_with fail
  refine HR2.out.mono ?_
  rintro e w7 ⟨v7, I7, hs7, rfl, hb7, h7⟩
  have HB7 := Lib.hid hb7
  obtain ⟨A7, c7, rfl, _⟩ := hb7
  have hr := ccopies_spec 0 4 h7 k7b_keeps.inv
  rw [k7_copies] at hr
  have HR3 := Lib.hid hr
  have HS67 := Lib.hid hs7
  have HS7 := Lib.hid (HS6.out.trans hs7)
  clear h7 hs7 hr HR2
  go_wp2_with fail
  refine HR3.out.mono ?_
  rintro e w8 ⟨v8, I8, hs8, rfl, hv8, h8⟩
  obtain ⟨A8, c8, rfl, _⟩ := hv8
  have hr := cthere_spec 0 4 0 h8 k7b_keeps.inv
  rw [k7_there] at hr
  have HR4 := Lib.hid hr
  have HS78 := Lib.hid hs8
  have HS8 := Lib.hid (HS7.out.trans hs8)
  clear h8 hs8 hr HR3
  go_wp2_with fail
  refine HR4.out.mono ?_
  rintro e w9 ⟨I9, hs9, rfl, h9⟩
  have hst1 := src_string (bytes_src h9 ((bytesIP _ _).mono ((HS67.out.trans HS78.out).trans hs9) HB6.out))
  have hst2 := src_string (bytes_src h9 ((bytesIP _ _).mono (HS78.out.trans hs9) HB7.out))
  rw [show strOfNums [97] = ⟨#[97]⟩ by rfl] at hst1
  rw [show strOfNums [98] = ⟨#[98]⟩ by rfl] at hst2
  have H9 := Lib.hid h9
  clear h9 hs9 HR4
  change (convert _ _ (.slice A6 1 c6)).run _ _ = _ at hst1
  change (convert _ _ (.slice A7 1 c7)).run _ _ = _ at hst2
  go_wp2_with fail
  go_ret
  exact ⟨rfl, H9.out.below⟩
end
end Go.Proofs.YtbepmbcbcklmlaaGreat
