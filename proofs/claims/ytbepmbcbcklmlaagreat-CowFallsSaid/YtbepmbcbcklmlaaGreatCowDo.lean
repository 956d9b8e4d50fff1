/- Package cow: what it changes. -/
import Derived.Test.YtbepmbcbcklmlaaGreatCowTell
set_option linter.unusedSimpArgs false
set_option linter.unusedVariables false
set_option linter.unusedSectionVars false
namespace Go.Proofs.YtbepmbcbcklmlaaGreat
open Go.RowKit
theorem thenE_ok (S : Str) (f : Str → Int × Str) : thenE (0, S) f = f S := rfl
theorem thenE_bad {e : Int} (h : e ≠ 0) (S : Str) (f : Str → Int × Str) : thenE (e, S) f = (e, S) := if_neg h
/-- A call that answers a number and leaves a store so. -/
def DoesE (W : World) (I : Hp) (p : Nat) (l : List HP) (r : Int × Str) : Ending → World → Prop := fun e w' => ∃ I', I.sub I' ∧ e = .returned (.int .i64 r.1) ∧ St W I' w' (storeHP p r.2 :: l)
section
variable {W w : World} {I : Hp} {l : List HP} {p : Nat} {S : Str}
set_option maxRecDepth 4000
set_option maxHeartbeats 4000000
theorem drops_spec (k : K4) (why : Int) {m : Nat} (h : St W I w (storeHP p S :: l)) (hk : Keeps S m) : Calls Tryz.prog 68 #[.pointer (some ⟨p, 0, none⟩), k.val, .int .i64 why] w (DoesE W I p l (dropsE (why, S) k)) := by
  obtain ⟨k0, k1, k2, k3⟩ := k
  obtain ⟨I1, hs1, hI1, h1⟩ := (h.alloc (.cells #[.int .i64 k0, .int .i64 k1, .int .i64 k2, .int .i64 k3] 81)).freeze
  obtain ⟨x0, x1, x2, x3⟩ := imm_cells4 h1 hI1
  have HS1 := Lib.hid hs1
  by_cases h6 : why = 6
  · subst h6
    have hd := drop_spec ⟨k0, k1, k2, k3⟩ h1 hk
    obtain ⟨⟨e1, S1⟩, hde⟩ : ∃ r, dropS S ⟨k0, k1, k2, k3⟩ = r := ⟨_, rfl⟩
    have HX := Lib.hid (show dropsE (6, S) ⟨k0, k1, k2, k3⟩ = (if e1 = 7 then 7 else 6, S1) by unfold dropsE; rw [if_pos rfl, hde])
    rw [hde] at hd
    simp only [K4.val] at hd ⊢
    have HD := Lib.hid hd
    clear hd hde h h1 hI1 hk hs1
    by_cases h7 : e1 = 7
    · subst h7
      have HX2 := Lib.hid (HX.out.trans (by rw [if_pos rfl]))
      go_enter Tryz.func68, Tryz.ntmps68
      go_wp2_with fail
      refine HD.out.mono ?_
      rintro e w2 ⟨I2, hs2, rfl, h2⟩
      have H2 := Lib.hid h2
      have HS2 := Lib.hid (HS1.out.trans hs2)
      clear h2 hs2
      go_wp2_with fail
      go_ret
      rw [HX2.out]
      exact ⟨I2, HS2.out, rfl, H2.out⟩
    · have HX2 := Lib.hid (HX.out.trans (by rw [if_neg h7]))
      have d7 : (e1 == 7) = false := by simpa using h7
      go_enter Tryz.func68, Tryz.ntmps68
      go_wp2_with fail
      refine HD.out.mono ?_
      rintro e w2 ⟨I2, hs2, rfl, h2⟩
      have H2 := Lib.hid h2
      have HS2 := Lib.hid (HS1.out.trans hs2)
      clear h2 hs2
      go_wp2_with fail
      go_ret
      rw [HX2.out]
      exact ⟨I2, HS2.out, rfl, H2.out⟩
  · have d6 : (why == 6) = false := by simpa using h6
    have HX := Lib.hid (show dropsE (why, S) ⟨k0, k1, k2, k3⟩ = (why, S) by unfold dropsE; rw [if_neg h6])
    simp only [K4.val]
    have H1 := Lib.hid h1
    clear h h1 hI1 hk hs1 x0 x1 x2 x3
    go_enter Tryz.func68, Tryz.ntmps68
    go_wp2_with fail
    go_ret
    rw [HX.out]
    exact ⟨I1, HS1.out, rfl, H1.out⟩
theorem clay_spec (k : K4) (off : Int) (pv : Value) (b : List Int) {m : Nat} (h : St W I w (storeHP p S :: l)) (hk : Keeps S (m + 6)) (hb : BytesI I pv b) (hbl : b.length ≤ 1000000) :
    Calls Tryz.prog 50 #[.pointer (some ⟨p, 0, none⟩), k.val, .int .i64 off, pv] w (DoesE W I p l (clayS S k off b)) := by
  obtain ⟨k0, k1, k2, k3⟩ := k
  obtain ⟨I1, hs1, hI1, h1⟩ := (h.alloc (.cells #[.int .i64 k0, .int .i64 k1, .int .i64 k2, .int .i64 k3] 81)).freeze
  obtain ⟨x0, x1, x2, x3⟩ := imm_cells4 h1 hI1
  have hsz := size_of ⟨k0, k1, k2, k3⟩ h1
  obtain ⟨wy, hwy⟩ : ∃ y, whyS S ⟨k0, k1, k2, k3⟩ = y := ⟨_, rfl⟩
  rw [hwy] at hsz
  simp only [K4.val] at hsz ⊢
  have HB := Lib.hid hb
  obtain ⟨Ap, cp, rfl, _⟩ := hb
  have HSZ := Lib.hid hsz
  have H1 := Lib.hid h1
  have HS1 := Lib.hid hs1
  have HI1 := Lib.hid hI1
  have HK := Lib.hid hk
  have HWY := Lib.hid hwy
  clear h hsz h1 hs1 hI1 hk hwy
  by_cases h0 : wy = 0
  · subst h0
    have HX := Lib.hid (show clayS S ⟨k0, k1, k2, k3⟩ off b = writeS S ⟨k0, k1, k2, k3⟩ off b by unfold clayS; rw [if_pos HWY.out])
    go_enter Tryz.func50, Tryz.ntmps50
    go_wp2_with fail
    refine HSZ.out.mono ?_
    rintro e w2 ⟨hb2, rfl⟩
    have h2 := H1.out.keep hb2
    obtain ⟨y0, y1, y2, y3⟩ := imm_cells4 h2 HI1.out
    have hwr := write_spec ⟨k0, k1, k2, k3⟩ off _ b h2 HK.out (bytes_src h2 ((bytesIP _ _).mono HS1.out HB.out)) (by omega)
    simp only [K4.val] at hwr
    have HWR := Lib.hid hwr
    clear hwr h2 hb2 x0 x1 x2 x3
    go_wp2_with fail
    refine HWR.out.mono ?_
    rintro e w3 ⟨I3, hs3, rfl, h3⟩
    have H3 := Lib.hid h3
    have HS3 := Lib.hid (HS1.out.trans hs3)
    clear h3 hs3 y0 y1 y2 y3
    go_wp2_with fail
    go_ret
    rw [HX.out]
    exact ⟨I3, HS3.out, rfl, H3.out⟩
  · have d0 : (wy != 0) = true := by simpa using h0
    obtain ⟨⟨e1, S1⟩, hmk⟩ : ∃ r, makeS S ⟨k0, k1, k2, k3⟩ = r := ⟨_, rfl⟩
    have HX := Lib.hid (show clayS S ⟨k0, k1, k2, k3⟩ off b = thenE (e1, S1) fun S1 => dropsE (writeS S1 ⟨k0, k1, k2, k3⟩ off b) ⟨k0, k1, k2, k3⟩ by unfold clayS; rw [HWY.out, if_neg h0, hmk])
    have HMK := Lib.hid hmk
    have hk1 := makeS_keeps (m := m + 4) (k := ⟨k0, k1, k2, k3⟩) HK.out
    rw [hmk] at hk1
    have HK1 := Lib.hid hk1
    clear hmk hk1
    go_enter Tryz.func50, Tryz.ntmps50
    go_wp2_with fail
    refine HSZ.out.mono ?_
    rintro e w2 ⟨hb2, rfl⟩
    have h2 := H1.out.keep hb2
    obtain ⟨y0, y1, y2, y3⟩ := imm_cells4 h2 HI1.out
    have hmk := make_spec ⟨k0, k1, k2, k3⟩ h2 HK.out
    rw [HMK.out] at hmk
    simp only [K4.val] at hmk
    have HMA := Lib.hid hmk
    clear hmk h2 hb2 x0 x1 x2 x3
    go_wp2_with fail
    refine HMA.out.mono ?_
    rintro e w3 ⟨I3, hs3, rfl, h3⟩
    clear y0 y1 y2 y3
    by_cases h1 : e1 = 0
    · subst h1
      obtain ⟨⟨e2, S2⟩, hwe⟩ : ∃ r, writeS S1 ⟨k0, k1, k2, k3⟩ off b = r := ⟨_, rfl⟩
      have HX2 := Lib.hid (HX.out.trans ((thenE_ok _ _).trans (show dropsE (writeS S1 ⟨k0, k1, k2, k3⟩ off b) ⟨k0, k1, k2, k3⟩ = dropsE (e2, S2) ⟨k0, k1, k2, k3⟩ by rw [hwe])))
      have hk2 := writeS_keeps (m := m + 2) (k := ⟨k0, k1, k2, k3⟩) (off := off) (p := b) HK1.out
      rw [hwe] at hk2
      have hI3 := hs3 _ _ HI1.out
      obtain ⟨y0, y1, y2, y3⟩ := imm_cells4 h3 hI3
      have hwr := write_spec ⟨k0, k1, k2, k3⟩ off _ b h3 HK1.out (bytes_src h3 ((bytesIP _ _).mono (HS1.out.trans hs3) HB.out)) (by omega)
      rw [hwe] at hwr
      simp only [K4.val] at hwr
      have HWR := Lib.hid hwr
      have HI3 := Lib.hid hI3
      have HS3 := Lib.hid (HS1.out.trans hs3)
      have HK2 := Lib.hid hk2
      clear hwr h3 hI3 hs3 hwe hk2
      go_wp2_with fail
      refine HWR.out.mono ?_
      rintro e w4 ⟨I4, hs4, rfl, h4⟩
      have hI4 := hs4 _ _ HI3.out
      obtain ⟨z0, z1, z2, z3⟩ := imm_cells4 h4 hI4
      have hdr := drops_spec ⟨k0, k1, k2, k3⟩ e2 h4 HK2.out
      simp only [K4.val] at hdr
      have HDR := Lib.hid hdr
      have HS4 := Lib.hid (HS3.out.trans hs4)
      clear hdr h4 hI4 hs4 y0 y1 y2 y3
      go_wp2_with fail
      refine HDR.out.mono ?_
      rintro e w5 ⟨I5, hs5, rfl, h5⟩
      have H5 := Lib.hid h5
      have HS5 := Lib.hid (HS4.out.trans hs5)
      clear h5 hs5 z0 z1 z2 z3
      go_wp2_with fail
      go_ret
      rw [HX2.out]
      exact ⟨I5, HS5.out, rfl, H5.out⟩
    · have d1 : (e1 != 0) = true := by simpa using h1
      have HX2 := Lib.hid (HX.out.trans (thenE_bad h1 _ _))
      have H3 := Lib.hid h3
      have HS3 := Lib.hid (HS1.out.trans hs3)
      clear h3 hs3
      go_wp2_with fail
      go_ret
      rw [HX2.out]
      exact ⟨I3, HS3.out, rfl, H3.out⟩
end
section
variable {W w : World} {I : Hp} {l : List HP} {p : Nat} {S : Str}
theorem lenAt_small {m : Nat} (hk : Inv S m) (k : K4) : 0 ≤ lenAt S k ∧ lenAt S k ≤ 1000000 := by
  unfold lenAt
  split
  · cases hg : get k S.seen with
    | none => simp
    | some t =>
      have := (hk.seen _ (get_mem hg)).1
      simp only at this ⊢
      omega
  · simp
set_option maxRecDepth 4000
set_option maxHeartbeats 8000000
theorem turn_spec (k : K4) (pv : Value) (b : List Int) {m : Nat} (h : St W I w (storeHP p S :: l)) (hk : Keeps S (m + 6)) (hb : BytesI I pv b) (hbl : b.length ≤ 1000000) :
    Calls Tryz.prog 58 #[.pointer (some ⟨p, 0, none⟩), k.val, pv] w (DoesE W I p l (turnS S k b)) := by
  obtain ⟨hn0, hn1⟩ := lenAt_small hk.inv k
  obtain ⟨k0, k1, k2, k3⟩ := k
  obtain ⟨I1, hs1, hI1, h1⟩ := (h.alloc (.cells #[.int .i64 k0, .int .i64 k1, .int .i64 k2, .int .i64 k3] 81)).freeze
  obtain ⟨x0, x1, x2, x3⟩ := imm_cells4 h1 hI1
  have hsz := size_of ⟨k0, k1, k2, k3⟩ h1
  obtain ⟨wy, hwy⟩ : ∃ y, whyS S ⟨k0, k1, k2, k3⟩ = y := ⟨_, rfl⟩
  obtain ⟨n, hn⟩ : ∃ y, lenAt S ⟨k0, k1, k2, k3⟩ = y := ⟨_, rfl⟩
  rw [hn] at hn0 hn1
  rw [hwy, hn] at hsz
  simp only [K4.val] at hsz ⊢
  have HB := Lib.hid hb
  obtain ⟨Ap, cp, rfl, _⟩ := hb
  have HSZ := Lib.hid hsz
  have H1 := Lib.hid h1
  have HS1 := Lib.hid hs1
  have HI1 := Lib.hid hI1
  have HK := Lib.hid hk
  have HWY := Lib.hid hwy
  have HN := Lib.hid hn
  clear h hsz h1 hs1 hI1 hk hwy hn
  by_cases hb0 : b = []
  · subst hb0
    have dl : ((([] : List Int).length : Int) == 0) = true := rfl
    by_cases h0 : wy = 0
    · subst h0
      have HX := Lib.hid (show turnS S ⟨k0, k1, k2, k3⟩ [] = dropS S ⟨k0, k1, k2, k3⟩ by unfold turnS; rw [if_pos rfl, if_pos HWY.out])
      go_enter Tryz.func58, Tryz.ntmps58
      go_wp2_with fail
      refine HSZ.out.mono ?_
      rintro e w2 ⟨hb2, rfl⟩
      have h2 := H1.out.keep hb2
      obtain ⟨y0, y1, y2, y3⟩ := imm_cells4 h2 HI1.out
      have hdr := drop_spec ⟨k0, k1, k2, k3⟩ h2 HK.out
      simp only [K4.val] at hdr
      have HDR := Lib.hid hdr
      clear hdr h2 hb2 x0 x1 x2 x3
      go_wp2_with fail
      refine HDR.out.mono ?_
      rintro e w3 ⟨I3, hs3, rfl, h3⟩
      have H3 := Lib.hid h3
      have HS3 := Lib.hid (HS1.out.trans hs3)
      clear h3 hs3 y0 y1 y2 y3
      go_wp2_with fail
      go_ret
      rw [HX.out]
      exact ⟨I3, HS3.out, rfl, H3.out⟩
    · have d0 : (wy != 0) = true := by simpa using h0
      have HX := Lib.hid (show turnS S ⟨k0, k1, k2, k3⟩ [] = (0, S) by unfold turnS; rw [if_pos rfl, HWY.out, if_neg h0])
      go_enter Tryz.func58, Tryz.ntmps58
      go_wp2_with fail
      refine HSZ.out.mono ?_
      rintro e w2 ⟨hb2, rfl⟩
      have H2 := Lib.hid (H1.out.keep hb2)
      clear hb2 x0 x1 x2 x3
      go_wp2_with fail
      go_ret
      rw [HX.out]
      exact ⟨I1, HS1.out, rfl, H2.out⟩
  · have hpos : 0 < b.length := List.length_pos_iff.2 hb0
    have dl : ((b.length : Int) == 0) = false := by rw [beq_eq_false_iff_ne]; omega
    by_cases h0 : wy = 0
    · subst h0
      have hsub : IntKind.i64.wrap ((b.length : Int) - n) = (b.length : Int) - n := by rw [IntKind.wrap_i64]; omega
      by_cases hfull : roomS S < b.length - n
      · have d1 : decide (roomS S < (b.length : Int) - n) = true := by simpa using hfull
        have HX := Lib.hid (show turnS S ⟨k0, k1, k2, k3⟩ b = (6, S) by unfold turnS; rw [if_neg hb0, if_neg (by simp [HWY.out]), HN.out, if_pos hfull])
        go_enter Tryz.func58, Tryz.ntmps58
        go_wp2_with fail
        refine HSZ.out.mono ?_
        rintro e w2 ⟨hb2, rfl⟩
        have h2 := H1.out.keep hb2
        have hlf := left_of h2
        rw [show max 0 (wrap64 (S.room - S.used)) = roomS S from rfl] at hlf
        have HLF := Lib.hid hlf
        have H2 := Lib.hid h2
        clear hlf h2 hb2 x0 x1 x2 x3
        go_wp2_with fail
        refine HLF.out.mono ?_
        rintro e w3 ⟨rfl, hb3⟩
        have H3 := Lib.hid (H2.out.keep hb3)
        clear hb3
        go_wp2_with fail
        go_ret
        rw [HX.out]
        exact ⟨I1, HS1.out, rfl, H3.out⟩
      · have d1 : decide (roomS S < (b.length : Int) - n) = false := by simpa using hfull
        by_cases hsh : (b.length : Int) < n
        · have d2 : decide ((b.length : Int) < n) = true := by simpa using hsh
          obtain ⟨⟨e1, S1⟩, htr⟩ : ∃ r, trimS S ⟨k0, k1, k2, k3⟩ b.length = r := ⟨_, rfl⟩
          have HX := Lib.hid (show turnS S ⟨k0, k1, k2, k3⟩ b = thenE (e1, S1) fun S1 => writeS S1 ⟨k0, k1, k2, k3⟩ 0 b by unfold turnS; rw [if_neg hb0, if_neg (by simp [HWY.out]), HN.out, if_neg hfull, if_pos hsh, htr])
          have hk1 := trimS_keeps (m := m + 4) (k := ⟨k0, k1, k2, k3⟩) (n := b.length) HK.out
          rw [htr] at hk1
          have HK1 := Lib.hid hk1
          have HTR := Lib.hid htr
          clear hk1 htr
          go_enter Tryz.func58, Tryz.ntmps58
          go_wp2_with fail
          refine HSZ.out.mono ?_
          rintro e w2 ⟨hb2, rfl⟩
          have h2 := H1.out.keep hb2
          have hlf := left_of h2
          rw [show max 0 (wrap64 (S.room - S.used)) = roomS S from rfl] at hlf
          have HLF := Lib.hid hlf
          have H2 := Lib.hid h2
          clear hlf h2 hb2 x0 x1 x2 x3
          go_wp2_with fail
          refine HLF.out.mono ?_
          rintro e w3 ⟨rfl, hb3⟩
          have h3 := H2.out.keep hb3
          obtain ⟨y0, y1, y2, y3⟩ := imm_cells4 h3 HI1.out
          have htm := trim_spec ⟨k0, k1, k2, k3⟩ b.length h3 HK.out
          rw [HTR.out] at htm
          simp only [K4.val] at htm
          have HTM := Lib.hid htm
          clear hb3 h3 htm
          go_wp2_with fail
          refine HTM.out.mono ?_
          rintro e w4 ⟨I4, hs4, rfl, h4⟩
          by_cases he : e1 = 0
          · subst he
            have HX2 := Lib.hid (HX.out.trans (thenE_ok _ _))
            obtain ⟨z0, z1, z2, z3⟩ := imm_cells4 h4 (hs4 _ _ HI1.out)
            have hwr := write_spec ⟨k0, k1, k2, k3⟩ 0 _ b h4 HK1.out (bytes_src h4 ((bytesIP _ _).mono (HS1.out.trans hs4) HB.out)) (by omega)
            simp only [K4.val] at hwr
            have HWR := Lib.hid hwr
            have HS4 := Lib.hid (HS1.out.trans hs4)
            clear hwr h4 hs4 y0 y1 y2 y3
            go_wp2_with fail
            refine HWR.out.mono ?_
            rintro e w5 ⟨I5, hs5, rfl, h5⟩
            have H5 := Lib.hid h5
            have HS5 := Lib.hid (HS4.out.trans hs5)
            clear h5 hs5 z0 z1 z2 z3
            go_wp2_with fail
            go_ret
            rw [HX2.out]
            exact ⟨I5, HS5.out, rfl, H5.out⟩
          · have de : (e1 != 0) = true := by simpa using he
            have HX2 := Lib.hid (HX.out.trans (thenE_bad he _ _))
            have H4 := Lib.hid h4
            have HS4 := Lib.hid (HS1.out.trans hs4)
            clear h4 hs4 y0 y1 y2 y3
            go_wp2_with fail
            go_ret
            rw [HX2.out]
            exact ⟨I4, HS4.out, rfl, H4.out⟩
        · have d2 : decide ((b.length : Int) < n) = false := by simpa using hsh
          have HX := Lib.hid (show turnS S ⟨k0, k1, k2, k3⟩ b = writeS S ⟨k0, k1, k2, k3⟩ 0 b by unfold turnS; rw [if_neg hb0, if_neg (by simp [HWY.out]), HN.out, if_neg hfull, if_neg hsh])
          go_enter Tryz.func58, Tryz.ntmps58
          go_wp2_with fail
          refine HSZ.out.mono ?_
          rintro e w2 ⟨hb2, rfl⟩
          have h2 := H1.out.keep hb2
          have hlf := left_of h2
          rw [show max 0 (wrap64 (S.room - S.used)) = roomS S from rfl] at hlf
          have HLF := Lib.hid hlf
          have H2 := Lib.hid h2
          clear hlf h2 hb2 x0 x1 x2 x3
          go_wp2_with fail
          refine HLF.out.mono ?_
          rintro e w3 ⟨rfl, hb3⟩
          have h3 := H2.out.keep hb3
          obtain ⟨y0, y1, y2, y3⟩ := imm_cells4 h3 HI1.out
          have hwr := write_spec ⟨k0, k1, k2, k3⟩ 0 _ b h3 HK.out (bytes_src h3 ((bytesIP _ _).mono HS1.out HB.out)) (by omega)
          simp only [K4.val] at hwr
          have HWR := Lib.hid hwr
          clear hwr h3 hb3
          go_wp2_with fail
          refine HWR.out.mono ?_
          rintro e w5 ⟨I5, hs5, rfl, h5⟩
          have H5 := Lib.hid h5
          have HS5 := Lib.hid (HS1.out.trans hs5)
          clear h5 hs5 y0 y1 y2 y3
          go_wp2_with fail
          go_ret
          rw [HX.out]
          exact ⟨I5, HS5.out, rfl, H5.out⟩
    · have d0 : (wy != 0) = true := by simpa using h0
      have HX := Lib.hid (show turnS S ⟨k0, k1, k2, k3⟩ b = clayS S ⟨k0, k1, k2, k3⟩ 0 b by unfold turnS; rw [if_neg hb0, HWY.out, if_pos h0])
      go_enter Tryz.func58, Tryz.ntmps58
      go_wp2_with fail
      refine HSZ.out.mono ?_
      rintro e w2 ⟨hb2, rfl⟩
      have h2 := H1.out.keep hb2
      obtain ⟨y0, y1, y2, y3⟩ := imm_cells4 h2 HI1.out
      have hly := clay_spec ⟨k0, k1, k2, k3⟩ 0 _ b h2 HK.out ((bytesIP _ _).mono HS1.out HB.out) hbl
      simp only [K4.val] at hly
      have HLY := Lib.hid hly
      clear hly h2 hb2 x0 x1 x2 x3
      go_wp2_with fail
      refine HLY.out.mono ?_
      rintro e w3 ⟨I3, hs3, rfl, h3⟩
      have H3 := Lib.hid h3
      have HS3 := Lib.hid (HS1.out.trans hs3)
      clear h3 hs3 y0 y1 y2 y3
      go_wp2_with fail
      go_ret
      rw [HX.out]
      exact ⟨I3, HS3.out, rfl, H3.out⟩
end
section
variable {W w : World} {I : Hp} {l : List HP} {p : Nat} {S : Str}
set_option maxRecDepth 4000
set_option maxHeartbeats 8000000
/-- From region 17 on: the copy is whole, and dry. -/
theorem save_set {a b c : Code} {Q : Exit → Act → World → Prop} {K K2 : Act → World → Prop} (hK : ∀ x y, b.wp Tryz.prog (Exit.then K2 Q) x y → K x y) (hK2 : ∀ x y, c.wp Tryz.prog Q x y → K2 x y) (hC : (Tryz.f66).body.bind (fromS 17) = some (.seq (.seq a b) c)) {x1 x2 x3 x4 x5 x6 x7 x8 x10 x11 x12 x13 x14 x16 x17 x18 x19 x20 x21 x22 x23 x24 x25 x26 x27 x28 x29 x30 x31 x32 x33 x34 x35 x36 x37 x38 x39 x40 x41 x42 x43 x44 x45 x46 x47 x48 x49 x50 x51 x52 x53 x54 x55 x56 x57 x58 x59 x60 x61 x62 x63 x64 x65 x66 x67 x68 x69 x70 x71 x72 x73 x74 x75 x76 x77 x78 x79 : Value} (k : K4) (st : Int) {gk : Nat} {m : Nat}
    (h : St W I w (storeHP p S :: l)) (hk : Keeps S (m + 4)) (hI : I gk = some (.cells #[.int .i64 k.kind, .int .i64 k.img, .int .i64 k.num, .int .i64 k.snap] 81))
    (hQ : ∀ (y0 y1 y2 y3 y4 y5 y6 y7 y9 y10 y11 y12 y13 y14 y15 y16 y17 y18 y19 y20 y21 y22 y23 y24 y25 y26 y27 y28 y29 y30 y31 y32 y33 y34 y35 y36 y37 y38 y39 y40 y41 y42 y43 y44 y45 y46 y47 y48 y49 y50 y51 y52 y53 y54 y55 y56 y57 y58 y59 y60 y61 y62 y63 y64 y65 y66 y67 y68 y69 y70 y71 y72 y73 y74 y75 y76 y77 y78 y79 : Value) (I' : Hp) (w' : World), I.sub I' → St W I' w' (storeHP p (saveC S k st).2 :: l) → Q .ret ⟨#[y0, y1, y2, y3, y4, y5, y6, y7, .int .i64 (saveC S k st).1, y9, y10, y11, y12, y13, y14, y15, y16, y17, y18, y19, y20, y21, y22, y23, y24, y25, y26, y27, y28, y29, y30, y31, y32, y33, y34, y35, y36, y37, y38, y39, y40, y41, y42, y43, y44, y45, y46, y47, y48, y49, y50, y51, y52, y53, y54, y55, y56, y57, y58, y59, y60, y61, y62, y63, y64, y65, y66, y67, y68, y69, y70, y71, y72, y73, y74, y75, y76, y77, y78, y79], []⟩ w') :
    a.wp Tryz.prog (Exit.then K (Exit.then K2 Q)) ⟨#[.pointer (some ⟨p, 0, none⟩), x1, x2, x3, x4, x5, x6, x7, x8, .pointer (some ⟨gk, 0, none⟩), x10, x11, x12, x13, x14, .int .u8 st, x16, x17, x18, x19, x20, x21, x22, x23, x24, x25, x26, x27, x28, x29, x30, x31, x32, x33, x34, x35, x36, x37, x38, x39, x40, x41, x42, x43, x44, x45, x46, x47, x48, x49, x50, x51, x52, x53, x54, x55, x56, x57, x58, x59, x60, x61, x62, x63, x64, x65, x66, x67, x68, x69, x70, x71, x72, x73, x74, x75, x76, x77, x78, x79], []⟩ w := by
  injection hC with hC
  injection hC with hC hC3
  injection hC with hC1 hC2
  subst hC1 hC2 hC3
  obtain ⟨k0, k1, k2, k3⟩ := k
  simp only at hI
  obtain ⟨x0, x1, x2, x3⟩ := imm_cells4 h hI
  have ltk := h.imm_lt hI
  have h1 := h.alloc (.cells #[.int .u8 st] 5)
  have hst := set_spec ⟨k0, k1, k2, k3⟩ nmW _ [st] (h1.pull 1 _ rfl) hk (lit_src w #[.int .u8 st] [st] 1 (0, 0) rfl rfl) (by simp)
  obtain ⟨⟨e1, S1⟩, hse⟩ : ∃ r, setS S ⟨k0, k1, k2, k3⟩ nmW [st] = r := ⟨_, rfl⟩
  have HX := Lib.hid (show saveC S ⟨k0, k1, k2, k3⟩ st = if e1 = 0 then barrierS S1 else dropsE (e1, S1) ⟨k0, k1, k2, k3⟩ by unfold saveC; rw [hse])
  have hk1 := setS_keeps (m := m + 2) (k := ⟨k0, k1, k2, k3⟩) (nm := nmW) (v := [st]) hk
  rw [hse] at hst hk1
  simp only [K4.val, nmW] at hst
  have HST := Lib.hid hst
  have HQ := Lib.hid hQ
  have HI := Lib.hid hI
  have HK1 := Lib.hid hk1
  clear h hk hI h1 hst hse hk1 hQ
  go_wp2_with fail
  refine HST.out.mono ?_
  rintro e w2 ⟨I2, hs2, rfl, h2⟩
  have h2 := (h2.pull 1 _ rfl).drop
  have hI2 := hs2 _ _ HI.out
  by_cases he : e1 = 0
  · subst he
    have HX2 := Lib.hid (HX.out.trans (if_pos rfl))
    have hba := barrier_spec h2 HK1.out
    have HBA := Lib.hid hba
    have HS2 := Lib.hid hs2
    clear hba h2 hs2 hI2 x0 x1 x2 x3
    go_wp2_with fail
    refine HBA.out.mono ?_
    rintro e w3 ⟨I3, hs3, rfl, h3⟩
    have H3 := Lib.hid h3
    have HS3 := Lib.hid (HS2.out.trans hs3)
    clear h3 hs3
    go_wp2_with fail
    have hq := HQ.out
    rw [HX2.out] at hq
    exact hq _ _ _ _ _ _ _ _ _ _ _ _ _ _ _ _ _ _ _ _ _ _ _ _ _ _ _ _ _ _ _ _ _ _ _ _ _ _ _ _ _ _ _ _ _ _ _ _ _ _ _ _ _ _ _ _ _ _ _ _ _ _ _ _ _ _ _ _ _ _ _ _ _ _ _ _ _ _ _ I3 _ HS3.out H3.out
  · have de : (e1 != 0) = true := by simpa using he
    have HX2 := Lib.hid (HX.out.trans (if_neg he))
    obtain ⟨y0, y1, y2, y3⟩ := imm_cells4 h2 hI2
    have hdr := drops_spec ⟨k0, k1, k2, k3⟩ e1 h2 HK1.out
    simp only [K4.val] at hdr
    have HDR := Lib.hid hdr
    have HS2 := Lib.hid hs2
    clear hdr h2 hs2 hI2 x0 x1 x2 x3
    go_wp2_with fail
    refine HDR.out.mono ?_
    rintro e w3 ⟨I3, hs3, rfl, h3⟩
    have H3 := Lib.hid h3
    have HS3 := Lib.hid (HS2.out.trans hs3)
    clear h3 hs3 y0 y1 y2 y3
    go_wp2_with fail
    have hq := HQ.out
    rw [HX2.out] at hq
    exact hq _ _ _ _ _ _ _ _ _ _ _ _ _ _ _ _ _ _ _ _ _ _ _ _ _ _ _ _ _ _ _ _ _ _ _ _ _ _ _ _ _ _ _ _ _ _ _ _ _ _ _ _ _ _ _ _ _ _ _ _ _ _ _ _ _ _ _ _ _ _ _ _ _ _ _ _ _ _ _ I3 _ HS3.out H3.out
/-- From region 10 on: what the head is, laid. -/
theorem save_lay {a b : Code} {Q : Exit → Act → World → Prop} {K : Act → World → Prop} (hK : ∀ x y, b.wp Tryz.prog Q x y → K x y) (hC : (Tryz.f66).body.bind (fromR 10) = some (.seq a b)) {x1 x2 x3 x4 x5 x6 x7 x8 x11 x12 x13 x14 x15 x16 x17 x18 x19 x20 x21 x22 x23 x24 x25 x26 x27 x28 x29 x30 x31 x32 x33 x34 x35 x36 x37 x38 x39 x40 x41 x42 x43 x44 x45 x46 x47 x48 x49 x50 x51 x52 x53 x54 x55 x56 x57 x58 x59 x60 x61 x62 x63 x64 x65 x66 x67 x68 x69 x70 x71 x72 x73 x74 x75 x76 x77 x78 x79 : Value} (k hd : K4) {gk gh : Nat} {m : Nat}
    (h : St W I w (storeHP p S :: l)) (hk : Keeps S (m + 6)) (hI : I gk = some (.cells #[.int .i64 k.kind, .int .i64 k.img, .int .i64 k.num, .int .i64 k.snap] 81)) (hJ : I gh = some (.cells #[.int .i64 hd.kind, .int .i64 hd.img, .int .i64 hd.num, .int .i64 hd.snap] 81))
    (hQ : ∀ (y0 y1 y2 y3 y4 y5 y6 y7 y9 y10 y11 y12 y13 y14 y15 y16 y17 y18 y19 y20 y21 y22 y23 y24 y25 y26 y27 y28 y29 y30 y31 y32 y33 y34 y35 y36 y37 y38 y39 y40 y41 y42 y43 y44 y45 y46 y47 y48 y49 y50 y51 y52 y53 y54 y55 y56 y57 y58 y59 y60 y61 y62 y63 y64 y65 y66 y67 y68 y69 y70 y71 y72 y73 y74 y75 y76 y77 y78 y79 : Value) (I' : Hp) (w' : World), I.sub I' → St W I' w' (storeHP p (saveD S k hd).2 :: l) → Q .ret ⟨#[y0, y1, y2, y3, y4, y5, y6, y7, .int .i64 (saveD S k hd).1, y9, y10, y11, y12, y13, y14, y15, y16, y17, y18, y19, y20, y21, y22, y23, y24, y25, y26, y27, y28, y29, y30, y31, y32, y33, y34, y35, y36, y37, y38, y39, y40, y41, y42, y43, y44, y45, y46, y47, y48, y49, y50, y51, y52, y53, y54, y55, y56, y57, y58, y59, y60, y61, y62, y63, y64, y65, y66, y67, y68, y69, y70, y71, y72, y73, y74, y75, y76, y77, y78, y79], []⟩ w') :
    a.wp Tryz.prog (Exit.then K Q) ⟨#[.pointer (some ⟨p, 0, none⟩), x1, x2, x3, x4, x5, x6, x7, x8, .pointer (some ⟨gk, 0, none⟩), .pointer (some ⟨gh, 0, none⟩), x11, x12, x13, x14, x15, x16, x17, x18, x19, x20, x21, x22, x23, x24, x25, x26, x27, x28, x29, x30, x31, x32, x33, x34, x35, x36, x37, x38, x39, x40, x41, x42, x43, x44, x45, x46, x47, x48, x49, x50, x51, x52, x53, x54, x55, x56, x57, x58, x59, x60, x61, x62, x63, x64, x65, x66, x67, x68, x69, x70, x71, x72, x73, x74, x75, x76, x77, x78, x79], []⟩ w := by
  injection hC with hC
  injection hC with hC1 hC2
  subst hC1 hC2
  obtain ⟨k0, k1, k2, k3⟩ := k
  obtain ⟨j0, j1, j2, j3⟩ := hd
  simp only at hI hJ
  obtain ⟨x0, x1, x2, x3⟩ := imm_cells4 h hI
  obtain ⟨y0, y1, y2, y3⟩ := imm_cells4 h hJ
  have hsz := size_of ⟨j0, j1, j2, j3⟩ h
  obtain ⟨wy, hwy⟩ : ∃ y, whyS S ⟨j0, j1, j2, j3⟩ = y := ⟨_, rfl⟩
  rw [hwy] at hsz
  simp only [K4.val] at hsz
  have HSZ := Lib.hid hsz
  have H := Lib.hid h
  have HK := Lib.hid hk
  have HI := Lib.hid hI
  have HJ := Lib.hid hJ
  have HQ := Lib.hid hQ
  have HWY := Lib.hid hwy
  clear h hsz hk hI hJ hQ hwy
  by_cases h0 : wy = 0
  · subst h0
    obtain ⟨⟨e1, S1⟩, hap⟩ : ∃ r, appendS S ⟨k0, k1, k2, k3⟩ (allS S ⟨j0, j1, j2, j3⟩) = r := ⟨_, rfl⟩
    have hB : saveB S ⟨k0, k1, k2, k3⟩ ⟨j0, j1, j2, j3⟩ = (e1, S1) := by unfold saveB; rw [if_pos HWY.out, hap]
    have hsS : stateS S ⟨j0, j1, j2, j3⟩ = 1 := by unfold stateS; rw [if_pos HWY.out]
    have HX := Lib.hid (show saveD S ⟨k0, k1, k2, k3⟩ ⟨j0, j1, j2, j3⟩ = if e1 = 0 then saveC S1 ⟨k0, k1, k2, k3⟩ 1 else dropsE (e1, S1) ⟨k0, k1, k2, k3⟩ by unfold saveD; rw [hB, hsS])
    have hk1 := appendS_keeps (m := m + 4) (k := ⟨k0, k1, k2, k3⟩) (p := allS S ⟨j0, j1, j2, j3⟩) HK.out
    rw [hap] at hk1
    have HK1 := Lib.hid hk1
    have HAP := Lib.hid hap
    clear hB hsS hk1 hap
    go_wp2_with fail
    refine HSZ.out.mono ?_
    rintro e w2 ⟨hb2, rfl⟩
    have h2 := (H.out.keep hb2).drew
    obtain ⟨z0, z1, z2, z3⟩ := imm_cells4 h2 HI.out
    obtain ⟨u0, u1, u2, u3⟩ := imm_cells4 h2 HJ.out
    have hal := all_spec ⟨j0, j1, j2, j3⟩ h2 HK.out.inv
    simp only [K4.val] at hal
    have HAL := Lib.hid hal
    have H2 := Lib.hid h2
    clear hal h2 hb2 x0 x1 x2 x3 y0 y1 y2 y3
    go_wp2_with fail
    refine wp_region_keep (fun w' => w'.cell? ⟨gk, 0, none⟩ = some (.int .i64 k0) ∧ w'.cell? ⟨gk, 1, none⟩ = some (.int .i64 k1) ∧ w'.cell? ⟨gk, 2, none⟩ = some (.int .i64 k2) ∧ w'.cell? ⟨gk, 3, none⟩ = some (.int .i64 k3) ∧ w'.cell? ⟨gh, 0, none⟩ = some (.int .i64 j0) ∧ w'.cell? ⟨gh, 1, none⟩ = some (.int .i64 j1) ∧ w'.cell? ⟨gh, 2, none⟩ = some (.int .i64 j2) ∧ w'.cell? ⟨gh, 3, none⟩ = some (.int .i64 j3)) [0, 1, 2, 3] [4] [5, 6] (by kernel_rfl) (by kernel_rfl) (by (exact ⟨z0, z1, z2, z3, u0, u1, u2, u3⟩)) ?_
    simp only [pickL, List.getElem?_cons_zero, List.getElem?_cons_succ]
    repeat (refine wpFirst_step _ (Or.inl ⟨by rfl, by (intro w hSw; (try dsimp only at hSw); go_simp; try with_reducible rfl)⟩) ?_; (try simp only [Act.put, List.setIfInBounds_toArray, List.set_cons_zero, List.set_cons_succ]))
    refine wpFirst_nil ?_
    unfold wpHold
    go_wp2_with fail
    refine HAL.out.mono ?_
    rintro e w3 ⟨hb3, v3, rfl, ho3⟩
    have h3 := H2.out.keep hb3
    obtain ⟨Aq, cq, rfl⟩ := is_slice ho3
    obtain ⟨q0, q1, q2, q3⟩ := imm_cells4 h3 HI.out
    obtain ⟨r0, r1, r2, r3⟩ := imm_cells4 h3 HJ.out
    have hall : (allS S ⟨j0, j1, j2, j3⟩).length ≤ 1000000 := by
      have := (ho3.1)
      rw [List.length_map, Nat.mul_one] at this
      unfold allS readS
      split
      · split
        · simp
        · rename_i t hg
          split
          · simp
          · have h5 := (HK.out.inv.seen _ (get_mem hg)).1
            simp only [List.length_take, List.length_drop] at h5 ⊢
            omega
      · simp
    have hap := append_spec ⟨k0, k1, k2, k3⟩ _ (allS S ⟨j0, j1, j2, j3⟩) h3 HK.out (SliceSrc.of_owns ho3 (bytes_one _)) (by omega)
    rw [HAP.out] at hap
    simp only [K4.val] at hap
    have HAA := Lib.hid hap
    clear hap h3 hb3 ho3 hall z0 z1 z2 z3 u0 u1 u2 u3
    go_wp2_with fail
    refine holdPost_normal ⟨q0, q1, q2, q3, r0, r1, r2, r3⟩ ?_
    unfold wpHold
    clear q0 q1 q2 q3 r0 r1 r2 r3
    go_wp2_with fail
    refine HAA.out.mono ?_
    rintro e w4 ⟨I4, hs4, rfl, h4⟩
    have hI4 := hs4 _ _ HI.out
    by_cases he : e1 = 0
    · subst he
      have HX2 := Lib.hid (HX.out.trans (if_pos rfl))
      have H4 := Lib.hid h4
      have HS4 := Lib.hid hs4
      have HI4 := Lib.hid hI4
      clear h4 hs4 hI4
      go_wp2_with fail
      refine NoPanic.normal ?_
      go_upto_region 17 with fail
      refine save_set (by assumption) (by assumption) (by kernel_rfl) ⟨k0, k1, k2, k3⟩ 1 H4.out HK1.out HI4.out ?_
      intro y0 y1 y2 y3 y4 y5 y6 y7 y9 y10 y11 y12 y13 y14 y15 y16 y17 y18 y19 y20 y21 y22 y23 y24 y25 y26 y27 y28 y29 y30 y31 y32 y33 y34 y35 y36 y37 y38 y39 y40 y41 y42 y43 y44 y45 y46 y47 y48 y49 y50 y51 y52 y53 y54 y55 y56 y57 y58 y59 y60 y61 y62 y63 y64 y65 y66 y67 y68 y69 y70 y71 y72 y73 y74 y75 y76 y77 y78 y79 I5 w5 hs5 h5
      have hq := HQ.out
      rw [HX2.out] at hq
      exact hq _ _ _ _ _ _ _ _ _ _ _ _ _ _ _ _ _ _ _ _ _ _ _ _ _ _ _ _ _ _ _ _ _ _ _ _ _ _ _ _ _ _ _ _ _ _ _ _ _ _ _ _ _ _ _ _ _ _ _ _ _ _ _ _ _ _ _ _ _ _ _ _ _ _ _ _ _ _ _ I5 _ (HS4.out.trans hs5) h5
    · have de : (e1 != 0) = true := by simpa using he
      have HX2 := Lib.hid (HX.out.trans (if_neg he))
      obtain ⟨z0, z1, z2, z3⟩ := imm_cells4 h4 hI4
      have hdr := drops_spec ⟨k0, k1, k2, k3⟩ e1 h4 (HK1.out.fewer (show m + 2 + 2 ≤ m + 4 by omega))
      simp only [K4.val] at hdr
      have HDR := Lib.hid hdr
      have HS4 := Lib.hid hs4
      clear hdr h4 hs4 hI4
      go_wp2_with fail
      refine NoPanic.normal ?_
      go_wp2_with fail
      refine HDR.out.mono ?_
      rintro e w5 ⟨I5, hs5, rfl, h5⟩
      have H5 := Lib.hid h5
      have HS5 := Lib.hid (HS4.out.trans hs5)
      clear h5 hs5 z0 z1 z2 z3
      go_wp2_with fail
      have hq := HQ.out
      rw [HX2.out] at hq
      exact hq _ _ _ _ _ _ _ _ _ _ _ _ _ _ _ _ _ _ _ _ _ _ _ _ _ _ _ _ _ _ _ _ _ _ _ _ _ _ _ _ _ _ _ _ _ _ _ _ _ _ _ _ _ _ _ _ _ _ _ _ _ _ _ _ _ _ _ _ _ _ _ _ _ _ _ _ _ _ _ I5 _ HS5.out H5.out
  · have d0 : (wy == 0) = false := by simpa using h0
    have hB : saveB S ⟨k0, k1, k2, k3⟩ ⟨j0, j1, j2, j3⟩ = (0, S) := by unfold saveB; rw [HWY.out, if_neg h0]
    have hsS : stateS S ⟨j0, j1, j2, j3⟩ = 2 := by unfold stateS; rw [HWY.out, if_neg h0]
    have HX := Lib.hid (show saveD S ⟨k0, k1, k2, k3⟩ ⟨j0, j1, j2, j3⟩ = saveC S ⟨k0, k1, k2, k3⟩ 2 by unfold saveD; rw [hB, hsS, if_pos rfl])
    clear hB hsS
    go_wp2_with fail
    refine HSZ.out.mono ?_
    rintro e w2 ⟨hb2, rfl⟩
    have H2 := Lib.hid (H.out.keep hb2)
    clear hb2 x0 x1 x2 x3 y0 y1 y2 y3
    go_upto_region 17 with fail
    refine save_set (by assumption) (by assumption) (by kernel_rfl) ⟨k0, k1, k2, k3⟩ 2 H2.out (HK.out.fewer (show m + 4 ≤ m + 6 by omega)) HI.out ?_
    intro y0 y1 y2 y3 y4 y5 y6 y7 y9 y10 y11 y12 y13 y14 y15 y16 y17 y18 y19 y20 y21 y22 y23 y24 y25 y26 y27 y28 y29 y30 y31 y32 y33 y34 y35 y36 y37 y38 y39 y40 y41 y42 y43 y44 y45 y46 y47 y48 y49 y50 y51 y52 y53 y54 y55 y56 y57 y58 y59 y60 y61 y62 y63 y64 y65 y66 y67 y68 y69 y70 y71 y72 y73 y74 y75 y76 y77 y78 y79 I5 w5 hs5 h5
    have hq := HQ.out
    rw [HX.out] at hq
    exact hq _ _ _ _ _ _ _ _ _ _ _ _ _ _ _ _ _ _ _ _ _ _ _ _ _ _ _ _ _ _ _ _ _ _ _ _ _ _ _ _ _ _ _ _ _ _ _ _ _ _ _ _ _ _ _ _ _ _ _ _ _ _ _ _ _ _ _ _ _ _ _ _ _ _ _ _ _ _ _ I5 _ hs5 h5
end
section
variable {W w : World} {I : Hp} {l : List HP} {p : Nat} {S : Str}
set_option maxRecDepth 4000
set_option maxHeartbeats 8000000
/-- From region 7 on: the copy is made. -/
theorem save_make {a b c : Code} {Q : Exit → Act → World → Prop} {K K2 : Act → World → Prop} (hK : ∀ x y, b.wp Tryz.prog (Exit.then K2 Q) x y → K x y) (hK2 : ∀ x y, c.wp Tryz.prog Q x y → K2 x y) (hC : (Tryz.f66).body.bind (fromS 7) = some (.seq (.seq a b) c)) {x1 x2 x3 x4 x5 x6 x7 x8 x11 x12 x13 x14 x15 x16 x17 x18 x19 x20 x21 x22 x23 x24 x25 x26 x27 x28 x29 x30 x31 x32 x33 x34 x35 x36 x37 x38 x39 x40 x41 x42 x43 x44 x45 x46 x47 x48 x49 x50 x51 x52 x53 x54 x55 x56 x57 x58 x59 x60 x61 x62 x63 x64 x65 x66 x67 x68 x69 x70 x71 x72 x73 x74 x75 x76 x77 x78 x79 : Value} (k hd : K4) {gk gh : Nat} {m : Nat}
    (h : St W I w (storeHP p S :: l)) (hk : Keeps S (m + 8)) (hI : I gk = some (.cells #[.int .i64 k.kind, .int .i64 k.img, .int .i64 k.num, .int .i64 k.snap] 81)) (hJ : I gh = some (.cells #[.int .i64 hd.kind, .int .i64 hd.img, .int .i64 hd.num, .int .i64 hd.snap] 81))
    (hQ : ∀ (y0 y1 y2 y3 y4 y5 y6 y7 y9 y10 y11 y12 y13 y14 y15 y16 y17 y18 y19 y20 y21 y22 y23 y24 y25 y26 y27 y28 y29 y30 y31 y32 y33 y34 y35 y36 y37 y38 y39 y40 y41 y42 y43 y44 y45 y46 y47 y48 y49 y50 y51 y52 y53 y54 y55 y56 y57 y58 y59 y60 y61 y62 y63 y64 y65 y66 y67 y68 y69 y70 y71 y72 y73 y74 y75 y76 y77 y78 y79 : Value) (I' : Hp) (w' : World), I.sub I' → St W I' w' (storeHP p (thenE (makeS S k) fun S2 => saveD S2 k hd).2 :: l) → Q .ret ⟨#[y0, y1, y2, y3, y4, y5, y6, y7, .int .i64 (thenE (makeS S k) fun S2 => saveD S2 k hd).1, y9, y10, y11, y12, y13, y14, y15, y16, y17, y18, y19, y20, y21, y22, y23, y24, y25, y26, y27, y28, y29, y30, y31, y32, y33, y34, y35, y36, y37, y38, y39, y40, y41, y42, y43, y44, y45, y46, y47, y48, y49, y50, y51, y52, y53, y54, y55, y56, y57, y58, y59, y60, y61, y62, y63, y64, y65, y66, y67, y68, y69, y70, y71, y72, y73, y74, y75, y76, y77, y78, y79], []⟩ w') :
    a.wp Tryz.prog (Exit.then K (Exit.then K2 Q)) ⟨#[.pointer (some ⟨p, 0, none⟩), x1, x2, x3, x4, x5, x6, x7, x8, .pointer (some ⟨gk, 0, none⟩), .pointer (some ⟨gh, 0, none⟩), x11, x12, x13, x14, x15, x16, x17, x18, x19, x20, x21, x22, x23, x24, x25, x26, x27, x28, x29, x30, x31, x32, x33, x34, x35, x36, x37, x38, x39, x40, x41, x42, x43, x44, x45, x46, x47, x48, x49, x50, x51, x52, x53, x54, x55, x56, x57, x58, x59, x60, x61, x62, x63, x64, x65, x66, x67, x68, x69, x70, x71, x72, x73, x74, x75, x76, x77, x78, x79], []⟩ w := by
  injection hC with hC
  injection hC with hC hC3
  injection hC with hC1 hC2
  subst hC1 hC2 hC3
  obtain ⟨k0, k1, k2, k3⟩ := k
  simp only at hI
  obtain ⟨x0, x1, x2, x3⟩ := imm_cells4 h hI
  have hmk := make_spec ⟨k0, k1, k2, k3⟩ h hk
  obtain ⟨⟨e1, S1⟩, hme⟩ : ∃ r, makeS S ⟨k0, k1, k2, k3⟩ = r := ⟨_, rfl⟩
  have hk1 := makeS_keeps (m := m + 6) (k := ⟨k0, k1, k2, k3⟩) hk
  rw [hme] at hmk hk1
  rw [hme] at hQ
  simp only [K4.val] at hmk
  have HMK := Lib.hid hmk
  have HI := Lib.hid hI
  have HJ := Lib.hid hJ
  have HQ := Lib.hid hQ
  have HK1 := Lib.hid hk1
  clear h hk hmk hme hI hJ hQ hk1
  go_wp2_with fail
  refine HMK.out.mono ?_
  rintro e w2 ⟨I2, hs2, rfl, h2⟩
  by_cases he : e1 = 0
  · subst he
    have H2 := Lib.hid h2
    have HI2 := Lib.hid (hs2 _ _ HI.out)
    have HJ2 := Lib.hid (hs2 _ _ HJ.out)
    have HS2 := Lib.hid hs2
    clear h2 hs2 x0 x1 x2 x3
    go_upto_region 10 with fail
    refine save_lay (by assumption) (by kernel_rfl) ⟨k0, k1, k2, k3⟩ hd H2.out HK1.out HI2.out HJ2.out ?_
    intro y0 y1 y2 y3 y4 y5 y6 y7 y9 y10 y11 y12 y13 y14 y15 y16 y17 y18 y19 y20 y21 y22 y23 y24 y25 y26 y27 y28 y29 y30 y31 y32 y33 y34 y35 y36 y37 y38 y39 y40 y41 y42 y43 y44 y45 y46 y47 y48 y49 y50 y51 y52 y53 y54 y55 y56 y57 y58 y59 y60 y61 y62 y63 y64 y65 y66 y67 y68 y69 y70 y71 y72 y73 y74 y75 y76 y77 y78 y79 I5 w5 hs5 h5
    have hq := HQ.out
    rw [thenE_ok] at hq
    exact hq _ _ _ _ _ _ _ _ _ _ _ _ _ _ _ _ _ _ _ _ _ _ _ _ _ _ _ _ _ _ _ _ _ _ _ _ _ _ _ _ _ _ _ _ _ _ _ _ _ _ _ _ _ _ _ _ _ _ _ _ _ _ _ _ _ _ _ _ _ _ _ _ _ _ _ _ _ _ _ I5 _ (HS2.out.trans hs5) h5
  · have de : (e1 != 0) = true := by simpa using he
    have H2 := Lib.hid h2
    have HS2 := Lib.hid hs2
    clear h2 hs2 x0 x1 x2 x3
    go_wp2_with fail
    have hq := HQ.out
    rw [thenE_bad he] at hq
    exact hq _ _ _ _ _ _ _ _ _ _ _ _ _ _ _ _ _ _ _ _ _ _ _ _ _ _ _ _ _ _ _ _ _ _ _ _ _ _ _ _ _ _ _ _ _ _ _ _ _ _ _ _ _ _ _ _ _ _ _ _ _ _ _ _ _ _ _ _ _ _ _ _ _ _ _ _ _ _ _ I2 _ HS2.out H2.out
theorem save_spec (img num newest : Int) {m : Nat} (h : St W I w (storeHP p S :: l)) (hk : Keeps S (m + 10)) :
    Calls Tryz.prog 66 #[.pointer (some ⟨p, 0, none⟩), .int .i64 img, .int .i64 num, .int .i64 newest] w (DoesE W I p l (saveS S img num newest)) := by
  have H := Lib.hid h
  have HK := Lib.hid hk
  clear h hk
  go_enter Tryz.func66, Tryz.ntmps66
  go_wp2_with fail
  refine (ckey_spec img num newest w).mono ?_
  rintro e w1 ⟨rfl, hb1⟩
  have h1 := H.out.keep hb1
  have H1 := Lib.hid h1
  clear h1 hb1
  go_wp2_with fail
  refine (ckey_spec img num 0 w1).mono ?_
  rintro e w2 ⟨rfl, hb2⟩
  obtain ⟨I3, hs3, hI3, h3⟩ := ((H1.out.keep hb2).alloc (.cells #[.int .i64 4, .int .i64 img, .int .i64 num, .int .i64 newest] 81)).freeze
  obtain ⟨I4, hs4, hJ4, h4⟩ := (h3.alloc (.cells #[.int .i64 4, .int .i64 img, .int .i64 num, .int .i64 0] 81)).freeze
  have hI4 := hs4 _ _ hI3
  simp only [World.size_alloc] at hJ4
  have HS4 := Lib.hid (hs3.trans hs4)
  obtain ⟨x0, x1, x2, x3⟩ := imm_cells4 h4 hI4
  have hsz := size_of ⟨4, img, num, newest⟩ h4
  obtain ⟨wy, hwy⟩ : ∃ y, whyS S ⟨4, img, num, newest⟩ = y := ⟨_, rfl⟩
  rw [hwy] at hsz
  simp only [K4.val] at hsz
  have HSZ := Lib.hid hsz
  have H4 := Lib.hid h4
  have HI4 := Lib.hid hI4
  have HJ4 := Lib.hid hJ4
  have HWY := Lib.hid hwy
  clear hb2 hs3 hI3 h3 hs4 hJ4 h4 hI4 hsz hwy H1
  by_cases h0 : wy = 0
  · subst h0
    obtain ⟨⟨e1, S1⟩, hde⟩ : ∃ r, dropS S ⟨4, img, num, newest⟩ = r := ⟨_, rfl⟩
    have HX := Lib.hid (show saveS S img num newest = thenE (e1, S1) fun S1 => thenE (makeS S1 (dK img num newest)) fun S2 => saveD S2 (dK img num newest) (dK img num 0) by unfold saveS saveA; rw [if_pos (show whyS S (dK img num newest) = 0 from HWY.out), show dropS S (dK img num newest) = (e1, S1) from hde])
    have hk1 := dropS_keeps (m := m + 8) (k := ⟨4, img, num, newest⟩) HK.out
    rw [hde] at hk1
    have HDE := Lib.hid hde
    have HK1 := Lib.hid hk1
    clear hde hk1
    go_wp2_with fail
    refine HSZ.out.mono ?_
    rintro e w5 ⟨hb5, rfl⟩
    have h5 := H4.out.keep hb5
    obtain ⟨y0, y1, y2, y3⟩ := imm_cells4 h5 HI4.out
    have hdr := drop_spec ⟨4, img, num, newest⟩ h5 HK.out
    rw [HDE.out] at hdr
    simp only [K4.val] at hdr
    have HDR := Lib.hid hdr
    clear h5 hb5 hdr x0 x1 x2 x3
    go_wp2_with fail
    refine HDR.out.mono ?_
    rintro e w6 ⟨I6, hs6, rfl, h6⟩
    have H6 := Lib.hid h6
    have HI6 := Lib.hid (hs6 _ _ HI4.out)
    have HJ6 := Lib.hid (hs6 _ _ HJ4.out)
    have HS6 := Lib.hid (HS4.out.trans hs6)
    clear h6 hs6 y0 y1 y2 y3
    by_cases he : e1 = 0
    · subst he
      have HX2 := Lib.hid (HX.out.trans (thenE_ok _ _))
      go_upto_region 7 with fail
      refine save_make (by assumption) (by assumption) (by kernel_rfl) ⟨4, img, num, newest⟩ ⟨4, img, num, 0⟩ H6.out HK1.out HI6.out HJ6.out ?_
      intro y0 y1 y2 y3 y4 y5 y6 y7 y9 y10 y11 y12 y13 y14 y15 y16 y17 y18 y19 y20 y21 y22 y23 y24 y25 y26 y27 y28 y29 y30 y31 y32 y33 y34 y35 y36 y37 y38 y39 y40 y41 y42 y43 y44 y45 y46 y47 y48 y49 y50 y51 y52 y53 y54 y55 y56 y57 y58 y59 y60 y61 y62 y63 y64 y65 y66 y67 y68 y69 y70 y71 y72 y73 y74 y75 y76 y77 y78 y79 I7 w7 hs7 h7
      go_ret
      rw [HX2.out]
      exact ⟨I7, HS6.out.trans hs7, rfl, h7⟩
    · have de : (e1 != 0) = true := by simpa using he
      have HX2 := Lib.hid (HX.out.trans (thenE_bad he _ _))
      go_wp2_with fail
      go_ret
      rw [HX2.out]
      exact ⟨I6, HS6.out, rfl, H6.out⟩
  · have d0 : (wy == 0) = false := by simpa using h0
    have HX := Lib.hid (show saveS S img num newest = thenE (makeS S (dK img num newest)) fun S2 => saveD S2 (dK img num newest) (dK img num 0) by unfold saveS saveA; rw [if_neg (show ¬ whyS S (dK img num newest) = 0 from fun e => h0 (HWY.out.symm.trans e)), thenE_ok])
    go_wp2_with fail
    refine HSZ.out.mono ?_
    rintro e w5 ⟨hb5, rfl⟩
    have H5 := Lib.hid (H4.out.keep hb5)
    clear hb5 x0 x1 x2 x3
    go_upto_region 7 with fail
    refine save_make (by assumption) (by assumption) (by kernel_rfl) ⟨4, img, num, newest⟩ ⟨4, img, num, 0⟩ H5.out (HK.out.fewer (show m + 8 ≤ m + 10 by omega)) HI4.out HJ4.out ?_
    intro y0 y1 y2 y3 y4 y5 y6 y7 y9 y10 y11 y12 y13 y14 y15 y16 y17 y18 y19 y20 y21 y22 y23 y24 y25 y26 y27 y28 y29 y30 y31 y32 y33 y34 y35 y36 y37 y38 y39 y40 y41 y42 y43 y44 y45 y46 y47 y48 y49 y50 y51 y52 y53 y54 y55 y56 y57 y58 y59 y60 y61 y62 y63 y64 y65 y66 y67 y68 y69 y70 y71 y72 y73 y74 y75 y76 y77 y78 y79 I7 w7 hs7 h7
    go_ret
    rw [HX.out]
    exact ⟨I7, HS4.out.trans hs7, rfl, h7⟩
theorem ahead_spec (img num newest : Int) {m : Nat} (h : St W I w (storeHP p S :: l)) (hk : Keeps S (m + 10)) :
    Calls Tryz.prog 49 #[.pointer (some ⟨p, 0, none⟩), .int .i64 img, .int .i64 num, .int .i64 newest] w (DoesE W I p l (aheadS S img num newest)) := by
  by_cases h0 : newest = 0
  · subst h0
    have HX := Lib.hid (show aheadS S img num 0 = (0, S) by unfold aheadS; rw [if_pos (.inl rfl)])
    have H := Lib.hid h
    clear h hk
    go_enter Tryz.func49, Tryz.ntmps49
    go_wp2_with fail
    go_ret
    rw [HX.out]
    exact ⟨I, Hp.sub.refl _, rfl, H.out⟩
  · have d0 : (newest == 0) = false := by simpa using h0
    have hcs := copies_spec img num h hk.inv
    obtain ⟨cs, hcs2⟩ : ∃ cs, copiesS S img num = cs := ⟨_, rfl⟩
    have HA := Lib.hid (show aheadS S img num newest = if (match cs.getLast? with | some n => decide (newest ≤ n) | none => false) = true then (0, S) else saveS S img num newest by
      unfold aheadS coveredB
      rw [hcs2]
      simp only [h0, false_or]
      rfl)
    rw [hcs2] at hcs
    have HCS := Lib.hid hcs
    have HK := Lib.hid hk
    clear h hk hcs hcs2
    go_enter Tryz.func49, Tryz.ntmps49
    go_wp2_with fail
    refine HCS.out.mono ?_
    rintro e w2 ⟨v2, I2, hs2, rfl, hv2, h2⟩
    have HV := Lib.hid hv2
    have HS2 := Lib.hid hs2
    obtain ⟨A2, c2, rfl, _, _, hm2, _⟩ := hv2
    unfold maxLen at hm2
    have hsp := save_spec img num newest h2 HK.out
    have HSP := Lib.hid hsp
    have H2 := Lib.hid h2
    clear hs2 hsp HCS
    by_cases hn : cs = []
    · subst hn
      have dn : decide (0 < (([] : List Int).length : Int)) = false := rfl
      have HX := Lib.hid (HA.out.trans (if_neg (by simp)))
      clear h2
      go_wp2_with fail
      refine HSP.out.mono ?_
      rintro e w3 ⟨I3, hs3, rfl, h3⟩
      have H3 := Lib.hid h3
      have HS3 := Lib.hid (HS2.out.trans hs3)
      clear h3 hs3
      go_wp2_with fail
      go_ret
      rw [HX.out]
      exact ⟨I3, HS3.out, rfl, H3.out⟩
    · have hpos : 0 < cs.length := List.length_pos_iff.2 hn
      have dn : decide (0 < (cs.length : Int)) = true := by rw [decide_eq_true_eq]; omega
      obtain ⟨nl, hnl⟩ : ∃ n, cs[cs.length - 1]? = some n := ⟨_, List.getElem?_eq_getElem (by omega)⟩
      have hgl : cs.getLast? = some nl := by rw [List.getLast?_eq_getElem?, hnl]
      obtain ⟨bb, off, e1, hc⟩ := intsI_cell h2 HV.out hnl
      simp only [Value.slice.injEq, and_true] at e1
      subst e1
      have hsub : IntKind.i64.wrap ((cs.length : Int) - 1) = ((cs.length - 1 : Nat) : Int) := by rw [IntKind.wrap_i64]; omega
      have hlt : ((cs.length - 1 : Nat) : Int) < cs.length := by omega
      rw [hgl] at HA
      obtain ⟨cl, hcl⟩ : ∃ cl, cs.length - 1 = cl := ⟨_, rfl⟩
      rw [hcl] at hc hsub hlt
      by_cases hle : newest ≤ nl
      · have dl : decide (newest ≤ nl) = true := by simpa using hle
        have HX := Lib.hid (HA.out.trans (if_pos dl))
        clear h2 hnl hgl hcl
        go_wp2_with fail
        go_ret
        rw [HX.out]
        exact ⟨I2, HS2.out, rfl, H2.out⟩
      · have dl : decide (newest ≤ nl) = false := by simpa using hle
        have HX := Lib.hid (HA.out.trans (if_neg (show ¬ (decide (newest ≤ nl) = true) by rw [dl]; simp)))
        clear h2 hnl hgl hcl
        go_wp2_with fail
        refine HSP.out.mono ?_
        rintro e w3 ⟨I3, hs3, rfl, h3⟩
        have H3 := Lib.hid h3
        have HS3 := Lib.hid (HS2.out.trans hs3)
        clear h3 hs3 hc
        go_wp2_with fail
        go_ret
        rw [HX.out]
        exact ⟨I3, HS3.out, rfl, H3.out⟩
end
section
variable {W w : World} {I : Hp} {l : List HP} {p : Nat} {S : Str}
set_option maxRecDepth 4000
set_option maxHeartbeats 8000000
theorem cwrite_spec (img num newest off : Int) (pv : Value) (b : List Int) {m : Nat} (h : St W I w (storeHP p S :: l)) (hk : Keeps S (m + 16)) (hb : BytesI I pv b) (hbl : b.length ≤ 1000000) :
    Calls Tryz.prog 23 #[.pointer (some ⟨p, 0, none⟩), .int .i64 img, .int .i64 num, .int .i64 newest, .int .i64 off, pv] w (DoesE W I p l (cwriteS S img num newest off b)) := by
  have HB := Lib.hid hb
  obtain ⟨Ap, cp, rfl, _⟩ := hb
  have hm := fun b => cmay_spec b h
  have HM := Lib.hid hm
  have H := Lib.hid h
  have HK := Lib.hid hk
  clear hm h hk
  cases g0 : objB img num with
  | false =>
    have hf : (objB img num && snapB newest && withinB off b.length) = false := by rw [g0] <;> simp
    have HX := Lib.hid (show cwriteS S img num newest off b = ((cmayS S false), S) by unfold cwriteS; rw [hf, if_pos (cmay_false S)])
    have hm := HM.out false
    have hne : (cmayS S false != 0) = true := by simpa using cmay_false S
    obtain ⟨e0, he0⟩ : ∃ e0, cmayS S false = e0 := ⟨_, rfl⟩
    rw [he0] at hm hne HX
    have HMF := Lib.hid hm
    clear hm hf he0
    have hg0 := object_spec img num w
    rw [g0] at hg0
    have HG0 := Lib.hid hg0
    clear hg0
    go_enter Tryz.func23, Tryz.ntmps23
    go_wp2_with fail
    refine HG0.out.mono ?_
    rintro e w2 ⟨rfl, rfl⟩
    go_wp2_with fail
    refine HMF.out.mono ?_
    rintro e w2 ⟨rfl, rfl⟩
    go_wp2_with fail
    go_ret
    rw [HX.out]
    exact ⟨I, Hp.sub.refl _, rfl, H.out⟩
  | true =>
    cases g1 : snapB newest with
    | false =>
      have hf : (objB img num && snapB newest && withinB off b.length) = false := by rw [g0, g1] <;> simp
      have HX := Lib.hid (show cwriteS S img num newest off b = ((cmayS S false), S) by unfold cwriteS; rw [hf, if_pos (cmay_false S)])
      have hm := HM.out false
      have hne : (cmayS S false != 0) = true := by simpa using cmay_false S
      obtain ⟨e0, he0⟩ : ∃ e0, cmayS S false = e0 := ⟨_, rfl⟩
      rw [he0] at hm hne HX
      have HMF := Lib.hid hm
      clear hm hf he0
      have hg0 := object_spec img num w
      rw [g0] at hg0
      have HG0 := Lib.hid hg0
      clear hg0
      have hg1 := snaps_spec newest w
      rw [g1] at hg1
      have HG1 := Lib.hid hg1
      clear hg1
      go_enter Tryz.func23, Tryz.ntmps23
      go_wp2_with fail
      refine HG0.out.mono ?_
      rintro e w2 ⟨rfl, rfl⟩
      go_wp2_with fail
      refine HG1.out.mono ?_
      rintro e w2 ⟨rfl, rfl⟩
      go_wp2_with fail
      refine HMF.out.mono ?_
      rintro e w2 ⟨rfl, rfl⟩
      go_wp2_with fail
      go_ret
      rw [HX.out]
      exact ⟨I, Hp.sub.refl _, rfl, H.out⟩
    | true =>
      cases g2 : withinB off b.length with
      | false =>
        have hf : (objB img num && snapB newest && withinB off b.length) = false := by rw [g0, g1, g2] <;> simp
        have HX := Lib.hid (show cwriteS S img num newest off b = ((cmayS S false), S) by unfold cwriteS; rw [hf, if_pos (cmay_false S)])
        have hm := HM.out false
        have hne : (cmayS S false != 0) = true := by simpa using cmay_false S
        obtain ⟨e0, he0⟩ : ∃ e0, cmayS S false = e0 := ⟨_, rfl⟩
        rw [he0] at hm hne HX
        have HMF := Lib.hid hm
        clear hm hf he0
        have hg0 := object_spec img num w
        rw [g0] at hg0
        have HG0 := Lib.hid hg0
        clear hg0
        have hg1 := snaps_spec newest w
        rw [g1] at hg1
        have HG1 := Lib.hid hg1
        clear hg1
        have hg2 := within_spec off b.length w
        rw [g2] at hg2
        have HG2 := Lib.hid hg2
        clear hg2
        go_enter Tryz.func23, Tryz.ntmps23
        go_wp2_with fail
        refine HG0.out.mono ?_
        rintro e w2 ⟨rfl, rfl⟩
        go_wp2_with fail
        refine HG1.out.mono ?_
        rintro e w2 ⟨rfl, rfl⟩
        go_wp2_with fail
        refine HG2.out.mono ?_
        rintro e w2 ⟨rfl, rfl⟩
        go_wp2_with fail
        refine HMF.out.mono ?_
        rintro e w2 ⟨rfl, rfl⟩
        go_wp2_with fail
        go_ret
        rw [HX.out]
        exact ⟨I, Hp.sub.refl _, rfl, H.out⟩
      | true =>
        have hf : (objB img num && snapB newest && withinB off b.length) = true := by rw [g0, g1, g2] <;> rfl
        have hm := HM.out true
        obtain ⟨e0, he0⟩ : ∃ e0, cmayS S true = e0 := ⟨_, rfl⟩
        have HX := Lib.hid (show cwriteS S img num newest off b = _ by unfold cwriteS; rw [hf, he0])
        rw [he0] at hm
        have HMF := Lib.hid hm
        clear hm hf he0
        have hg0 := object_spec img num w
        rw [g0] at hg0
        have HG0 := Lib.hid hg0
        clear hg0
        have hg1 := snaps_spec newest w
        rw [g1] at hg1
        have HG1 := Lib.hid hg1
        clear hg1
        have hg2 := within_spec off b.length w
        rw [g2] at hg2
        have HG2 := Lib.hid hg2
        clear hg2
        by_cases h0 : e0 = 0
        · subst h0
          have HX := Lib.hid (HX.out.trans (if_neg (by simp)))
          by_cases hb0 : b = []
          · subst hb0
            have dl : ((([] : List Int).length : Int) == 0) = true := rfl
            have HX := Lib.hid (HX.out.trans (if_pos rfl))
            go_enter Tryz.func23, Tryz.ntmps23
            go_wp2_with fail
            refine HG0.out.mono ?_
            rintro e w2 ⟨rfl, rfl⟩
            go_wp2_with fail
            refine HG1.out.mono ?_
            rintro e w2 ⟨rfl, rfl⟩
            go_wp2_with fail
            refine HG2.out.mono ?_
            rintro e w2 ⟨rfl, rfl⟩
            go_wp2_with fail
            refine HMF.out.mono ?_
            rintro e w2 ⟨rfl, rfl⟩
            go_wp2_with fail
            go_ret
            rw [HX.out]
            exact ⟨I, Hp.sub.refl _, rfl, H.out⟩
          · have dl : ((b.length : Int) == 0) = false := by rw [beq_eq_false_iff_ne]; have := List.length_pos_iff.2 hb0; omega
            have HX := Lib.hid (HX.out.trans (if_neg hb0))
            have ha := ahead_spec img num newest H.out (m := m + 6) HK.out
            obtain ⟨⟨e1, S1⟩, hae⟩ : ∃ r, aheadS S img num newest = r := ⟨_, rfl⟩
            have hk1 := aheadS_keeps (m := m + 6) (img := img) (num := num) (newest := newest) HK.out
            rw [hae] at ha hk1 HX
            have HA := Lib.hid ha
            have HK1 := Lib.hid hk1
            clear ha hae hk1
            go_enter Tryz.func23, Tryz.ntmps23
            go_wp2_with fail
            refine HG0.out.mono ?_
            rintro e w2 ⟨rfl, rfl⟩
            go_wp2_with fail
            refine HG1.out.mono ?_
            rintro e w2 ⟨rfl, rfl⟩
            go_wp2_with fail
            refine HG2.out.mono ?_
            rintro e w2 ⟨rfl, rfl⟩
            go_wp2_with fail
            refine HMF.out.mono ?_
            rintro e w2 ⟨rfl, rfl⟩
            go_wp2_with fail
            refine HA.out.mono ?_
            rintro e w3 ⟨I3, hs3, rfl, h3⟩
            by_cases he : e1 = 0
            · subst he
              have HX2 := Lib.hid (HX.out.trans (thenE_ok _ _))
              have H3 := Lib.hid h3
              have HS3 := Lib.hid hs3
              clear h3 hs3
              go_wp2_with fail
              refine (ckey_spec img num 0 w3).mono ?_
              rintro e w4 ⟨rfl, hb4⟩
              have h4 := H3.out.keep hb4
              have hly := clay_spec ⟨4, img, num, 0⟩ off _ b h4 HK1.out ((bytesIP _ _).mono HS3.out HB.out) hbl
              simp only [K4.val] at hly
              have HLY := Lib.hid hly
              clear h4 hb4 hly
              go_wp2_with fail
              refine HLY.out.mono ?_
              rintro e w5 ⟨I5, hs5, rfl, h5⟩
              have H5 := Lib.hid h5
              have HS5 := Lib.hid (HS3.out.trans hs5)
              clear h5 hs5
              go_wp2_with fail
              go_ret
              rw [HX2.out]
              exact ⟨I5, HS5.out, rfl, H5.out⟩
            · have de : (e1 != 0) = true := by simpa using he
              have HX2 := Lib.hid (HX.out.trans (thenE_bad he _ _))
              have H3 := Lib.hid h3
              have HS3 := Lib.hid hs3
              clear h3 hs3
              go_wp2_with fail
              go_ret
              rw [HX2.out]
              exact ⟨I3, HS3.out, rfl, H3.out⟩
        · have d0 : (e0 != 0) = true := by simpa using h0
          have HX2 := Lib.hid (HX.out.trans (if_pos h0))
          go_enter Tryz.func23, Tryz.ntmps23
          go_wp2_with fail
          refine HG0.out.mono ?_
          rintro e w2 ⟨rfl, rfl⟩
          go_wp2_with fail
          refine HG1.out.mono ?_
          rintro e w2 ⟨rfl, rfl⟩
          go_wp2_with fail
          refine HG2.out.mono ?_
          rintro e w2 ⟨rfl, rfl⟩
          go_wp2_with fail
          refine HMF.out.mono ?_
          rintro e w2 ⟨rfl, rfl⟩
          go_wp2_with fail
          go_ret
          rw [HX2.out]
          exact ⟨I, Hp.sub.refl _, rfl, H.out⟩
end
section
variable {W w : World} {I : Hp} {l : List HP} {p : Nat} {S : Str}
set_option maxRecDepth 4000
set_option maxHeartbeats 8000000
theorem clayn_spec (img num newest : Int) (pv : Value) (b : List Int) {m : Nat} (h : St W I w (storeHP p S :: l)) (hk : Keeps S (m + 16)) (hb : BytesI I pv b) (hbl : b.length ≤ 1000000) :
    Calls Tryz.prog 34 #[.pointer (some ⟨p, 0, none⟩), .int .i64 img, .int .i64 num, .int .i64 newest, pv] w (DoesE W I p l (claySn S img num newest b)) := by
  have HB := Lib.hid hb
  obtain ⟨Ap, cp, rfl, _⟩ := hb
  have hm := fun b => cmay_spec b h
  have HM := Lib.hid hm
  have H := Lib.hid h
  have HK := Lib.hid hk
  clear hm h hk
  cases g0 : objB img num with
  | false =>
    have hf : (objB img num && snapB newest && withinB 0 b.length) = false := by rw [g0] <;> simp
    have HX := Lib.hid (show claySn S img num newest b = ((cmayS S false), S) by unfold claySn; rw [hf, if_pos (cmay_false S)])
    have hm := HM.out false
    have hne : (cmayS S false != 0) = true := by simpa using cmay_false S
    obtain ⟨e0, he0⟩ : ∃ e0, cmayS S false = e0 := ⟨_, rfl⟩
    rw [he0] at hm hne HX
    have HMF := Lib.hid hm
    clear hm hf he0
    have hg0 := object_spec img num w
    rw [g0] at hg0
    have HG0 := Lib.hid hg0
    clear hg0
    go_enter Tryz.func34, Tryz.ntmps34
    go_wp2_with fail
    refine HG0.out.mono ?_
    rintro e w2 ⟨rfl, rfl⟩
    go_wp2_with fail
    refine HMF.out.mono ?_
    rintro e w2 ⟨rfl, rfl⟩
    go_wp2_with fail
    go_ret
    rw [HX.out]
    exact ⟨I, Hp.sub.refl _, rfl, H.out⟩
  | true =>
    cases g1 : snapB newest with
    | false =>
      have hf : (objB img num && snapB newest && withinB 0 b.length) = false := by rw [g0, g1] <;> simp
      have HX := Lib.hid (show claySn S img num newest b = ((cmayS S false), S) by unfold claySn; rw [hf, if_pos (cmay_false S)])
      have hm := HM.out false
      have hne : (cmayS S false != 0) = true := by simpa using cmay_false S
      obtain ⟨e0, he0⟩ : ∃ e0, cmayS S false = e0 := ⟨_, rfl⟩
      rw [he0] at hm hne HX
      have HMF := Lib.hid hm
      clear hm hf he0
      have hg0 := object_spec img num w
      rw [g0] at hg0
      have HG0 := Lib.hid hg0
      clear hg0
      have hg1 := snaps_spec newest w
      rw [g1] at hg1
      have HG1 := Lib.hid hg1
      clear hg1
      go_enter Tryz.func34, Tryz.ntmps34
      go_wp2_with fail
      refine HG0.out.mono ?_
      rintro e w2 ⟨rfl, rfl⟩
      go_wp2_with fail
      refine HG1.out.mono ?_
      rintro e w2 ⟨rfl, rfl⟩
      go_wp2_with fail
      refine HMF.out.mono ?_
      rintro e w2 ⟨rfl, rfl⟩
      go_wp2_with fail
      go_ret
      rw [HX.out]
      exact ⟨I, Hp.sub.refl _, rfl, H.out⟩
    | true =>
      cases g2 : withinB 0 b.length with
      | false =>
        have hf : (objB img num && snapB newest && withinB 0 b.length) = false := by rw [g0, g1, g2] <;> simp
        have HX := Lib.hid (show claySn S img num newest b = ((cmayS S false), S) by unfold claySn; rw [hf, if_pos (cmay_false S)])
        have hm := HM.out false
        have hne : (cmayS S false != 0) = true := by simpa using cmay_false S
        obtain ⟨e0, he0⟩ : ∃ e0, cmayS S false = e0 := ⟨_, rfl⟩
        rw [he0] at hm hne HX
        have HMF := Lib.hid hm
        clear hm hf he0
        have hg0 := object_spec img num w
        rw [g0] at hg0
        have HG0 := Lib.hid hg0
        clear hg0
        have hg1 := snaps_spec newest w
        rw [g1] at hg1
        have HG1 := Lib.hid hg1
        clear hg1
        have hg2 := within_spec 0 b.length w
        rw [g2] at hg2
        have HG2 := Lib.hid hg2
        clear hg2
        go_enter Tryz.func34, Tryz.ntmps34
        go_wp2_with fail
        refine HG0.out.mono ?_
        rintro e w2 ⟨rfl, rfl⟩
        go_wp2_with fail
        refine HG1.out.mono ?_
        rintro e w2 ⟨rfl, rfl⟩
        go_wp2_with fail
        refine HG2.out.mono ?_
        rintro e w2 ⟨rfl, rfl⟩
        go_wp2_with fail
        refine HMF.out.mono ?_
        rintro e w2 ⟨rfl, rfl⟩
        go_wp2_with fail
        go_ret
        rw [HX.out]
        exact ⟨I, Hp.sub.refl _, rfl, H.out⟩
      | true =>
        have hf : (objB img num && snapB newest && withinB 0 b.length) = true := by rw [g0, g1, g2] <;> rfl
        have hm := HM.out true
        obtain ⟨e0, he0⟩ : ∃ e0, cmayS S true = e0 := ⟨_, rfl⟩
        have HX := Lib.hid (show claySn S img num newest b = _ by unfold claySn; rw [hf, he0])
        rw [he0] at hm
        have HMF := Lib.hid hm
        clear hm hf he0
        have hg0 := object_spec img num w
        rw [g0] at hg0
        have HG0 := Lib.hid hg0
        clear hg0
        have hg1 := snaps_spec newest w
        rw [g1] at hg1
        have HG1 := Lib.hid hg1
        clear hg1
        have hg2 := within_spec 0 b.length w
        rw [g2] at hg2
        have HG2 := Lib.hid hg2
        clear hg2
        by_cases h0 : e0 = 0
        · subst h0
          have HX := Lib.hid (HX.out.trans (if_neg (by simp)))
          have ha := ahead_spec img num newest H.out (m := m + 6) HK.out
          obtain ⟨⟨e1, S1⟩, hae⟩ : ∃ r, aheadS S img num newest = r := ⟨_, rfl⟩
          have hk1 := aheadS_keeps (m := m + 6) (img := img) (num := num) (newest := newest) HK.out
          rw [hae] at ha hk1 HX
          have HA := Lib.hid ha
          have HK1 := Lib.hid hk1
          clear ha hae hk1
          go_enter Tryz.func34, Tryz.ntmps34
          go_wp2_with fail
          refine HG0.out.mono ?_
          rintro e w2 ⟨rfl, rfl⟩
          go_wp2_with fail
          refine HG1.out.mono ?_
          rintro e w2 ⟨rfl, rfl⟩
          go_wp2_with fail
          refine HG2.out.mono ?_
          rintro e w2 ⟨rfl, rfl⟩
          go_wp2_with fail
          refine HMF.out.mono ?_
          rintro e w2 ⟨rfl, rfl⟩
          go_wp2_with fail
          refine HA.out.mono ?_
          rintro e w3 ⟨I3, hs3, rfl, h3⟩
          by_cases he : e1 = 0
          · subst he
            have HX2 := Lib.hid (HX.out.trans (thenE_ok _ _))
            have H3 := Lib.hid h3
            have HS3 := Lib.hid hs3
            clear h3 hs3
            go_wp2_with fail
            refine (ckey_spec img num 0 w3).mono ?_
            rintro e w4 ⟨rfl, hb4⟩
            have h4 := H3.out.keep hb4
            have hly := turn_spec ⟨4, img, num, 0⟩ _ b h4 HK1.out ((bytesIP _ _).mono HS3.out HB.out) hbl
            simp only [K4.val] at hly
            have HLY := Lib.hid hly
            clear h4 hb4 hly
            go_wp2_with fail
            refine HLY.out.mono ?_
            rintro e w5 ⟨I5, hs5, rfl, h5⟩
            have H5 := Lib.hid h5
            have HS5 := Lib.hid (HS3.out.trans hs5)
            clear h5 hs5
            go_wp2_with fail
            go_ret
            rw [HX2.out]
            exact ⟨I5, HS5.out, rfl, H5.out⟩
          · have de : (e1 != 0) = true := by simpa using he
            have HX2 := Lib.hid (HX.out.trans (thenE_bad he _ _))
            have H3 := Lib.hid h3
            have HS3 := Lib.hid hs3
            clear h3 hs3
            go_wp2_with fail
            go_ret
            rw [HX2.out]
            exact ⟨I3, HS3.out, rfl, H3.out⟩
        · have d0 : (e0 != 0) = true := by simpa using h0
          have HX2 := Lib.hid (HX.out.trans (if_pos h0))
          go_enter Tryz.func34, Tryz.ntmps34
          go_wp2_with fail
          refine HG0.out.mono ?_
          rintro e w2 ⟨rfl, rfl⟩
          go_wp2_with fail
          refine HG1.out.mono ?_
          rintro e w2 ⟨rfl, rfl⟩
          go_wp2_with fail
          refine HG2.out.mono ?_
          rintro e w2 ⟨rfl, rfl⟩
          go_wp2_with fail
          refine HMF.out.mono ?_
          rintro e w2 ⟨rfl, rfl⟩
          go_wp2_with fail
          go_ret
          rw [HX2.out]
          exact ⟨I, Hp.sub.refl _, rfl, H.out⟩
end
section
variable {W w : World} {I : Hp} {l : List HP} {p : Nat} {S : Str}
set_option maxRecDepth 4000
set_option maxHeartbeats 8000000
theorem ccut_spec (img num newest size : Int) {m : Nat} (h : St W I w (storeHP p S :: l)) (hk : Keeps S (m + 16)) :
    Calls Tryz.prog 33 #[.pointer (some ⟨p, 0, none⟩), .int .i64 img, .int .i64 num, .int .i64 newest, .int .i64 size] w (DoesE W I p l (ccutS S img num newest size)) := by
  have hm := fun b => cmay_spec b h
  have HM := Lib.hid hm
  have H := Lib.hid h
  have HK := Lib.hid hk
  clear hm h hk
  cases g0 : objB img num with
  | false =>
    have hf : (objB img num && snapB newest && withinB 0 size) = false := by rw [g0] <;> simp
    have HX := Lib.hid (show ccutS S img num newest size = ((cmayS S false), S) by unfold ccutS; rw [hf, if_pos (cmay_false S)])
    have hm := HM.out false
    have hne : (cmayS S false != 0) = true := by simpa using cmay_false S
    obtain ⟨e0, he0⟩ : ∃ e0, cmayS S false = e0 := ⟨_, rfl⟩
    rw [he0] at hm hne HX
    have HMF := Lib.hid hm
    clear hm hf he0
    have hg0 := object_spec img num w
    rw [g0] at hg0
    have HG0 := Lib.hid hg0
    clear hg0
    go_enter Tryz.func33, Tryz.ntmps33
    go_wp2_with fail
    refine HG0.out.mono ?_
    rintro e w2 ⟨rfl, rfl⟩
    go_wp2_with fail
    refine HMF.out.mono ?_
    rintro e w2 ⟨rfl, rfl⟩
    go_wp2_with fail
    go_ret
    rw [HX.out]
    exact ⟨I, Hp.sub.refl _, rfl, H.out⟩
  | true =>
    cases g1 : snapB newest with
    | false =>
      have hf : (objB img num && snapB newest && withinB 0 size) = false := by rw [g0, g1] <;> simp
      have HX := Lib.hid (show ccutS S img num newest size = ((cmayS S false), S) by unfold ccutS; rw [hf, if_pos (cmay_false S)])
      have hm := HM.out false
      have hne : (cmayS S false != 0) = true := by simpa using cmay_false S
      obtain ⟨e0, he0⟩ : ∃ e0, cmayS S false = e0 := ⟨_, rfl⟩
      rw [he0] at hm hne HX
      have HMF := Lib.hid hm
      clear hm hf he0
      have hg0 := object_spec img num w
      rw [g0] at hg0
      have HG0 := Lib.hid hg0
      clear hg0
      have hg1 := snaps_spec newest w
      rw [g1] at hg1
      have HG1 := Lib.hid hg1
      clear hg1
      go_enter Tryz.func33, Tryz.ntmps33
      go_wp2_with fail
      refine HG0.out.mono ?_
      rintro e w2 ⟨rfl, rfl⟩
      go_wp2_with fail
      refine HG1.out.mono ?_
      rintro e w2 ⟨rfl, rfl⟩
      go_wp2_with fail
      refine HMF.out.mono ?_
      rintro e w2 ⟨rfl, rfl⟩
      go_wp2_with fail
      go_ret
      rw [HX.out]
      exact ⟨I, Hp.sub.refl _, rfl, H.out⟩
    | true =>
      cases g2 : withinB 0 size with
      | false =>
        have hf : (objB img num && snapB newest && withinB 0 size) = false := by rw [g0, g1, g2] <;> simp
        have HX := Lib.hid (show ccutS S img num newest size = ((cmayS S false), S) by unfold ccutS; rw [hf, if_pos (cmay_false S)])
        have hm := HM.out false
        have hne : (cmayS S false != 0) = true := by simpa using cmay_false S
        obtain ⟨e0, he0⟩ : ∃ e0, cmayS S false = e0 := ⟨_, rfl⟩
        rw [he0] at hm hne HX
        have HMF := Lib.hid hm
        clear hm hf he0
        have hg0 := object_spec img num w
        rw [g0] at hg0
        have HG0 := Lib.hid hg0
        clear hg0
        have hg1 := snaps_spec newest w
        rw [g1] at hg1
        have HG1 := Lib.hid hg1
        clear hg1
        have hg2 := within_spec 0 size w
        rw [g2] at hg2
        have HG2 := Lib.hid hg2
        clear hg2
        go_enter Tryz.func33, Tryz.ntmps33
        go_wp2_with fail
        refine HG0.out.mono ?_
        rintro e w2 ⟨rfl, rfl⟩
        go_wp2_with fail
        refine HG1.out.mono ?_
        rintro e w2 ⟨rfl, rfl⟩
        go_wp2_with fail
        refine HG2.out.mono ?_
        rintro e w2 ⟨rfl, rfl⟩
        go_wp2_with fail
        refine HMF.out.mono ?_
        rintro e w2 ⟨rfl, rfl⟩
        go_wp2_with fail
        go_ret
        rw [HX.out]
        exact ⟨I, Hp.sub.refl _, rfl, H.out⟩
      | true =>
        have hf : (objB img num && snapB newest && withinB 0 size) = true := by rw [g0, g1, g2] <;> rfl
        have hm := HM.out true
        obtain ⟨e0, he0⟩ : ∃ e0, cmayS S true = e0 := ⟨_, rfl⟩
        have HX := Lib.hid (show ccutS S img num newest size = _ by unfold ccutS; rw [hf, he0])
        rw [he0] at hm
        have HMF := Lib.hid hm
        clear hm hf he0
        have hg0 := object_spec img num w
        rw [g0] at hg0
        have HG0 := Lib.hid hg0
        clear hg0
        have hg1 := snaps_spec newest w
        rw [g1] at hg1
        have HG1 := Lib.hid hg1
        clear hg1
        have hg2 := within_spec 0 size w
        rw [g2] at hg2
        have HG2 := Lib.hid hg2
        clear hg2
        by_cases h0 : e0 = 0
        · subst h0
          have HX := Lib.hid (HX.out.trans (if_neg (by simp)))
          obtain ⟨wy, hwy⟩ : ∃ y, whyS S ⟨4, img, num, 0⟩ = y := ⟨_, rfl⟩
          obtain ⟨n0, hn0⟩ : ∃ y, lenAt S ⟨4, img, num, 0⟩ = y := ⟨_, rfl⟩
          have hns := lenAt_small HK.out.inv ⟨4, img, num, 0⟩
          rw [hn0] at hns
          have HWY := Lib.hid hwy
          have HN0 := Lib.hid hn0
          clear hwy hn0
          by_cases hc : wy ≠ 0 ∨ (0 < size ∧ n0 ≤ size)
          · have HX := Lib.hid (HX.out.trans (if_pos (show whyS S (dK img num 0) ≠ 0 ∨ (0 < size ∧ lenAt S (dK img num 0) ≤ size) by
              rw [show whyS S (dK img num 0) = wy from HWY.out, show lenAt S (dK img num 0) = n0 from HN0.out]; exact hc)))
            by_cases hw0 : wy = 0
            · subst hw0
              obtain ⟨hs0, hs1⟩ : 0 < size ∧ n0 ≤ size := by simpa using hc
              have d1 : decide (0 < size) = true := by simpa using hs0
              have d2 : decide (n0 ≤ size) = true := by simpa using hs1
              go_enter Tryz.func33, Tryz.ntmps33
              go_wp2_with fail
              refine HG0.out.mono ?_
              rintro e w2 ⟨rfl, rfl⟩
              go_wp2_with fail
              refine HG1.out.mono ?_
              rintro e w2 ⟨rfl, rfl⟩
              go_wp2_with fail
              refine HG2.out.mono ?_
              rintro e w2 ⟨rfl, rfl⟩
              go_wp2_with fail
              refine HMF.out.mono ?_
              rintro e w2 ⟨rfl, rfl⟩
              go_wp2_with fail
              refine (ckey_spec img num 0 w).mono ?_
              rintro e w3 ⟨rfl, hb3⟩
              obtain ⟨I3, hs3, hI3, h3⟩ := ((H.out.keep hb3).alloc (.cells #[.int .i64 4, .int .i64 img, .int .i64 num, .int .i64 0] 81)).freeze
              obtain ⟨x0, x1, x2, x3⟩ := imm_cells4 h3 hI3
              have hsz := size_of ⟨4, img, num, 0⟩ h3
              rw [HWY.out, HN0.out] at hsz
              simp only [K4.val] at hsz
              have HSZ := Lib.hid hsz
              have H3 := Lib.hid h3
              have HS3 := Lib.hid hs3
              have HI3 := Lib.hid hI3
              clear hb3 h3 hs3 hI3 hsz
              go_wp2_with fail
              refine HSZ.out.mono ?_
              rintro e w4 ⟨hb4, rfl⟩
              have h4 := H3.out.keep hb4
              have H4 := Lib.hid h4
              clear x0 x1 x2 x3 hb4
              clear h4
              go_wp2_with fail
              go_ret
              rw [HX.out]
              exact ⟨I3, HS3.out, rfl, H4.out⟩
            · have d0 : (wy != 0) = true := by simpa using hw0
              go_enter Tryz.func33, Tryz.ntmps33
              go_wp2_with fail
              refine HG0.out.mono ?_
              rintro e w2 ⟨rfl, rfl⟩
              go_wp2_with fail
              refine HG1.out.mono ?_
              rintro e w2 ⟨rfl, rfl⟩
              go_wp2_with fail
              refine HG2.out.mono ?_
              rintro e w2 ⟨rfl, rfl⟩
              go_wp2_with fail
              refine HMF.out.mono ?_
              rintro e w2 ⟨rfl, rfl⟩
              go_wp2_with fail
              refine (ckey_spec img num 0 w).mono ?_
              rintro e w3 ⟨rfl, hb3⟩
              obtain ⟨I3, hs3, hI3, h3⟩ := ((H.out.keep hb3).alloc (.cells #[.int .i64 4, .int .i64 img, .int .i64 num, .int .i64 0] 81)).freeze
              obtain ⟨x0, x1, x2, x3⟩ := imm_cells4 h3 hI3
              have hsz := size_of ⟨4, img, num, 0⟩ h3
              rw [HWY.out, HN0.out] at hsz
              simp only [K4.val] at hsz
              have HSZ := Lib.hid hsz
              have H3 := Lib.hid h3
              have HS3 := Lib.hid hs3
              have HI3 := Lib.hid hI3
              clear hb3 h3 hs3 hI3 hsz
              go_wp2_with fail
              refine HSZ.out.mono ?_
              rintro e w4 ⟨hb4, rfl⟩
              have h4 := H3.out.keep hb4
              have H4 := Lib.hid h4
              clear x0 x1 x2 x3 hb4
              clear h4
              go_wp2_with fail
              go_ret
              rw [HX.out]
              exact ⟨I3, HS3.out, rfl, H4.out⟩
          · have HX := Lib.hid (HX.out.trans (if_neg (show ¬ (whyS S (dK img num 0) ≠ 0 ∨ (0 < size ∧ lenAt S (dK img num 0) ≤ size)) by
              rw [show whyS S (dK img num 0) = wy from HWY.out, show lenAt S (dK img num 0) = n0 from HN0.out]; exact hc)))
            obtain rfl : wy = 0 := by
              by_cases h : wy = 0
              · exact h
              · exact absurd (.inl h) hc
            obtain ⟨⟨e1, S1⟩, hae⟩ : ∃ r, aheadS S img num newest = r := ⟨_, rfl⟩
            have hk1 := aheadS_keeps (m := m + 6) (img := img) (num := num) (newest := newest) HK.out
            rw [hae] at hk1 HX
            have HAE := Lib.hid hae
            have HK1 := Lib.hid hk1
            clear hae hk1
            by_cases hs0 : size = 0
            · subst hs0
              go_enter Tryz.func33, Tryz.ntmps33
              go_wp2_with fail
              refine HG0.out.mono ?_
              rintro e w2 ⟨rfl, rfl⟩
              go_wp2_with fail
              refine HG1.out.mono ?_
              rintro e w2 ⟨rfl, rfl⟩
              go_wp2_with fail
              refine HG2.out.mono ?_
              rintro e w2 ⟨rfl, rfl⟩
              go_wp2_with fail
              refine HMF.out.mono ?_
              rintro e w2 ⟨rfl, rfl⟩
              go_wp2_with fail
              refine (ckey_spec img num 0 w).mono ?_
              rintro e w3 ⟨rfl, hb3⟩
              obtain ⟨I3, hs3, hI3, h3⟩ := ((H.out.keep hb3).alloc (.cells #[.int .i64 4, .int .i64 img, .int .i64 num, .int .i64 0] 81)).freeze
              obtain ⟨x0, x1, x2, x3⟩ := imm_cells4 h3 hI3
              have hsz := size_of ⟨4, img, num, 0⟩ h3
              rw [HWY.out, HN0.out] at hsz
              simp only [K4.val] at hsz
              have HSZ := Lib.hid hsz
              have H3 := Lib.hid h3
              have HS3 := Lib.hid hs3
              have HI3 := Lib.hid hI3
              clear hb3 h3 hs3 hI3 hsz
              go_wp2_with fail
              refine HSZ.out.mono ?_
              rintro e w4 ⟨hb4, rfl⟩
              have h4 := H3.out.keep hb4
              have H4 := Lib.hid h4
              clear x0 x1 x2 x3 hb4
              have ha := ahead_spec img num newest h4 (m := m + 6) HK.out
              rw [HAE.out] at ha
              have HA := Lib.hid ha
              clear h4 ha
              go_wp2_with fail
              refine HA.out.mono ?_
              rintro e w5 ⟨I5, hs5, rfl, h5⟩
              by_cases he : e1 = 0
              · subst he
                have HX2 := Lib.hid (HX.out.trans ((thenE_ok _ _).trans (if_pos trivial)))
                obtain ⟨y0, y1, y2, y3⟩ := imm_cells4 h5 (hs5 _ _ HI3.out)
                have hdr := drop_spec ⟨4, img, num, 0⟩ h5 HK1.out
                simp only [K4.val] at hdr
                have HDR := Lib.hid hdr
                have HS5 := Lib.hid (HS3.out.trans hs5)
                clear h5 hs5 hdr
                go_wp2_with fail
                refine HDR.out.mono ?_
                rintro e w6 ⟨I6, hs6, rfl, h6⟩
                have H6 := Lib.hid h6
                have HS6 := Lib.hid (HS5.out.trans hs6)
                clear h6 hs6 y0 y1 y2 y3
                go_wp2_with fail
                go_ret
                rw [HX2.out]
                exact ⟨I6, HS6.out, rfl, H6.out⟩
              · have de : (e1 != 0) = true := by simpa using he
                have HX2 := Lib.hid (HX.out.trans (thenE_bad he _ _))
                have H5 := Lib.hid h5
                have HS5 := Lib.hid (HS3.out.trans hs5)
                clear h5 hs5
                go_wp2_with fail
                go_ret
                rw [HX2.out]
                exact ⟨I5, HS5.out, rfl, H5.out⟩
            · have dz : (size == 0) = false := by simpa using hs0
              have hspos : 0 < size := by
                unfold withinB at g2
                rw [decide_eq_true_eq] at g2
                omega
              have d1 : decide (0 < size) = true := by simpa using hspos
              have d2 : decide (n0 ≤ size) = false := by
                rw [decide_eq_false_iff_not]
                exact fun h => hc (.inr ⟨hspos, h⟩)
              go_enter Tryz.func33, Tryz.ntmps33
              go_wp2_with fail
              refine HG0.out.mono ?_
              rintro e w2 ⟨rfl, rfl⟩
              go_wp2_with fail
              refine HG1.out.mono ?_
              rintro e w2 ⟨rfl, rfl⟩
              go_wp2_with fail
              refine HG2.out.mono ?_
              rintro e w2 ⟨rfl, rfl⟩
              go_wp2_with fail
              refine HMF.out.mono ?_
              rintro e w2 ⟨rfl, rfl⟩
              go_wp2_with fail
              refine (ckey_spec img num 0 w).mono ?_
              rintro e w3 ⟨rfl, hb3⟩
              obtain ⟨I3, hs3, hI3, h3⟩ := ((H.out.keep hb3).alloc (.cells #[.int .i64 4, .int .i64 img, .int .i64 num, .int .i64 0] 81)).freeze
              obtain ⟨x0, x1, x2, x3⟩ := imm_cells4 h3 hI3
              have hsz := size_of ⟨4, img, num, 0⟩ h3
              rw [HWY.out, HN0.out] at hsz
              simp only [K4.val] at hsz
              have HSZ := Lib.hid hsz
              have H3 := Lib.hid h3
              have HS3 := Lib.hid hs3
              have HI3 := Lib.hid hI3
              clear hb3 h3 hs3 hI3 hsz
              go_wp2_with fail
              refine HSZ.out.mono ?_
              rintro e w4 ⟨hb4, rfl⟩
              have h4 := H3.out.keep hb4
              have H4 := Lib.hid h4
              clear x0 x1 x2 x3 hb4
              have ha := ahead_spec img num newest h4 (m := m + 6) HK.out
              rw [HAE.out] at ha
              have HA := Lib.hid ha
              clear h4 ha
              go_wp2_with fail
              refine HA.out.mono ?_
              rintro e w5 ⟨I5, hs5, rfl, h5⟩
              by_cases he : e1 = 0
              · subst he
                have HX2 := Lib.hid (HX.out.trans ((thenE_ok _ _).trans (if_neg hs0)))
                obtain ⟨y0, y1, y2, y3⟩ := imm_cells4 h5 (hs5 _ _ HI3.out)
                have hdr := trim_spec ⟨4, img, num, 0⟩ size h5 HK1.out
                simp only [K4.val] at hdr
                have HDR := Lib.hid hdr
                have HS5 := Lib.hid (HS3.out.trans hs5)
                clear h5 hs5 hdr
                go_wp2_with fail
                refine HDR.out.mono ?_
                rintro e w6 ⟨I6, hs6, rfl, h6⟩
                have H6 := Lib.hid h6
                have HS6 := Lib.hid (HS5.out.trans hs6)
                clear h6 hs6 y0 y1 y2 y3
                go_wp2_with fail
                go_ret
                rw [HX2.out]
                exact ⟨I6, HS6.out, rfl, H6.out⟩
              · have de : (e1 != 0) = true := by simpa using he
                have HX2 := Lib.hid (HX.out.trans (thenE_bad he _ _))
                have H5 := Lib.hid h5
                have HS5 := Lib.hid (HS3.out.trans hs5)
                clear h5 hs5
                go_wp2_with fail
                go_ret
                rw [HX2.out]
                exact ⟨I5, HS5.out, rfl, H5.out⟩
        · have d0 : (e0 != 0) = true := by simpa using h0
          have HX2 := Lib.hid (HX.out.trans (if_pos h0))
          go_enter Tryz.func33, Tryz.ntmps33
          go_wp2_with fail
          refine HG0.out.mono ?_
          rintro e w2 ⟨rfl, rfl⟩
          go_wp2_with fail
          refine HG1.out.mono ?_
          rintro e w2 ⟨rfl, rfl⟩
          go_wp2_with fail
          refine HG2.out.mono ?_
          rintro e w2 ⟨rfl, rfl⟩
          go_wp2_with fail
          refine HMF.out.mono ?_
          rintro e w2 ⟨rfl, rfl⟩
          go_wp2_with fail
          go_ret
          rw [HX2.out]
          exact ⟨I, Hp.sub.refl _, rfl, H.out⟩
end
section
variable {W w : World} {I : Hp} {l : List HP} {p : Nat} {S : Str}
set_option maxRecDepth 4000
set_option maxHeartbeats 8000000
theorem cback_spec (img num newest snap : Int) {m : Nat} (h : St W I w (storeHP p S :: l)) (hk : Keeps S (m + 16)) :
    Calls Tryz.prog 35 #[.pointer (some ⟨p, 0, none⟩), .int .i64 img, .int .i64 num, .int .i64 newest, .int .i64 snap] w (DoesE W I p l (cbackS S img num newest snap)) := by
  have hm := fun b => cmay_spec b h
  have HM := Lib.hid hm
  have H := Lib.hid h
  have HK := Lib.hid hk
  clear hm h hk
  cases g0 : objB img num with
  | false =>
    have hf : (objB img num && snapB newest && snapB snap) = false := by rw [g0] <;> simp
    have HX := Lib.hid (show cbackS S img num newest snap = ((cmayS S false), S) by unfold cbackS; rw [hf, if_pos (cmay_false S)])
    have hm := HM.out false
    have hne : (cmayS S false != 0) = true := by simpa using cmay_false S
    obtain ⟨e0, he0⟩ : ∃ e0, cmayS S false = e0 := ⟨_, rfl⟩
    rw [he0] at hm hne HX
    have HMF := Lib.hid hm
    clear hm hf he0
    have hg0 := object_spec img num w
    rw [g0] at hg0
    have HG0 := Lib.hid hg0
    clear hg0
    go_enter Tryz.func35, Tryz.ntmps35
    go_wp2_with fail
    refine HG0.out.mono ?_
    rintro e w2 ⟨rfl, rfl⟩
    go_wp2_with fail
    refine HMF.out.mono ?_
    rintro e w2 ⟨rfl, rfl⟩
    go_wp2_with fail
    go_ret
    rw [HX.out]
    exact ⟨I, Hp.sub.refl _, rfl, H.out⟩
  | true =>
    cases g1 : snapB newest with
    | false =>
      have hf : (objB img num && snapB newest && snapB snap) = false := by rw [g0, g1] <;> simp
      have HX := Lib.hid (show cbackS S img num newest snap = ((cmayS S false), S) by unfold cbackS; rw [hf, if_pos (cmay_false S)])
      have hm := HM.out false
      have hne : (cmayS S false != 0) = true := by simpa using cmay_false S
      obtain ⟨e0, he0⟩ : ∃ e0, cmayS S false = e0 := ⟨_, rfl⟩
      rw [he0] at hm hne HX
      have HMF := Lib.hid hm
      clear hm hf he0
      have hg0 := object_spec img num w
      rw [g0] at hg0
      have HG0 := Lib.hid hg0
      clear hg0
      have hg1 := snaps_spec newest w
      rw [g1] at hg1
      have HG1 := Lib.hid hg1
      clear hg1
      go_enter Tryz.func35, Tryz.ntmps35
      go_wp2_with fail
      refine HG0.out.mono ?_
      rintro e w2 ⟨rfl, rfl⟩
      go_wp2_with fail
      refine HG1.out.mono ?_
      rintro e w2 ⟨rfl, rfl⟩
      go_wp2_with fail
      refine HMF.out.mono ?_
      rintro e w2 ⟨rfl, rfl⟩
      go_wp2_with fail
      go_ret
      rw [HX.out]
      exact ⟨I, Hp.sub.refl _, rfl, H.out⟩
    | true =>
      cases g2 : snapB snap with
      | false =>
        have hf : (objB img num && snapB newest && snapB snap) = false := by rw [g0, g1, g2] <;> simp
        have HX := Lib.hid (show cbackS S img num newest snap = ((cmayS S false), S) by unfold cbackS; rw [hf, if_pos (cmay_false S)])
        have hm := HM.out false
        have hne : (cmayS S false != 0) = true := by simpa using cmay_false S
        obtain ⟨e0, he0⟩ : ∃ e0, cmayS S false = e0 := ⟨_, rfl⟩
        rw [he0] at hm hne HX
        have HMF := Lib.hid hm
        clear hm hf he0
        have hg0 := object_spec img num w
        rw [g0] at hg0
        have HG0 := Lib.hid hg0
        clear hg0
        have hg1 := snaps_spec newest w
        rw [g1] at hg1
        have HG1 := Lib.hid hg1
        clear hg1
        have hg2 := snaps_spec snap w
        rw [g2] at hg2
        have HG2 := Lib.hid hg2
        clear hg2
        go_enter Tryz.func35, Tryz.ntmps35
        go_wp2_with fail
        refine HG0.out.mono ?_
        rintro e w2 ⟨rfl, rfl⟩
        go_wp2_with fail
        refine HG1.out.mono ?_
        rintro e w2 ⟨rfl, rfl⟩
        go_wp2_with fail
        refine HG2.out.mono ?_
        rintro e w2 ⟨rfl, rfl⟩
        go_wp2_with fail
        refine HMF.out.mono ?_
        rintro e w2 ⟨rfl, rfl⟩
        go_wp2_with fail
        go_ret
        rw [HX.out]
        exact ⟨I, Hp.sub.refl _, rfl, H.out⟩
      | true =>
        have hf : (objB img num && snapB newest && snapB snap) = true := by rw [g0, g1, g2] <;> rfl
        have hm := HM.out true
        obtain ⟨e0, he0⟩ : ∃ e0, cmayS S true = e0 := ⟨_, rfl⟩
        have HX := Lib.hid (show cbackS S img num newest snap = _ by unfold cbackS; rw [hf, he0])
        rw [he0] at hm
        have HMF := Lib.hid hm
        clear hm hf he0
        have hg0 := object_spec img num w
        rw [g0] at hg0
        have HG0 := Lib.hid hg0
        clear hg0
        have hg1 := snaps_spec newest w
        rw [g1] at hg1
        have HG1 := Lib.hid hg1
        clear hg1
        have hg2 := snaps_spec snap w
        rw [g2] at hg2
        have HG2 := Lib.hid hg2
        clear hg2
        by_cases h0 : e0 = 0
        · subst h0
          have HX := Lib.hid (HX.out.trans (if_neg (by simp)))
          have ha := ahead_spec img num newest H.out (m := m + 6) HK.out
          obtain ⟨⟨e1, S1⟩, hae⟩ : ∃ r, aheadS S img num newest = r := ⟨_, rfl⟩
          have hk1 := aheadS_keeps (m := m + 6) (img := img) (num := num) (newest := newest) HK.out
          rw [hae] at ha hk1 HX
          have HA := Lib.hid ha
          have HK1 := Lib.hid hk1
          clear ha hae hk1
          go_enter Tryz.func35, Tryz.ntmps35
          go_wp2_with fail
          refine HG0.out.mono ?_
          rintro e w2 ⟨rfl, rfl⟩
          go_wp2_with fail
          refine HG1.out.mono ?_
          rintro e w2 ⟨rfl, rfl⟩
          go_wp2_with fail
          refine HG2.out.mono ?_
          rintro e w2 ⟨rfl, rfl⟩
          go_wp2_with fail
          refine HMF.out.mono ?_
          rintro e w2 ⟨rfl, rfl⟩
          go_wp2_with fail
          refine HA.out.mono ?_
          rintro e w3 ⟨I3, hs3, rfl, h3⟩
          by_cases he : e1 = 0
          · subst he
            have HX2 := Lib.hid (HX.out.trans (thenE_ok _ _))
            have hat := at_spec img num snap h3 HK1.out.inv
            obtain ⟨⟨⟨k0, k1, k2, k3⟩, bb⟩, hate⟩ : ∃ r, atS S1 img num snap = r := ⟨_, rfl⟩
            have HBL := Lib.hid (show backL S1 img num snap = if bb then allS S1 ⟨k0, k1, k2, k3⟩ else [] by unfold backL; rw [hate])
            rw [hate] at hat
            simp only [K4.val] at hat
            have HAT := Lib.hid hat
            have H3 := Lib.hid h3
            have HS3 := Lib.hid hs3
            clear h3 hs3 hat hate
            go_wp2_with fail
            refine HAT.out.mono ?_
            rintro e w4 ⟨I4, hs4, rfl, h4⟩
            obtain ⟨I5, hs5, hI5, h5⟩ := (h4.alloc (.cells #[.int .i64 k0, .int .i64 k1, .int .i64 k2, .int .i64 k3] 81)).freeze
            obtain ⟨x0, x1, x2, x3⟩ := imm_cells4 h5 hI5
            have hal := all_spec ⟨k0, k1, k2, k3⟩ h5 HK1.out.inv
            have hasm := allS_small HK1.out.inv ⟨k0, k1, k2, k3⟩
            simp only [K4.val] at hal
            have HAL := Lib.hid hal
            have H5 := Lib.hid h5
            have HS5 := Lib.hid ((HS3.out.trans hs4).trans hs5)
            clear h4 hs4 hs5 hI5 h5 hal H3
            cases bb with
            | false =>
              have HB2 := Lib.hid (HX2.out.trans (show _ = turnS S1 (dK img num 0) [] by rw [HBL.out]; rfl))
              clear x0 x1 x2 x3
              go_wp2_with fail
              refine (ckey_spec img num 0 _).mono ?_
              rintro e w6 ⟨rfl, hb6⟩
              have h6 := H5.out.keep hb6
              have htu := turn_spec ⟨4, img, num, 0⟩ (.slice none 0 0) [] h6 HK1.out (bytes_nil _) (by simp)
              simp only [K4.val] at htu
              have HTU := Lib.hid htu
              clear h6 hb6 htu
              go_wp2_with fail
              refine HTU.out.mono ?_
              rintro e w7 ⟨I7, hs7, rfl, h7⟩
              have H7 := Lib.hid h7
              have HS7 := Lib.hid (HS5.out.trans hs7)
              clear h7 hs7
              go_wp2_with fail
              go_ret
              rw [HB2.out]
              exact ⟨I7, HS7.out, rfl, H7.out⟩
            | true =>
              have HB2 := Lib.hid (HX2.out.trans (show _ = turnS S1 (dK img num 0) (allS S1 ⟨k0, k1, k2, k3⟩) by rw [HBL.out]; rfl))
              go_wp2_with fail
              refine HAL.out.mono ?_
              rintro e w6 ⟨hb6, v6, rfl, ho6⟩
              obtain ⟨I6, hs6, hr6, h6⟩ := (H5.out.row_fresh hb6 ho6).freeze_row
              obtain ⟨A6, c6, rfl⟩ := is_slice ho6
              have H6 := Lib.hid h6
              have HR6 : Hid (BytesI I6 (.slice A6 (allS S1 ⟨k0, k1, k2, k3⟩).length c6) (allS S1 ⟨k0, k1, k2, k3⟩)) := Lib.hid hr6
              have HS6 := Lib.hid (HS5.out.trans hs6)
              clear h6 hs6 hr6 ho6 hb6 x0 x1 x2 x3
              go_wp2_with fail
              refine (ckey_spec img num 0 _).mono ?_
              rintro e w7 ⟨rfl, hb7⟩
              have h7 := H6.out.keep hb7
              have htu := turn_spec ⟨4, img, num, 0⟩ _ (allS S1 ⟨k0, k1, k2, k3⟩) h7 HK1.out HR6.out hasm
              simp only [K4.val] at htu
              have HTU := Lib.hid htu
              clear h7 hb7 htu
              go_wp2_with fail
              refine HTU.out.mono ?_
              rintro e w8 ⟨I8, hs8, rfl, h8⟩
              have H8 := Lib.hid h8
              have HS8 := Lib.hid (HS6.out.trans hs8)
              clear h8 hs8
              go_wp2_with fail
              go_ret
              rw [HB2.out]
              exact ⟨I8, HS8.out, rfl, H8.out⟩
          · have de : (e1 != 0) = true := by simpa using he
            have HX2 := Lib.hid (HX.out.trans (thenE_bad he _ _))
            have H3 := Lib.hid h3
            have HS3 := Lib.hid hs3
            clear h3 hs3
            go_wp2_with fail
            go_ret
            rw [HX2.out]
            exact ⟨I3, HS3.out, rfl, H3.out⟩
        · have d0 : (e0 != 0) = true := by simpa using h0
          have HX2 := Lib.hid (HX.out.trans (if_pos h0))
          go_enter Tryz.func35, Tryz.ntmps35
          go_wp2_with fail
          refine HG0.out.mono ?_
          rintro e w2 ⟨rfl, rfl⟩
          go_wp2_with fail
          refine HG1.out.mono ?_
          rintro e w2 ⟨rfl, rfl⟩
          go_wp2_with fail
          refine HG2.out.mono ?_
          rintro e w2 ⟨rfl, rfl⟩
          go_wp2_with fail
          refine HMF.out.mono ?_
          rintro e w2 ⟨rfl, rfl⟩
          go_wp2_with fail
          go_ret
          rw [HX2.out]
          exact ⟨I, Hp.sub.refl _, rfl, H.out⟩
end
end Go.Proofs.YtbepmbcbcklmlaaGreat
