/- CowOld: the walk, the whole. -/
import Derived.Test.YtbepmbcbcklmlaaLawOld
set_option linter.unusedSimpArgs false
set_option linter.unusedVariables false
set_option linter.unusedSectionVars false
namespace Go.Proofs.Ytbepmbcbcklmlaa
open Go.RowKit
section
set_option maxRecDepth 4000
set_option maxHeartbeats 8000000
theorem old_walk (v0 v1 v3 v4 : Value) (one two : List A17) (mark torn : Int) (fz kp : List Int) (W : World) (h1 : RowI W.hp 8 v0 one.length (one.flatMap A17.vals)) (hok1 : ∀ a ∈ one, a.ok W.hp) (hn1 : one.length ≤ maxLen)
    (h2 : RowI W.hp 8 v1 two.length (two.flatMap A17.vals)) (hok2 : ∀ a ∈ two, a.ok W.hp) (hn2 : two.length ≤ maxLen) (hf : IntsI W.hp v3 fz) (hfl : fz.length ≤ maxLen) (hkp : IntsI W.hp v4 kp) (hkl : kp.length ≤ maxLen) :
    Calls Try.prog 4 #[v0, v1, .int .i64 mark, v3, v4, .int .i64 torn] W fun e w' => e = .returned (.bool true) ∧ Below W.heap.size W w' := by
  unfold maxLen at hn1 hn2 hfl hkl
  have hfs1 := few17_spec v0 one 30 W h1 hok1 (by unfold maxLen; omega)
  have hfs2 := few17_spec v1 two 30 W h2 hok2 (by unfold maxLen; omega)
  have H1 := Lib.hid h1
  have HOK1 := Lib.hid hok1
  have H2r := Lib.hid h2
  have HOK2 := Lib.hid hok2
  have HF := Lib.hid hf
  have HKP := Lib.hid hkp
  obtain ⟨A0, c0, rfl, _⟩ := h1
  obtain ⟨A1, c1, rfl, _⟩ := h2
  obtain ⟨A3, c3, rfl, _⟩ := hf
  obtain ⟨A4, c4, rfl, _⟩ := hkp
  clear hok1 hok2
  cases hfw1 : few17 one 30 with
  | false =>
    rw [hfw1] at hfs1
    have HFS1 := Lib.hid hfs1
    clear hfs1 hfs2
    go_enter Try.func4, Try.ntmps4
    go_wp2_with fail
    refine HFS1.out.mono ?_
    rintro e w1 ⟨rfl, rfl⟩
    go_wp2_with fail
    refine (known17_spec _).mono ?_
    rintro e w9 ⟨rfl, hb9⟩
    have HB := Lib.hid hb9
    clear hb9
    go_wp2_with fail
    go_ret
    exact ⟨rfl, HB.out⟩
  | true =>
    rw [hfw1] at hfs1
    have HFS1 := Lib.hid hfs1
    have hl1 : one.length ≤ 30 := by
      unfold few17 at hfw1
      simp only [Bool.and_eq_true, decide_eq_true_eq] at hfw1
      omega
    clear hfs1 hfw1
    cases hfw2 : few17 two 30 with
    | false =>
      rw [hfw2] at hfs2
      have HFS2 := Lib.hid hfs2
      clear hfs2
      go_enter Try.func4, Try.ntmps4
      go_wp2_with fail
      refine HFS1.out.mono ?_
      rintro e w1 ⟨rfl, rfl⟩
      go_wp2_with fail
      refine HFS2.out.mono ?_
      rintro e w1 ⟨rfl, rfl⟩
      go_wp2_with fail
      refine (known17_spec _).mono ?_
      rintro e w9 ⟨rfl, hb9⟩
      have HB := Lib.hid hb9
      clear hb9
      go_wp2_with fail
      go_ret
      exact ⟨rfl, HB.out⟩
    | true =>
      rw [hfw2] at hfs2
      have HFS2 := Lib.hid hfs2
      obtain ⟨hl2, hm2⟩ : two.length ≤ 30 ∧ ∀ a ∈ two, a.ms.length ≤ 20 := by
        unfold few17 at hfw2
        simp only [Bool.and_eq_true, decide_eq_true_eq, List.all_eq_true] at hfw2
        refine ⟨by omega, fun a ha => ?_⟩
        have := hfw2.1 a ha
        unfold A17.few at this
        rw [decide_eq_true_eq] at this
        omega
      have HMS2 := Lib.hid hm2
      clear hfs2 hfw2 hm2
      by_cases hf30 : 30 < fz.length
      · have d3 : decide (30 < (fz.length : Int)) = true := by rw [decide_eq_true_eq]; omega
        go_enter Try.func4, Try.ntmps4
        go_wp2_with fail
        refine HFS1.out.mono ?_
        rintro e w1 ⟨rfl, rfl⟩
        go_wp2_with fail
        refine HFS2.out.mono ?_
        rintro e w1 ⟨rfl, rfl⟩
        go_wp2_with fail
        refine (known17_spec _).mono ?_
        rintro e w9 ⟨rfl, hb9⟩
        have HB := Lib.hid hb9
        clear hb9
        go_wp2_with fail
        go_ret
        exact ⟨rfl, HB.out⟩
      · have d3 : decide (30 < (fz.length : Int)) = false := by rw [decide_eq_false_iff_not]; omega
        by_cases hk20 : 20 < kp.length
        · have d4 : decide (20 < (kp.length : Int)) = true := by rw [decide_eq_true_eq]; omega
          go_enter Try.func4, Try.ntmps4
          go_wp2_with fail
          refine HFS1.out.mono ?_
          rintro e w1 ⟨rfl, rfl⟩
          go_wp2_with fail
          refine HFS2.out.mono ?_
          rintro e w1 ⟨rfl, rfl⟩
          go_wp2_with fail
          refine (known17_spec _).mono ?_
          rintro e w9 ⟨rfl, hb9⟩
          have HB := Lib.hid hb9
          clear hb9
          go_wp2_with fail
          go_ret
          exact ⟨rfl, HB.out⟩
        · have d4 : decide (20 < (kp.length : Int)) = false := by rw [decide_eq_false_iff_not]; omega
          obtain ⟨m7, hm7⟩ : ∃ x, mark % 8 = x := ⟨_, rfl⟩
          have hand : bits .and .i64 mark 7 = m7 := (i64_and7 mark).trans hm7
          obtain ⟨mk, hmk⟩ : ∃ x, 1 + m7 = x := ⟨_, rfl⟩
          have hwr : IntKind.i64.wrap (1 + m7) = mk := by rw [IntKind.wrap_i64]; omega
          have HM0 := Lib.hid (show 0 < mk ∧ mk ≤ 8 by omega)
          clear hmk hm7
          go_enter Try.func4, Try.ntmps4
          go_wp2_with fail
          refine HFS1.out.mono ?_
          rintro e w1 ⟨rfl, rfl⟩
          go_wp2_with fail
          refine HFS2.out.mono ?_
          rintro e w1 ⟨rfl, rfl⟩
          go_wp2_with fail
          refine (new_spec 1048576 (St.init W)).mono ?_
          rintro e w2 ⟨p, rfl, h2⟩
          have H2 := Lib.hid h2
          clear h2 HFS1 HFS2
          go_upto_region 7 with fail
          refine old_ones (by assumption) (by kernel_rfl) (ls := one) (mark := mk) H2.out HM0.out Calm17.new (low_new mk) ((keeps_new _).fewer (by omega)) H1.out HOK1.out (by omega) ?_
          intro q12 q14 q15 q53 q54 q55 q56 q57 q58 q59 q60 q61 q62 q63 q64 q65 q66 q67 q68 q69 q70 q71 q72 I3 w3 S3 hs3 hc3 hlo3 hk3 h3
          have hbs := barrier_spec h3 hk3
          obtain ⟨b1, b2, b3⟩ := start_old HM0.out.1 hc3 hlo3
          have b4 := barrierS_keeps hk3
          obtain ⟨r3, hr3⟩ : ∃ r, barrierS S3 = r := ⟨_, rfl⟩
          rw [hr3] at hbs b1 b2 b3 b4
          obtain ⟨e3, S4⟩ := r3
          simp only at hbs b1 b2 b3 b4
          subst b1
          have HBS := Lib.hid hbs
          have HL := Lib.hid b2
          have HO := Lib.hid b3
          have HK := Lib.hid b4
          have HS3 := Lib.hid hs3
          clear hbs b2 b3 b4 hs3 hc3 hlo3 hk3 h3 hr3
          go_wp2_with fail
          refine HBS.out.mono ?_
          rintro e w4 ⟨I4, hs4, rfl, h4⟩
          have mk1 := make_strings w4
          have mk2 := make_bools4 (w4.alloc (.cells (genArr fun _ => .string ⟨#[]⟩) 9))
          have h5 := (h4.alloc (.cells (genArr fun _ => .string ⟨#[]⟩) 9)).alloc (.cells (genArr fun _ => .bool false) 4)
          obtain ⟨bt, hbt⟩ : ∃ x, (w4.alloc (.cells (genArr fun _ => .string ⟨#[]⟩) 9)).heap.size = x := ⟨_, rfl⟩
          obtain ⟨w5, hw5⟩ : ∃ x, w4.alloc (.cells (genArr fun _ => .string ⟨#[]⟩) 9) = x := ⟨_, rfl⟩
          rw [hw5] at mk1 mk2 h5 hbt
          rw [hbt] at mk2 h5
          obtain ⟨w6, hw6⟩ : ∃ x, w5.alloc (.cells (genArr fun _ => .bool false) 4) = x := ⟨_, rfl⟩
          rw [hw6] at mk2 h5
          have H5 := Lib.hid (h5.pull 1 _ rfl)
          have HS4 := Lib.hid (HS3.out.trans hs4)
          clear h4 h5 hs4 HBS hbt hw5 hw6
          go_upto_region 18 with fail
          refine old_was (by assumption) (by kernel_rfl) H5.out HK.out.inv HL.out ?_
          intro r18 r19 r20 r78 r79 r80 r81 r82 r83 r84 r85 r86 r87 r88 r89 r90 r91 r92 r93 r94 r95 r96 r97 r98 r99 r100 r101 I6 w7 cw ct hs6 h6 hcw hct hwc htc
          have H6 := Lib.hid h6
          have HS6 := Lib.hid (HS4.out.trans hs6)
          have HCW := Lib.hid hcw
          have HCT := Lib.hid hct
          have HWC := Lib.hid hwc
          have HTC := Lib.hid htc
          clear h6 hs6 hcw hct hwc htc
          go_upto_region 24 with fail
          refine old_twos (by assumption) (by kernel_rfl) (two := two) (mark := mk) (fz := fz) (kp := kp) H6.out HM0.out HL.out HO.out (HK.out.fewer (by omega)) (H2r.out.mono HS6.out) (fun a ha => A17.ok_mono (HOK2.out a ha) HS6.out) (by omega) HMS2.out ((intsIP _ _).mono HS6.out HF.out) ((intsIP _ _).mono HS6.out HKP.out) (by omega) (by omega) HCW.out HCT.out HWC.out HTC.out ?_
          intro s12 s21 s22 s23 s24 s25 s26 s27 s102 s103 s104 s105 s106 s107 s108 s109 s110 s111 s112 s113 s114 s115 s116 s117 s118 s119 s120 s121 s122 s123 s124 s125 s126 s127 s128 s129 s130 s131 s132 s133 s134 s135 s136 s137 s138 s139 s140 s141 s142 s143 s144 s145 s146 s147 s148 s149 s150 s151 s152 s153 s154 s155 s156 s157 s158 s159 s160 s161 s162 s163 s164 s165 s166 s167 s168 s169 s170 s171 s172 s173 s174 s175 s176 s177 s178 s179 s180 s181 s182 s183 s184 s185 s186 s187 s188 s189 s190 s191 s192 s193 s194 I8 w8 S8 hs8 h8
          have H8 := Lib.hid h8
          clear h8 hs8
          go_wp2_with fail
          refine (known17_spec _).mono ?_
          rintro e w9 ⟨rfl, hb9⟩
          have HB := Lib.hid (H8.out.keep hb9)
          clear hb9
          go_wp2_with fail
          go_ret
          exact ⟨rfl, HB.out.below⟩
end
end Go.Proofs.Ytbepmbcbcklmlaa
