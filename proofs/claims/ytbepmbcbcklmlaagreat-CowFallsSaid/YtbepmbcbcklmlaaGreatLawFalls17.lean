/- CowFalls: the law's walk. -/
import Derived.Test.YtbepmbcbcklmlaaGreatLawFalls17b
set_option linter.unusedSimpArgs false
set_option linter.unusedVariables false
set_option linter.unusedSectionVars false
namespace Go.Proofs.YtbepmbcbcklmlaaGreat
open Go.RowKit
section
set_option maxRecDepth 4000
set_option maxHeartbeats 8000000
theorem falls_walk (v0 v1 v2 : Value) (ls : List A17) (fz kp : List Int) (torn : Int) (W : World) (h1 : RowI W.hp 8 v0 ls.length (ls.flatMap A17.vals)) (hok : ∀ a ∈ ls, a.ok W.hp) (hn : ls.length ≤ maxLen)
    (hf : IntsI W.hp v1 fz) (hfl : fz.length ≤ maxLen) (hkp : IntsI W.hp v2 kp) (hkl : kp.length ≤ maxLen) :
    Calls Tryz.prog 4 #[v0, v1, v2, .int .i64 torn] W fun e w' => e = .returned (.bool true) ∧ Below W.heap.size W w' := by
  unfold maxLen at hn hfl hkl
  have hn1 : (ls.length : Int) ≤ 9223372036854775807 := by omega
  have hfs := few17_spec v0 ls 40 W h1 hok (by unfold maxLen; omega)
  have H1 := Lib.hid h1
  have HOK := Lib.hid hok
  have HF := Lib.hid hf
  have HKP := Lib.hid hkp
  obtain ⟨A1, c1, rfl, _⟩ := h1
  obtain ⟨Af, cf, rfl, _⟩ := hf
  obtain ⟨Ak, ck, rfl, _⟩ := hkp
  clear hok
  cases hfw : few17 ls 40 with
  | false =>
    rw [hfw] at hfs
    have HFS := Lib.hid hfs
    clear hfs
    go_enter Tryz.func4, Tryz.ntmps4
    go_wp2_with fail
    refine HFS.out.mono ?_
    rintro e w1 ⟨rfl, rfl⟩
    go_wp2_with fail
    refine (known17_spec _).mono ?_
    rintro e w9 ⟨rfl, hb9⟩
    have HB := Lib.hid hb9
    clear hb9
    go_wp2_with fail
    go_ret
    exact ⟨rfl, HB.out⟩
  | true =>
    rw [hfw] at hfs
    have HFS := Lib.hid hfs
    obtain ⟨hl40, hfew⟩ : ls.length ≤ 40 ∧ ∀ a ∈ ls, a.p.length ≤ 100 ∧ a.ms.length ≤ 20 := by
      unfold few17 at hfw
      simp only [Bool.and_eq_true, decide_eq_true_eq, List.all_eq_true] at hfw
      refine ⟨by omega, fun a ha => ?_⟩
      have := hfw.1 a ha
      unfold A17.few at this
      rw [decide_eq_true_eq] at this
      omega
    have HFEW := Lib.hid hfew
    clear hfs hfw hfew
    by_cases hf40 : 40 < fz.length
    · have d1 : decide ((40 : Int) < (fz.length : Int)) = true := by rw [decide_eq_true_eq]; omega
      go_enter Tryz.func4, Tryz.ntmps4
      go_wp2_with fail
      refine HFS.out.mono ?_
      rintro e w1 ⟨rfl, rfl⟩
      go_wp2_with fail
      refine (known17_spec _).mono ?_
      rintro e w9 ⟨rfl, hb9⟩
      have HB := Lib.hid hb9
      clear hb9
      go_wp2_with fail
      go_ret
      exact ⟨rfl, HB.out⟩
    · have d1 : decide ((40 : Int) < (fz.length : Int)) = false := by rw [decide_eq_false_iff_not]; omega
      by_cases hk20 : 20 < kp.length
      · have d2 : decide ((20 : Int) < (kp.length : Int)) = true := by rw [decide_eq_true_eq]; omega
        go_enter Tryz.func4, Tryz.ntmps4
        go_wp2_with fail
        refine HFS.out.mono ?_
        rintro e w1 ⟨rfl, rfl⟩
        go_wp2_with fail
        refine (known17_spec _).mono ?_
        rintro e w9 ⟨rfl, hb9⟩
        have HB := Lib.hid hb9
        clear hb9
        go_wp2_with fail
        go_ret
        exact ⟨rfl, HB.out⟩
      · have d2 : decide ((20 : Int) < (kp.length : Int)) = false := by rw [decide_eq_false_iff_not]; omega
        go_enter Tryz.func4, Tryz.ntmps4
        go_wp2_with fail
        refine HFS.out.mono ?_
        rintro e w1 ⟨rfl, rfl⟩
        go_wp2_with fail
        refine (new_spec 1048576 (St.init W)).mono ?_
        rintro e w2 ⟨p, rfl, h2⟩
        have mk := make_objects w2
        obtain ⟨I3, hs3, hro3, h3⟩ := none4_row (h2.alloc (.cells zero12 47))
        obtain ⟨gz, hgz⟩ : ∃ x, w2.heap.size = x := ⟨_, rfl⟩
        obtain ⟨w3, hw3⟩ : ∃ x, w2.alloc (.cells zero12 47) = x := ⟨_, rfl⟩
        rw [hw3] at mk h3
        rw [hgz] at mk hro3
        have H3 := Lib.hid h3
        have HS3 := Lib.hid hs3
        have HRO3 := Lib.hid hro3
        clear h2 h3 hs3 hro3 hgz hw3 HFS
        go_wp2_with fail
        go_loopw [10, 11] (fun a10 a11 wr => ∃ (i : Nat) (S : Str) (I1 : Hp) (os : List O17) (rv : Value), a11 = .int .i64 i ∧ rv = a10 ∧ i ≤ ls.length ∧ Live U17 S ∧ Still S ∧ Sim S (os.map O17.r) ∧ Keeps S (90000 - 900 * i) ∧ W.hp.sub I1 ∧ RowO I1 rv os ∧ (∀ o ∈ os, o.cs.length ≤ i) ∧ St W I1 wr (storeHP p S :: [])) (fun _ a11 _ => ls.length - (intOf a11).toNat)
        case atStart => exact ⟨0, newS 1048576, I3, none4, .slice (some ⟨gz, 0, none⟩) 4 4, rfl, rfl, Nat.zero_le _, ⟨CInv.new.wider (fun k hk => by cases hk), rfl⟩, still_new _, Sim.new, (keeps_new _).fewer (by omega), HS3.out, HRO3.out, none4_cs, H3.out⟩
        case round =>
          obtain ⟨i, S, I1, os, rv, rfl, rfl, hi, hlv, hstl, hsim, hk, hI1, hrow, hbnd, hst⟩ := hrel
          have HLV := Lib.hid hlv
          have HSTL := Lib.hid hstl
          have HSIM := Lib.hid hsim
          have HK := Lib.hid hk
          have HI1 := Lib.hid hI1
          have HROW := Lib.hid hrow
          have HBND := Lib.hid hbnd
          have HST := Lib.hid hst
          clear hlv hstl hsim hk hrow hbnd
          by_cases hlt : i < ls.length
          · have d0 : decide ((i : Int) < (ls.length : Int)) = true := by rw [decide_eq_true_eq]; omega
            obtain ⟨a, ha⟩ : ∃ a, ls[i]? = some a := ⟨_, List.getElem?_eq_getElem hlt⟩
            obtain ⟨b, off', e1, hc⟩ := rowk_cell (i := i) H1.out hI1 hst (fun _ => rfl) ha
            simp only [Value.slice.injEq, and_true] at e1
            subst e1
            have ham := List.mem_of_getElem? ha
            have hoka := A17.ok_mono (HOK.out a ham) hI1
            have hfw := HFEW.out a ham
            have y0 := hc 0 (by omega)
            have y1 := hc 1 (by omega)
            have y2 := hc 2 (by omega)
            have y3 := hc 3 (by omega)
            have y4 := hc 4 (by omega)
            have y5 := hc 5 (by omega)
            have y6 := hc 6 (by omega)
            have y7 := hc 7 (by omega)
            obtain ⟨Bp, bcp, hbpv, _⟩ := hoka.1
            obtain ⟨Bm, bcm, hbmv, _⟩ := hoka.2.1
            have hml := mild_spec a hst hoka
            obtain ⟨hmok, hmpl⟩ := mild_ok hoka
            have hfi : Fine U17 0 a.mild := mild_fine (by omega) a
            have hmn := mild_num a
            have hmm : a.mild.ms = a.ms := rfl
            obtain ⟨B, hB⟩ : ∃ B, a.mild = B := ⟨_, rfl⟩
            rw [hB] at hml hmok hmpl hmm hfi hmn
            obtain ⟨Cp, ccp, hcpv, _⟩ := hmok.1
            obtain ⟨Cm, ccm, hcmv, _⟩ := hmok.2.1
            obtain ⟨b0, b1, b2, b3, b4, b5, bp, bpv, bms, bmv⟩ := a
            obtain ⟨m0, m1, m2, m3, m4, m5, mp, mpv, mms, mmv⟩ := B
            simp only at hbpv hbmv hcpv hcmv hmpl hfw hmm
            subst hbpv hbmv hcpv hcmv
            simp only [A17.vals, List.getElem?_cons_succ, List.getElem?_cons_zero, Nat.add_zero] at y0 y1 y2 y3 y4 y5 y6 y7
            simp only [A17.val, A17.vals] at hml
            have HML := Lib.hid hml
            have HMOK := Lib.hid hmok
            have HMPL := Lib.hid hmpl
            have HMM := Lib.hid hmm
            have HMF := Lib.hid hfi
            have HMN := Lib.hid hmn
            clear hoka hml hmok hmpl hc ha ham hI1 hB hmm hfi hmn
            go_wp2_with fail
            refine HML.out.mono ?_
            rintro e w5 ⟨rfl, hb5⟩
            obtain ⟨I6, hs6, hA6, h6⟩ := ((hst.keep hb5).alloc (.cells #[.int .i64 m0, .int .i64 m1, .int .i64 m2, .int .i64 m3, .int .i64 m4, .int .i64 m5, .slice Cp mp.length ccp, .slice Cm mms.length ccm] 31)).freeze
            obtain ⟨g, hg⟩ : ∃ x, w5.heap.size = x := ⟨_, rfl⟩
            rw [hg] at hA6
            obtain ⟨w6, hw6⟩ : ∃ x, w5.alloc (.cells #[.int .i64 m0, .int .i64 m1, .int .i64 m2, .int .i64 m3, .int .i64 m4, .int .i64 m5, .slice Cp mp.length ccp, .slice Cm mms.length ccm] 31) = x := ⟨_, rfl⟩
            rw [hw6] at h6
            have H6 := Lib.hid h6
            have HS6 := Lib.hid hs6
            have HA6 := Lib.hid hA6
            have HG := Lib.hid hg
            have HW6 := Lib.hid hw6
            clear h6 hs6 hA6 hb5 hst HML hg hw6
            go_upto_region 11 with fail
            rw [HW6.out, HG.out]
            have hsm := head_small HLV.out HSIM.out
            have hlen : os.length = 4 := by have := HSIM.out.len; rwa [List.length_map] at this
            have hth := theirs17_spec rv os ⟨m0, m1, m2, m3, m4, m5, mp, .slice Cp mp.length ccp, mms, .slice Cm mms.length ccm⟩ H6.out (HROW.out.mono HS6.out) (A17.ok_mono HMOK.out HS6.out) (by omega) (fun o ho => ⟨hsm o ho, by have := HBND.out o ho; omega⟩) (by have := HMM.out; simp only; rw [this]; omega)
              (fun e => by have q := HMF.out.span.1 e; unfold withinB at q; rw [decide_eq_true_eq] at q; omega) (fun e => by have q := HMF.out.span.2.1 e; unfold withinB at q; rw [decide_eq_true_eq] at q; omega) (fun e => by have q := HMF.out.span.2.2.1 e; unfold withinB at q; rw [decide_eq_true_eq] at q; omega) (fun e => by have q := HMF.out.span.2.2.2 e; unfold withinB at q; rw [decide_eq_true_eq] at q; omega)
            simp only [A17.val] at hth
            obtain ⟨x0, x1, x2, x3, x4, x5, x6, x7⟩ := act_cells H6.out HA6.out
            have HTH := Lib.hid hth
            clear hth hsm hlen HW6 HG
            go_wp2_with fail
            refine HTH.out.mono ?_
            rintro e w7 ⟨I7, ds, dv, hs7, rfl, hdr, hds, hdb, h7⟩
            have H7 := Lib.hid h7
            have HS7 := Lib.hid (HS6.out.trans hs7)
            have HDR := Lib.hid hdr
            have HDS := Lib.hid hds
            have HDB := Lib.hid (hdb i HBND.out)
            have HA7 := Lib.hid (hs7 _ _ HA6.out)
            have HSW := Lib.hid (HI1.out.trans HS7.out)
            have HOK7 := Lib.hid (A17.ok_mono HMOK.out HS7.out)
            clear h7 hs7 hdr hds hdb HTH x0 x1 x2 x3 x4 x5 x6 x7
            by_cases hif : i < fz.length
            · have d3 : decide ((i : Int) < (fz.length : Int)) = true := by rw [decide_eq_true_eq]; omega
              obtain ⟨x, hx⟩ : ∃ x, fz[i]? = some x := ⟨_, List.getElem?_eq_getElem hif⟩
              obtain ⟨bf, of, e3, hcf⟩ := intsI_cell H7.out ((intsIP _ _).mono HSW.out HF.out) hx
              simp only [Value.slice.injEq, and_true] at e3
              subst e3
              by_cases hbit : x % 2 = 1
              · have hb1 : bits .and .i64 x 1 = 1 := (i64_and1 x).trans hbit
                obtain ⟨f7, hf7⟩ : ∃ f7, x / 2 % 8 = f7 := ⟨_, rfl⟩
                have hb7 : bits .and .i64 (x / 2) 7 = f7 := (i64_and7 _).trans hf7
                have hfr : 0 ≤ f7 ∧ f7 < 8 := by omega
                have hfu := fuseC_spec f7 (.slice Ak kp.length ck) kp torn H7.out ((intsIP _ _).mono HSW.out HKP.out) (by omega)
                have HKX := Lib.hid (fuseS_keeps (n := f7) (keep := kp) (torn := torn) HK.out (by omega) (by omega))
                have HLX := Lib.hid (HLV.out.fuse f7 kp torn)
                have HSX : Hid (Still (fuseS S f7 kp torn)) := Lib.hid (by obtain ⟨f1, f2, f3, f4⟩ := fuse_seen S f7 kp torn; exact HSTL.out.of f2 f3 f1)
                have HSI : Hid (Sim (fuseS S f7 kp torn) (os.map O17.r)) := Lib.hid (sim_fuse HSIM.out f7 kp torn)
                have HFU := Lib.hid hfu
                clear hfu hx hbit hf7 hfr
                go_upto_region 15 with fail
                go_wp2_with fail
                refine HFU.out.mono ?_
                rintro e w11 ⟨I9, hs9, rfl, h11⟩
                have HX := Lib.hid h11
                have HIX := Lib.hid hs9
                clear h11 hs9 HFU
                go_upto_region 16 with fail
                refine falls_act (m := 89100 - 900 * i) (os := os) (ds := ds) (by assumption) (by kernel_rfl) ⟨m0, m1, m2, m3, m4, m5, mp, .slice Cp mp.length ccp, mms, .slice Cm mms.length ccm⟩ HX.out (HKX.out.fewer (by omega)) HLX.out HSX.out HSI.out (HROW.out.mono (HS7.out.trans HIX.out)) (fun o ho => by have := HBND.out o ho; omega) (HDR.out.mono HIX.out) HDS.out (fun o ho => by have := HDB.out o ho; omega) (HIX.out _ _ HA7.out) (A17.ok_mono HOK7.out HIX.out) (by have := HMPL.out; simp only; omega) (by have := HMM.out; simp only; rw [this]; omega) HMF.out HMN.out ((intsIP _ _).mono (HSW.out.trans HIX.out) HKP.out) (by omega) ?_
                intro q8 q15 q16 q72 q73 q74 q75 q76 q77 q78 q79 q80 q81 q82 q83 q84 q85 q86 q87 q88 q89 q90 q91 q92 q93 q94 q95 q96 q97 q98 q99 q100 q101 q102 q103 q104 q105 q106 q107 q108 q109 q110 q111 q112 q113 q114 q115 q116 q117 q118 q119 q120 q121 q122 q123 q124 q125 q126 q127 q128 q129 q130 q131 q132 q133 q134 q135 q136 q137 q138 q139 q140 q141 q142 q143 q144 q145 q146 q147 q148 q149 q150 I8 w8 S8 hs8 hl8 hc8 hst8 hsim8 hk8 h8
                have H8 := Lib.hid h8
                have HL8 := Lib.hid hl8
                have HST8 := Lib.hid hst8
                have HSIM8 := Lib.hid hsim8
                have HK8 := Lib.hid hk8
                have HS8 := Lib.hid (HIX.out.trans hs8)
                clear h8 hl8 hc8 hst8 hsim8 hk8 hs8
                go_wp2_with fail
                go_roundw
                case rel => exact ⟨i + 1, S8, I8, ds, dv, by go_num, rfl, by omega, HL8.out, HST8.out, HSIM8.out, HK8.out.fewer (by omega), HSW.out.trans HS8.out, HDR.out.mono HS8.out, HDB.out, H8.out⟩
                case measure => simp [intOf]; omega
              · have hb1 : bits .and .i64 x 1 = 0 := (i64_and1 x).trans (by omega)
                have HX := H7
                have HKX := HK
                have HLX := HLV
                have HSX := HSTL
                have HSI := HSIM
                have HIX := Lib.hid (Hp.sub.refl I7)
                clear hx hbit
                go_upto_region 16 with fail
                refine falls_act (m := 89100 - 900 * i) (os := os) (ds := ds) (by assumption) (by kernel_rfl) ⟨m0, m1, m2, m3, m4, m5, mp, .slice Cp mp.length ccp, mms, .slice Cm mms.length ccm⟩ HX.out (HKX.out.fewer (by omega)) HLX.out HSX.out HSI.out (HROW.out.mono (HS7.out.trans HIX.out)) (fun o ho => by have := HBND.out o ho; omega) (HDR.out.mono HIX.out) HDS.out (fun o ho => by have := HDB.out o ho; omega) (HIX.out _ _ HA7.out) (A17.ok_mono HOK7.out HIX.out) (by have := HMPL.out; simp only; omega) (by have := HMM.out; simp only; rw [this]; omega) HMF.out HMN.out ((intsIP _ _).mono (HSW.out.trans HIX.out) HKP.out) (by omega) ?_
                intro q8 q15 q16 q72 q73 q74 q75 q76 q77 q78 q79 q80 q81 q82 q83 q84 q85 q86 q87 q88 q89 q90 q91 q92 q93 q94 q95 q96 q97 q98 q99 q100 q101 q102 q103 q104 q105 q106 q107 q108 q109 q110 q111 q112 q113 q114 q115 q116 q117 q118 q119 q120 q121 q122 q123 q124 q125 q126 q127 q128 q129 q130 q131 q132 q133 q134 q135 q136 q137 q138 q139 q140 q141 q142 q143 q144 q145 q146 q147 q148 q149 q150 I8 w8 S8 hs8 hl8 hc8 hst8 hsim8 hk8 h8
                have H8 := Lib.hid h8
                have HL8 := Lib.hid hl8
                have HST8 := Lib.hid hst8
                have HSIM8 := Lib.hid hsim8
                have HK8 := Lib.hid hk8
                have HS8 := Lib.hid (HIX.out.trans hs8)
                clear h8 hl8 hc8 hst8 hsim8 hk8 hs8
                go_wp2_with fail
                go_roundw
                case rel => exact ⟨i + 1, S8, I8, ds, dv, by go_num, rfl, by omega, HL8.out, HST8.out, HSIM8.out, HK8.out.fewer (by omega), HSW.out.trans HS8.out, HDR.out.mono HS8.out, HDB.out, H8.out⟩
                case measure => simp [intOf]; omega
            · have d3 : decide ((i : Int) < (fz.length : Int)) = false := by rw [decide_eq_false_iff_not]; omega
              have HX := H7
              have HKX := HK
              have HLX := HLV
              have HSX := HSTL
              have HSI := HSIM
              have HIX := Lib.hid (Hp.sub.refl I7)
              go_upto_region 16 with fail
              refine falls_act (m := 89100 - 900 * i) (os := os) (ds := ds) (by assumption) (by kernel_rfl) ⟨m0, m1, m2, m3, m4, m5, mp, .slice Cp mp.length ccp, mms, .slice Cm mms.length ccm⟩ HX.out (HKX.out.fewer (by omega)) HLX.out HSX.out HSI.out (HROW.out.mono (HS7.out.trans HIX.out)) (fun o ho => by have := HBND.out o ho; omega) (HDR.out.mono HIX.out) HDS.out (fun o ho => by have := HDB.out o ho; omega) (HIX.out _ _ HA7.out) (A17.ok_mono HOK7.out HIX.out) (by have := HMPL.out; simp only; omega) (by have := HMM.out; simp only; rw [this]; omega) HMF.out HMN.out ((intsIP _ _).mono (HSW.out.trans HIX.out) HKP.out) (by omega) ?_
              intro q8 q15 q16 q72 q73 q74 q75 q76 q77 q78 q79 q80 q81 q82 q83 q84 q85 q86 q87 q88 q89 q90 q91 q92 q93 q94 q95 q96 q97 q98 q99 q100 q101 q102 q103 q104 q105 q106 q107 q108 q109 q110 q111 q112 q113 q114 q115 q116 q117 q118 q119 q120 q121 q122 q123 q124 q125 q126 q127 q128 q129 q130 q131 q132 q133 q134 q135 q136 q137 q138 q139 q140 q141 q142 q143 q144 q145 q146 q147 q148 q149 q150 I8 w8 S8 hs8 hl8 hc8 hst8 hsim8 hk8 h8
              have H8 := Lib.hid h8
              have HL8 := Lib.hid hl8
              have HST8 := Lib.hid hst8
              have HSIM8 := Lib.hid hsim8
              have HK8 := Lib.hid hk8
              have HS8 := Lib.hid (HIX.out.trans hs8)
              clear h8 hl8 hc8 hst8 hsim8 hk8 hs8
              go_wp2_with fail
              go_roundw
              case rel => exact ⟨i + 1, S8, I8, ds, dv, by go_num, rfl, by omega, HL8.out, HST8.out, HSIM8.out, HK8.out.fewer (by omega), HSW.out.trans HS8.out, HDR.out.mono HS8.out, HDB.out, H8.out⟩
              case measure => simp [intOf]; omega
          · obtain rfl : i = ls.length := by omega
            have d0 : decide (((ls.length : Nat) : Int) < (ls.length : Int)) = false := by rw [decide_eq_false_iff_not]; omega
            clear hst hI1
            go_wp2_with fail
            refine (known17_spec _).mono ?_
            rintro e w9 ⟨rfl, hb9⟩
            have HB := Lib.hid (HST.out.keep hb9)
            clear hb9
            go_wp2_with fail
            go_ret
            exact ⟨rfl, HB.out.below⟩
end
end Go.Proofs.YtbepmbcbcklmlaaGreat
