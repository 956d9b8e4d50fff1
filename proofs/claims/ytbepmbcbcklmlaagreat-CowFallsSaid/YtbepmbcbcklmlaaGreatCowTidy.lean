/- Package cow: Clear, Tidy. -/
import Derived.Test.YtbepmbcbcklmlaaGreatCowDo
import Derived.Deep.CutRange
set_option linter.unusedSimpArgs false
set_option linter.unusedVariables false
set_option linter.unusedSectionVars false
namespace Go.Proofs.YtbepmbcbcklmlaaGreat
open Go.RowKit
section
variable {W w : World} {I : Hp} {l : List HP} {p : Nat} {S : Str}
set_option maxRecDepth 4000
set_option maxHeartbeats 8000000
theorem cclear_spec (img num newest off n : Int) {m : Nat} (h : St W I w (storeHP p S :: l)) (hk : Keeps S (m + 16)) :
    Calls Tryz.prog 32 #[.pointer (some ⟨p, 0, none⟩), .int .i64 img, .int .i64 num, .int .i64 newest, .int .i64 off, .int .i64 n] w (DoesE W I p l (cclearS S img num newest off n)) := by
  have hm := fun b => cmay_spec b h
  have HM := Lib.hid hm
  have H := Lib.hid h
  have HK := Lib.hid hk
  clear hm h hk
  cases g0 : objB img num with
  | false =>
    have hf : (objB img num && snapB newest && withinB off n) = false := by rw [g0] <;> simp
    have HX := Lib.hid (show cclearS S img num newest off n = ((cmayS S false), S) by unfold cclearS; rw [hf, if_pos (cmay_false S)])
    have hm := HM.out false
    have hne : (cmayS S false != 0) = true := by simpa using cmay_false S
    obtain ⟨e0, he0⟩ : ∃ e0, cmayS S false = e0 := ⟨_, rfl⟩
    rw [he0] at hm hne HX
    have HMF := Lib.hid hm
    clear hm hf he0
    have hg0 := object_spec img num w
    rw [g0] at hg0
    have HG0 := Lib.hid hg0
    clear hg0
    go_enter Tryz.func32, Tryz.ntmps32
    go_wp2_with fail
    refine HG0.out.mono ?_
    rintro e w2 ⟨rfl, rfl⟩
    go_wp2_with fail
    refine HMF.out.mono ?_
    rintro e w2 ⟨rfl, rfl⟩
    go_wp2_with fail
    go_ret
    rw [HX.out]
    exact ⟨I, Hp.sub.refl _, rfl, H.out⟩
  | true =>
    cases g1 : snapB newest with
    | false =>
      have hf : (objB img num && snapB newest && withinB off n) = false := by rw [g0, g1] <;> simp
      have HX := Lib.hid (show cclearS S img num newest off n = ((cmayS S false), S) by unfold cclearS; rw [hf, if_pos (cmay_false S)])
      have hm := HM.out false
      have hne : (cmayS S false != 0) = true := by simpa using cmay_false S
      obtain ⟨e0, he0⟩ : ∃ e0, cmayS S false = e0 := ⟨_, rfl⟩
      rw [he0] at hm hne HX
      have HMF := Lib.hid hm
      clear hm hf he0
      have hg0 := object_spec img num w
      rw [g0] at hg0
      have HG0 := Lib.hid hg0
      clear hg0
      have hg1 := snaps_spec newest w
      rw [g1] at hg1
      have HG1 := Lib.hid hg1
      clear hg1
      go_enter Tryz.func32, Tryz.ntmps32
      go_wp2_with fail
      refine HG0.out.mono ?_
      rintro e w2 ⟨rfl, rfl⟩
      go_wp2_with fail
      refine HG1.out.mono ?_
      rintro e w2 ⟨rfl, rfl⟩
      go_wp2_with fail
      refine HMF.out.mono ?_
      rintro e w2 ⟨rfl, rfl⟩
      go_wp2_with fail
      go_ret
      rw [HX.out]
      exact ⟨I, Hp.sub.refl _, rfl, H.out⟩
    | true =>
      cases g2 : withinB off n with
      | false =>
        have hf : (objB img num && snapB newest && withinB off n) = false := by rw [g0, g1, g2] <;> simp
        have HX := Lib.hid (show cclearS S img num newest off n = ((cmayS S false), S) by unfold cclearS; rw [hf, if_pos (cmay_false S)])
        have hm := HM.out false
        have hne : (cmayS S false != 0) = true := by simpa using cmay_false S
        obtain ⟨e0, he0⟩ : ∃ e0, cmayS S false = e0 := ⟨_, rfl⟩
        rw [he0] at hm hne HX
        have HMF := Lib.hid hm
        clear hm hf he0
        have hg0 := object_spec img num w
        rw [g0] at hg0
        have HG0 := Lib.hid hg0
        clear hg0
        have hg1 := snaps_spec newest w
        rw [g1] at hg1
        have HG1 := Lib.hid hg1
        clear hg1
        have hg2 := within_spec off n w
        rw [g2] at hg2
        have HG2 := Lib.hid hg2
        clear hg2
        go_enter Tryz.func32, Tryz.ntmps32
        go_wp2_with fail
        refine HG0.out.mono ?_
        rintro e w2 ⟨rfl, rfl⟩
        go_wp2_with fail
        refine HG1.out.mono ?_
        rintro e w2 ⟨rfl, rfl⟩
        go_wp2_with fail
        refine HG2.out.mono ?_
        rintro e w2 ⟨rfl, rfl⟩
        go_wp2_with fail
        refine HMF.out.mono ?_
        rintro e w2 ⟨rfl, rfl⟩
        go_wp2_with fail
        go_ret
        rw [HX.out]
        exact ⟨I, Hp.sub.refl _, rfl, H.out⟩
      | true =>
        have hf : (objB img num && snapB newest && withinB off n) = true := by rw [g0, g1, g2] <;> rfl
        have hm := HM.out true
        obtain ⟨e0, he0⟩ : ∃ e0, cmayS S true = e0 := ⟨_, rfl⟩
        have HX := Lib.hid (show cclearS S img num newest off n = _ by unfold cclearS; rw [hf, he0])
        rw [he0] at hm
        have HMF := Lib.hid hm
        clear hm hf he0
        have hg0 := object_spec img num w
        rw [g0] at hg0
        have HG0 := Lib.hid hg0
        clear hg0
        have hg1 := snaps_spec newest w
        rw [g1] at hg1
        have HG1 := Lib.hid hg1
        clear hg1
        have hg2 := within_spec off n w
        rw [g2] at hg2
        have HG2 := Lib.hid hg2
        clear hg2
        by_cases h0 : e0 = 0
        · subst h0
          have HX := Lib.hid (HX.out.trans (if_neg (by simp)))
          obtain ⟨wy, hwy⟩ : ∃ y, whyS S ⟨4, img, num, 0⟩ = y := ⟨_, rfl⟩
          obtain ⟨n0, hn0⟩ : ∃ y, lenAt S ⟨4, img, num, 0⟩ = y := ⟨_, rfl⟩
          have hns := lenAt_small HK.out.inv ⟨4, img, num, 0⟩
          rw [hn0] at hns
          have HWY := Lib.hid hwy
          have HN0 := Lib.hid hn0
          clear hwy hn0
          unfold withinB at g2
          rw [decide_eq_true_eq] at g2
          have hsub : IntKind.i64.wrap (n0 - off) = n0 - off := by rw [IntKind.wrap_i64]; omega
          by_cases hw0 : wy = 0
          · subst hw0
            have HX := Lib.hid (HX.out.trans (if_neg (show ¬ (whyS S (dK img num 0) ≠ 0) by simp [show whyS S (dK img num 0) = 0 from HWY.out])))
            rw [show lenAt S (dK img num 0) = n0 from HN0.out] at HX
            obtain ⟨mn, hmn⟩ : ∃ mn, min n (n0 - off) = mn := ⟨_, rfl⟩
            have hmn2 : mn ≤ 64 := by omega
            rw [hmn] at HX
            obtain ⟨⟨e1, S1⟩, hae⟩ : ∃ r, aheadS S img num newest = r := ⟨_, rfl⟩
            have hk1 := aheadS_keeps (m := m + 6) (img := img) (num := num) (newest := newest) HK.out
            rw [hae] at hk1 HX
            have HAE := Lib.hid hae
            have HK1 := Lib.hid hk1
            clear hae hk1
            go_enter Tryz.func32, Tryz.ntmps32
            go_wp2_with fail
            refine HG0.out.mono ?_
            rintro e w2 ⟨rfl, rfl⟩
            go_wp2_with fail
            refine HG1.out.mono ?_
            rintro e w2 ⟨rfl, rfl⟩
            go_wp2_with fail
            refine HG2.out.mono ?_
            rintro e w2 ⟨rfl, rfl⟩
            go_wp2_with fail
            refine HMF.out.mono ?_
            rintro e w2 ⟨rfl, rfl⟩
            go_wp2_with fail
            refine (ckey_spec img num 0 w).mono ?_
            rintro e w3 ⟨rfl, hb3⟩
            obtain ⟨I3, hs3, hI3, h3⟩ := ((H.out.keep hb3).alloc (.cells #[.int .i64 4, .int .i64 img, .int .i64 num, .int .i64 0] 81)).freeze
            obtain ⟨x0, x1, x2, x3⟩ := imm_cells4 h3 hI3
            have hsz := size_of ⟨4, img, num, 0⟩ h3
            rw [HWY.out, HN0.out] at hsz
            simp only [K4.val] at hsz
            have HSZ := Lib.hid hsz
            have H3 := Lib.hid h3
            have HS3 := Lib.hid hs3
            have HI3 := Lib.hid hI3
            clear hb3 h3 hs3 hI3 hsz
            go_wp2_with fail
            refine HSZ.out.mono ?_
            rintro e w4 ⟨hb4, rfl⟩
            have h4 := H3.out.keep hb4
            have H4 := Lib.hid h4
            clear x0 x1 x2 x3 hb4
            have ha := ahead_spec img num newest h4 (m := m + 6) HK.out
            rw [HAE.out] at ha
            have HA := Lib.hid ha
            clear h4 ha
            go_wp2_with fail
            refine HA.out.mono ?_
            rintro e w5 ⟨I5, hs5, rfl, h5⟩
            by_cases he : e1 = 0
            · subst he
              have HX := Lib.hid (HX.out.trans (thenE_ok _ _))
              by_cases h1 : mn < 1
              · have d1 : decide (mn < 1) = true := by simpa using h1
                have HX2 := Lib.hid (HX.out.trans (if_pos h1))
                have H5 := Lib.hid h5
                have HS5 := Lib.hid (HS3.out.trans hs5)
                clear h5 hs5
                go_wp2_with fail
                go_ret
                rw [HX2.out]
                exact ⟨I5, HS5.out, rfl, H5.out⟩
              · have d1 : decide (mn < 1) = false := by simpa using h1
                obtain ⟨M, rfl⟩ : ∃ M : Nat, mn = M := ⟨mn.toNat, by omega⟩
                have HX2 := Lib.hid (HX.out.trans (if_neg h1))
                simp only [Int.toNat_natCast] at HX2
                have hI5 := hs5 _ _ HI3.out
                obtain ⟨y0, y1, y2, y3⟩ := imm_cells4 h5.drew hI5
                have h6 := h5.drew.alloc (.cells (zeroA M) 5)
                obtain ⟨z0, z1, z2, z3⟩ := imm_cells4 h6 hI5
                have hmk := make_zero M (by omega)
                have hz : (zeroA M) = ((List.replicate M (0 : Int)).map byteV).toArray := by simp [zeroA, byteV, List.map_replicate]
                rw [hz] at h6
                obtain ⟨I6, hs6, hr6, h7⟩ := pad_bytes (List.length_replicate ..) (by omega) h6
                rw [← hz] at h7
                have hwr := write_spec ⟨4, img, num, 0⟩ off _ (List.replicate M 0) h7 HK1.out (bytes_src h7 hr6) (by rw [List.length_replicate]; omega)
                simp only [K4.val] at hwr
                have HWR := Lib.hid hwr
                have HS6 := Lib.hid ((HS3.out.trans hs5).trans hs6)
                clear h5 hs5 h6 hs6 hr6 h7 hwr hI5 hz g2
                go_wp2_with fail
                refine wp_region_keep (fun w' => w'.cell? ⟨w3.heap.size, 0, none⟩ = some (.int .i64 4) ∧ w'.cell? ⟨w3.heap.size, 1, none⟩ = some (.int .i64 img) ∧ w'.cell? ⟨w3.heap.size, 2, none⟩ = some (.int .i64 num) ∧ w'.cell? ⟨w3.heap.size, 3, none⟩ = some (.int .i64 0)) [0, 1, 2, 3] [4] [5, 6] (by kernel_rfl) (by kernel_rfl) (by (exact ⟨y0, y1, y2, y3⟩)) ?_
                simp only [pickL, List.getElem?_cons_zero, List.getElem?_cons_succ]
                repeat (refine wpFirst_step _ (Or.inl ⟨by rfl, by (intro w hSw; (try dsimp only at hSw); go_simp; try with_reducible rfl)⟩) ?_; (try simp only [Act.put, List.setIfInBounds_toArray, List.set_cons_zero, List.set_cons_succ]))
                refine wpFirst_nil ?_
                unfold wpHold
                go_wp2_with fail
                refine holdPost_normal ⟨z0, z1, z2, z3⟩ ?_
                unfold wpHold
                go_wp2_with fail
                refine HWR.out.mono ?_
                rintro e w8 ⟨I8, hs8, rfl, h8⟩
                have H8 := Lib.hid h8
                have HS8 := Lib.hid (HS6.out.trans hs8)
                clear h8 hs8 y0 y1 y2 y3 z0 z1 z2 z3
                go_wp2_with fail
                refine NoPanic.normal ?_
                go_wp2_with fail
                go_ret
                rw [HX2.out]
                exact ⟨I8, HS8.out, rfl, H8.out⟩
            · have de : (e1 != 0) = true := by simpa using he
              have HX2 := Lib.hid (HX.out.trans (thenE_bad he _ _))
              have H5 := Lib.hid h5
              have HS5 := Lib.hid (HS3.out.trans hs5)
              clear h5 hs5
              go_wp2_with fail
              go_ret
              rw [HX2.out]
              exact ⟨I5, HS5.out, rfl, H5.out⟩
          · have d0 : (wy != 0) = true := by simpa using hw0
            have HX := Lib.hid (HX.out.trans (if_pos (show whyS S (dK img num 0) ≠ 0 by rw [show whyS S (dK img num 0) = wy from HWY.out]; exact hw0)))
            go_enter Tryz.func32, Tryz.ntmps32
            go_wp2_with fail
            refine HG0.out.mono ?_
            rintro e w2 ⟨rfl, rfl⟩
            go_wp2_with fail
            refine HG1.out.mono ?_
            rintro e w2 ⟨rfl, rfl⟩
            go_wp2_with fail
            refine HG2.out.mono ?_
            rintro e w2 ⟨rfl, rfl⟩
            go_wp2_with fail
            refine HMF.out.mono ?_
            rintro e w2 ⟨rfl, rfl⟩
            go_wp2_with fail
            refine (ckey_spec img num 0 w).mono ?_
            rintro e w3 ⟨rfl, hb3⟩
            obtain ⟨I3, hs3, hI3, h3⟩ := ((H.out.keep hb3).alloc (.cells #[.int .i64 4, .int .i64 img, .int .i64 num, .int .i64 0] 81)).freeze
            obtain ⟨x0, x1, x2, x3⟩ := imm_cells4 h3 hI3
            have hsz := size_of ⟨4, img, num, 0⟩ h3
            rw [HWY.out, HN0.out] at hsz
            simp only [K4.val] at hsz
            have HSZ := Lib.hid hsz
            have H3 := Lib.hid h3
            have HS3 := Lib.hid hs3
            have HI3 := Lib.hid hI3
            clear hb3 h3 hs3 hI3 hsz
            go_wp2_with fail
            refine HSZ.out.mono ?_
            rintro e w4 ⟨hb4, rfl⟩
            have h4 := H3.out.keep hb4
            have H4 := Lib.hid h4
            clear x0 x1 x2 x3 hb4
            clear h4
            go_wp2_with fail
            go_ret
            rw [HX.out]
            exact ⟨I3, HS3.out, rfl, H4.out⟩
        · have d0 : (e0 != 0) = true := by simpa using h0
          have HX2 := Lib.hid (HX.out.trans (if_pos h0))
          go_enter Tryz.func32, Tryz.ntmps32
          go_wp2_with fail
          refine HG0.out.mono ?_
          rintro e w2 ⟨rfl, rfl⟩
          go_wp2_with fail
          refine HG1.out.mono ?_
          rintro e w2 ⟨rfl, rfl⟩
          go_wp2_with fail
          refine HG2.out.mono ?_
          rintro e w2 ⟨rfl, rfl⟩
          go_wp2_with fail
          refine HMF.out.mono ?_
          rintro e w2 ⟨rfl, rfl⟩
          go_wp2_with fail
          go_ret
          rw [HX2.out]
          exact ⟨I, Hp.sub.refl _, rfl, H.out⟩
end
section
variable {W w : World} {I : Hp} {l : List HP} {p : Nat} {S : Str}
set_option maxRecDepth 4000
set_option maxHeartbeats 8000000
theorem cseen_spec (v : Value) (ms : List Int) (below n : Int) (h : St W I w l) (hv : IntsI I v ms) :
    Calls Tryz.prog 61 #[v, .int .i64 below, .int .i64 n] w fun e w' => e = .returned (.bool (seenB ms below n)) ∧ w = w' := by
  have HV := Lib.hid hv
  have H := Lib.hid h
  obtain ⟨A, c, rfl, _, hl2, hm2, _⟩ := hv
  have hcn : (ms.length : Int) ≤ 9223372036854775807 := by unfold maxLen at hm2; omega
  clear h
  go_enter Tryz.func61, Tryz.ntmps61
  go_wp2_with fail
  go_loopw [11] (fun a11 wr => ∃ (j : Nat), a11 = .int .i64 j ∧ j ≤ ms.length ∧ seenB (ms.take j) below n = false ∧ wr = w) (fun a11 _ => ms.length - (intOf a11).toNat)
  case atStart => exact ⟨0, rfl, Nat.zero_le _, rfl, rfl⟩
  case round =>
    obtain ⟨j, rfl, hj, hall, rfl⟩ := hrel
    by_cases hlt : j < ms.length
    · obtain ⟨x, hx⟩ : ∃ x, ms[j]? = some x := ⟨_, List.getElem?_eq_getElem hlt⟩
      obtain ⟨b, off, e1, hc⟩ := intsI_cell H.out HV.out hx
      simp only [Value.slice.injEq, and_true] at e1
      subst e1
      have HALL := Lib.hid hall
      have HXJ := Lib.hid hx
      clear hall hx
      have hst : seenB (ms.take (j + 1)) below n = (decide (below < x) && decide (x ≤ n)) := by
        rw [List.take_add_one, HXJ.out]
        have := HALL.out
        unfold seenB at this ⊢
        rw [List.any_append, this]
        simp
      have HST := Lib.hid hst
      clear hst
      by_cases h1 : below < x
      · have d1 : decide (below < x) = true := by simpa using h1
        by_cases h2 : x ≤ n
        · have d2 : decide (x ≤ n) = true := by simpa using h2
          have hfin : seenB ms below n = true := by
            have := HST.out
            rw [d1, d2, Bool.and_self] at this
            unfold seenB at this ⊢
            rw [List.any_eq_true] at this ⊢
            obtain ⟨y, hy, hp⟩ := this
            exact ⟨y, List.mem_of_mem_take hy, hp⟩
          have HF := Lib.hid hfin
          clear hfin
          go_wp2_with fail
          go_ret
          exact ⟨by rw [HF.out]; rfl, rfl⟩
        · have d2 : decide (x ≤ n) = false := by simpa using h2
          go_wp2_with fail
          go_roundw
          case rel => exact ⟨j + 1, by go_num, by omega, by rw [HST.out, d1, d2]; rfl, trivial⟩
          case measure => simp [intOf]; omega
      · have d1 : decide (below < x) = false := by simpa using h1
        go_wp2_with fail
        go_roundw
        case rel => exact ⟨j + 1, by go_num, by omega, by rw [HST.out, d1]; rfl, trivial⟩
        case measure => simp [intOf]; omega
    · obtain rfl : j = ms.length := by omega
      rw [List.take_length] at hall
      have HALL := Lib.hid hall
      clear hall
      go_wp2_with fail
      go_ret
      exact ⟨by rw [HALL.out]; rfl, rfl⟩
end
section
variable {W w : World} {I : Hp} {l : List HP} {p : Nat} {S : Str}
set_option maxRecDepth 4000
set_option maxHeartbeats 8000000
theorem tidy_spec (img : Int) (mv : Value) (ms : List Int) {m : Nat} (h : St W I w (storeHP p S :: l)) (hk : Keeps S (m + 2 * (keysTold S ⟨4, img⟩).length)) (hv : IntsI I mv ms) :
    Calls Tryz.prog 36 #[.pointer (some ⟨p, 0, none⟩), .int .i64 img, mv] w (DoesE W I p l (tidyS S img ms)) := by
  have HV := Lib.hid hv
  obtain ⟨Am, cm, rfl, _⟩ := hv
  have hm := fun b => cmay_spec b h
  have HM := Lib.hid hm
  have H := Lib.hid h
  have HK := Lib.hid hk
  clear hm h hk
  cases g0 : objB img 0 with
  | false =>
    have hf : (objB img 0) = false := by rw [g0] <;> simp
    have HX := Lib.hid (show tidyS S img ms = ((cmayS S false), S) by unfold tidyS; rw [hf, if_pos (cmay_false S)])
    have hm := HM.out false
    have hne : (cmayS S false != 0) = true := by simpa using cmay_false S
    obtain ⟨e0, he0⟩ : ∃ e0, cmayS S false = e0 := ⟨_, rfl⟩
    rw [he0] at hm hne HX
    have HMF := Lib.hid hm
    clear hm hf he0
    have hg0 := object_spec img 0 w
    rw [g0] at hg0
    have HG0 := Lib.hid hg0
    clear hg0
    go_enter Tryz.func36, Tryz.ntmps36
    go_wp2_with fail
    refine HG0.out.mono ?_
    rintro e w2 ⟨rfl, rfl⟩
    go_wp2_with fail
    refine HMF.out.mono ?_
    rintro e w2 ⟨rfl, rfl⟩
    go_wp2_with fail
    go_ret
    rw [HX.out]
    exact ⟨I, Hp.sub.refl _, rfl, H.out⟩
  | true =>
    have hf : (objB img 0) = true := by rw [g0] <;> rfl
    have hm := HM.out true
    obtain ⟨e0, he0⟩ : ∃ e0, cmayS S true = e0 := ⟨_, rfl⟩
    have HX := Lib.hid (show tidyS S img ms = _ by unfold tidyS; rw [hf, he0])
    rw [he0] at hm
    have HMF := Lib.hid hm
    clear hm hf he0
    have hg0 := object_spec img 0 w
    rw [g0] at hg0
    have HG0 := Lib.hid hg0
    clear hg0
    by_cases h0 : e0 = 0
    · subst h0
      have HX := Lib.hid (HX.out.trans (if_neg (by simp)))
      have hks := keys_of 4 img H.out (by have := HK.out.inv.many ⟨4, img⟩; omega)
      have hkl : (keysTold S ⟨4, img⟩).length ≤ 100000 := by
        have := HK.out.inv.many ⟨4, img⟩
        unfold keysTold
        split
        · omega
        · simp
      obtain ⟨ks, hks2⟩ : ∃ ks, keysTold S ⟨4, img⟩ = ks := ⟨_, rfl⟩
      have hkp := HK.out
      rw [hks2] at hks hkl HX hkp
      have HKS := Lib.hid hks
      have HKP := Lib.hid hkp
      clear hks hks2 hkp
      go_enter Tryz.func36, Tryz.ntmps36
      go_wp2_with fail
      refine HG0.out.mono ?_
      rintro e w2 ⟨rfl, rfl⟩
      go_wp2_with fail
      refine HMF.out.mono ?_
      rintro e w2 ⟨rfl, rfl⟩
      go_wp2_with fail
      refine HKS.out.mono ?_
      rintro e w2 ⟨v2, rfl, hb2, ho2⟩
      obtain ⟨I2, hs2, hr2, h2⟩ := (H.out.row_fresh hb2 ho2).freeze_row
      obtain ⟨Ak, ck, rfl⟩ := is_slice ho2
      have hkn : (ks.length : Int) ≤ 9223372036854775807 := by omega
      have H2 := Lib.hid h2
      have HR2 := Lib.hid hr2
      have HS2 := Lib.hid hs2
      clear h2 hr2 hs2 hb2 ho2 HKS
      go_wp2_with fail
      go_loopw [8, 9, 26] (fun a8 a9 a26 wr => ∃ (j : Nat) (last below : Int) (T : Str) (I1 : Hp), a26 = .int .i64 j ∧ a8 = .int .i64 last ∧ a9 = .int .i64 below ∧ j ≤ ks.length ∧ I2.sub I1 ∧ Keeps T (m + 2 * (ks.length - j)) ∧
        tidyL ms ks (-1) 0 S = tidyL ms (ks.drop j) last below T ∧ St W I1 wr (storeHP p T :: l)) (fun _ _ a26 _ => ks.length - (intOf a26).toNat)
      case atStart => exact ⟨0, -1, 0, S, I2, rfl, rfl, rfl, Nat.zero_le _, Hp.sub.refl _, HKP.out, rfl, H2.out⟩
      case round =>
        obtain ⟨j, last, below, T, I1, rfl, rfl, rfl, hj, hI1, hkT, heq, hst⟩ := hrel
        by_cases hlt : j < ks.length
        · obtain ⟨k, hkj⟩ : ∃ k, ks[j]? = some k := ⟨_, List.getElem?_eq_getElem hlt⟩
          obtain ⟨b, off, e1, hc⟩ := rowk_cell (mk := K4.vals) (i := j) HR2.out hI1 hst (fun _ => rfl) hkj
          simp only [Value.slice.injEq, and_true] at e1
          subst e1
          have hdr : ks.drop j = k :: ks.drop (j + 1) := by
            obtain ⟨hlt2, he⟩ := List.getElem?_eq_some_iff.1 hkj
            rw [← he]; simp
          rw [hdr] at heq
          obtain ⟨k0, k1, k2, k3⟩ := k
          have y0 := hc 0 (by omega)
          have y1 := hc 1 (by omega)
          have y2 := hc 2 (by omega)
          have y3 := hc 3 (by omega)
          simp only [K4.vals, List.getElem?_cons_succ, List.getElem?_cons_zero, Nat.add_zero] at y0 y1 y2 y3
          obtain ⟨I3, hs3, hI3, h3⟩ := (hst.alloc (.cells #[.int .i64 k0, .int .i64 k1, .int .i64 k2, .int .i64 k3] 81)).freeze
          obtain ⟨g, hg⟩ : ∃ g, wr.heap.size = g := ⟨_, rfl⟩
          obtain ⟨bl, hbl⟩ : ∃ bl, (if k2 = last then below else 0) = bl := ⟨_, rfl⟩
          have HEQ := Lib.hid heq
          have HKT := Lib.hid hkT
          have H3 := Lib.hid h3
          have HI3 := Lib.hid hI3
          have HS3 := Lib.hid (hI1.trans hs3)
          have HBL := Lib.hid hbl
          clear hc heq hkT hst h3 hI3 hs3 hI1 hkj hdr hbl
          have HUN := Lib.hid (show ∀ ls, tidyL ms (⟨k0, k1, k2, k3⟩ :: ls) last below T = if k3 = 0 then tidyL ms ls k2 bl T
            else if (attrS T ⟨k0, k1, k2, k3⟩ nmW).2 = 0 ∧ seenB ms bl k3 = true then tidyL ms ls k2 k3 T
            else thenE (dropS T ⟨k0, k1, k2, k3⟩) fun S1 => tidyL ms ls k2 (if (attrS T ⟨k0, k1, k2, k3⟩ nmW).2 = 0 then k3 else bl) S1 by
              intro ls
              rw [← HBL.out]
              rfl)
          go_upto_if 33 with fail
          go_cut [8, 9] from 30 to 35 (fun s8 s9 wc => s8 = .int .i64 k2 ∧ s9 = .int .i64 bl ∧ St W I3 wc (storeHP p T :: l))
          case first =>
            by_cases hl : k2 = last
            · subst hl
              have dl : (k2 != k2) = false := by simp
              have hb2 := HBL.out
              rw [if_pos rfl] at hb2
              subst hb2
              go_wp2_with fail
              go_meet
              all_goals (first | exact ⟨rfl, rfl, H3.out⟩ | exact ⟨rfl, rfl, rfl, H3.out⟩ | fail)
            · have dl : (k2 != last) = true := by simpa using hl
              have hb2 := HBL.out
              rw [if_neg hl] at hb2
              subst hb2
              obtain ⟨x0, x1, x2, x3⟩ := imm_cells4 H3.out HI3.out
              go_wp2_with fail
              go_meet
              all_goals (first | exact ⟨rfl, rfl, H3.out⟩ | exact ⟨rfl, rfl, rfl, H3.out⟩ | fail)
          case rest =>
            obtain ⟨rfl, rfl, h4⟩ := hcut
            obtain ⟨w4, hw4⟩ : ∃ x, x = wc := ⟨_, rfl⟩
            subst hw4
            rw [hg] at HI3
            obtain ⟨x0, x1, x2, x3⟩ := imm_cells4 h4 HI3.out
            by_cases h0 : k3 = 0
            · subst h0
              have d0 : ((0 : Int) == 0) = true := rfl
              have H4 := Lib.hid h4
              have HU := Lib.hid ((HUN.out (ks.drop (j + 1))).trans (if_pos rfl))
              clear h4 HUN
              go_wp2_with fail
              go_roundw
              case rel => exact ⟨j + 1, k2, bl, T, I3, by go_num, rfl, rfl, by omega, HS3.out, HKT.out.fewer (by omega), HEQ.out.trans HU.out, H4.out⟩
              case measure => simp [intOf]; omega
            · have d0 : (k3 == 0) = false := by simpa using h0
              have HUN := Lib.hid (fun ls => (HUN.out ls).trans (if_neg h0))
              have hat := attr_spec ⟨k0, k1, k2, k3⟩ nmW h4 HKT.out.inv
              obtain ⟨⟨ab, ae⟩, hae⟩ : ∃ r, attrS T ⟨k0, k1, k2, k3⟩ nmW = r := ⟨_, rfl⟩
              rw [hae] at hat HUN
              simp only [K4.val] at hat
              have HAT := Lib.hid hat
              have H4 := Lib.hid h4
              clear hat hae h4
              go_wp2_with fail
              refine HAT.out.mono ?_
              rintro e w5 ⟨hb5, v5, rfl, ho5⟩
              have h5 := H4.out.keep hb5
              obtain ⟨A5, c5, rfl⟩ := is_slice ho5
              obtain ⟨y0, y1, y2, y3⟩ := imm_cells4 h5 HI3.out
              have hse := cseen_spec _ ms bl k3 h5 ((intsIP _ _).mono (HS2.out.trans HS3.out) HV.out)
              have hdr := drop_spec (m := m + 2 * (ks.length - (j + 1))) ⟨k0, k1, k2, k3⟩ h5 (HKT.out.fewer (by omega))
              obtain ⟨⟨e1, T1⟩, hde⟩ : ∃ r, dropS T ⟨k0, k1, k2, k3⟩ = r := ⟨_, rfl⟩
              have hk1 := dropS_keeps (m := m + 2 * (ks.length - (j + 1))) (k := ⟨k0, k1, k2, k3⟩) (HKT.out.fewer (by omega))
              rw [hde] at hdr hk1 HUN
              simp only [K4.val] at hdr
              have HSE := Lib.hid hse
              have HDR := Lib.hid hdr
              have HK1 := Lib.hid hk1
              have H5 := Lib.hid h5
              have HI3' := Lib.hid HI3.out
              clear hse hdr hde hk1 h5 hb5 ho5 x0 x1 x2 x3 H4
              by_cases hae : ae = 0
              · subst hae
                have da : ((0 : Int) == 0) = true := rfl
                cases hsb : seenB ms bl k3 with
                | true =>
                  rw [hsb] at HSE HUN
                  have HU := Lib.hid ((HUN.out (ks.drop (j + 1))).trans (if_pos (by simp)))
                  clear HUN hsb
                  go_wp2_with fail
                  refine HSE.out.mono ?_
                  rintro e w6 ⟨rfl, rfl⟩
                  go_wp2_with fail
                  go_roundw
                  case rel => exact ⟨j + 1, k2, k3, T, I3, by go_num, rfl, rfl, by omega, HS3.out, HKT.out.fewer (by omega), HEQ.out.trans HU.out, H5.out⟩
                  case measure => simp [intOf]; omega
                | false =>
                  rw [hsb] at HSE HUN
                  have HU := Lib.hid ((HUN.out (ks.drop (j + 1))).trans (if_neg (by simp)))
                  clear HUN hsb
                  go_wp2_with fail
                  refine HSE.out.mono ?_
                  rintro e w6 ⟨rfl, rfl⟩
                  go_wp2_with fail
                  refine HDR.out.mono ?_
                  rintro e w7 ⟨I7, hs7, rfl, h7⟩
                  have H7 := Lib.hid h7
                  have HS7 := Lib.hid (HS3.out.trans hs7)
                  clear h7 hs7 y0 y1 y2 y3
                  by_cases he : e1 = 0
                  · subst he
                    have HU2 := Lib.hid (HU.out.trans ((thenE_ok _ _).trans (show tidyL ms (ks.drop (j + 1)) k2 (if (0 : Int) = 0 then k3 else bl) T1 = tidyL ms (ks.drop (j + 1)) k2 k3 T1 by rw [if_pos rfl])))
                    go_wp2_with fail
                    go_roundw
                    case rel => exact ⟨j + 1, k2, k3, T1, I7, by go_num, rfl, rfl, by omega, HS7.out, HK1.out, HEQ.out.trans HU2.out, H7.out⟩
                    case measure => simp [intOf]; omega
                  · have de : (e1 != 0) = true := by simpa using he
                    have HU2 := Lib.hid (HU.out.trans (thenE_bad he _ _))
                    go_wp2_with fail
                    go_ret
                    rw [HX.out, HEQ.out, HU2.out]
                    exact ⟨I7, HS2.out.trans HS7.out, rfl, H7.out⟩
              · have da : (ae == 0) = false := by simpa using hae
                have HU := Lib.hid ((HUN.out (ks.drop (j + 1))).trans (if_neg (by simp [hae])))
                clear HUN HSE
                go_wp2_with fail
                refine HDR.out.mono ?_
                rintro e w7 ⟨I7, hs7, rfl, h7⟩
                have H7 := Lib.hid h7
                have HS7 := Lib.hid (HS3.out.trans hs7)
                clear h7 hs7 y0 y1 y2 y3
                by_cases he : e1 = 0
                · subst he
                  have HU2 := Lib.hid (HU.out.trans ((thenE_ok _ _).trans (show tidyL ms (ks.drop (j + 1)) k2 (if ae = 0 then k3 else bl) T1 = tidyL ms (ks.drop (j + 1)) k2 bl T1 by rw [if_neg hae])))
                  go_wp2_with fail
                  go_roundw
                  case rel => exact ⟨j + 1, k2, bl, T1, I7, by go_num, rfl, rfl, by omega, HS7.out, HK1.out, HEQ.out.trans HU2.out, H7.out⟩
                  case measure => simp [intOf]; omega
                · have de : (e1 != 0) = true := by simpa using he
                  have HU2 := Lib.hid (HU.out.trans (thenE_bad he _ _))
                  go_wp2_with fail
                  go_ret
                  rw [HX.out, HEQ.out, HU2.out]
                  exact ⟨I7, HS2.out.trans HS7.out, rfl, H7.out⟩
        · obtain rfl : j = ks.length := by omega
          rw [List.drop_of_length_le (Nat.le_refl _)] at heq
          have HEQ := Lib.hid heq
          have HST := Lib.hid hst
          have HI1 := Lib.hid (HS2.out.trans hI1)
          clear heq hst hI1 hkT
          go_wp2_with fail
          go_ret
          rw [HX.out, HEQ.out]
          exact ⟨I1, HI1.out, rfl, HST.out⟩
    · have d0 : (e0 != 0) = true := by simpa using h0
      have HX2 := Lib.hid (HX.out.trans (if_pos h0))
      go_enter Tryz.func36, Tryz.ntmps36
      go_wp2_with fail
      refine HG0.out.mono ?_
      rintro e w2 ⟨rfl, rfl⟩
      go_wp2_with fail
      refine HMF.out.mono ?_
      rintro e w2 ⟨rfl, rfl⟩
      go_wp2_with fail
      go_ret
      rw [HX2.out]
      exact ⟨I, Hp.sub.refl _, rfl, H.out⟩
end
end Go.Proofs.YtbepmbcbcklmlaaGreat
