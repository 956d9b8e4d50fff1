/- hectographlaw17: in, kept. -/
import Derived.Test.YtbepmbcbcklmlaaGreatAt17
import Derived.Test.YtbepmbcbcklmlaaGreatCowFell
set_option linter.unusedSimpArgs false
set_option linter.unusedVariables false
set_option linter.unusedSectionVars false
namespace Go.Proofs.YtbepmbcbcklmlaaGreat
open Go.RowKit
section
variable {W w : World} {I : Hp} {l : List HP} {p : Nat} {S : Str}
set_option maxRecDepth 4000
set_option maxHeartbeats 8000000
theorem in17_spec (v : Value) (ms : List Int) (n : Int) (h : St W I w l) (hm : IntsI I v ms) (hl : ms.length ≤ 9223372036854775807) : Calls Tryz.prog 46 #[v, .int .i64 n] w fun e w' => e = .returned (.bool (decide (n ∈ ms))) ∧ w = w' := by
  have HM := Lib.hid hm
  have H := Lib.hid h
  obtain ⟨A, c, rfl, _⟩ := hm
  have hl2 : (ms.length : Int) ≤ 9223372036854775807 := by omega
  clear h
  go_enter Tryz.func46, Tryz.ntmps46
  go_wp2_with fail
  go_loopw [5] (fun a5 wr => ∃ i : Nat, a5 = .int .i64 i ∧ i ≤ ms.length ∧ n ∉ ms.take i ∧ wr = w) (fun a5 _ => ms.length - (intOf a5).toNat)
  case atStart => exact ⟨0, rfl, Nat.zero_le _, by simp, rfl⟩
  case round =>
    obtain ⟨i, rfl, hi, hno, rfl⟩ := hrel
    by_cases hlt : i < ms.length
    · have d0 : decide ((i : Int) < (ms.length : Int)) = true := by rw [decide_eq_true_eq]; omega
      obtain ⟨x, hx⟩ : ∃ x, ms[i]? = some x := ⟨_, List.getElem?_eq_getElem hlt⟩
      obtain ⟨b, off, e1, hc⟩ := intsI_cell H.out HM.out hx
      simp only [Value.slice.injEq, and_true] at e1
      subst e1
      by_cases he : x = n
      · subst he
        have HMEM := Lib.hid (show decide (x ∈ ms) = true from decide_eq_true (List.mem_of_getElem? hx))
        clear hx hno
        go_wp2_with fail
        go_ret
        rw [HMEM.out]
        exact ⟨rfl, rfl⟩
      · have d1 : decide (x = n) = false := decide_eq_false he
        have HNO := Lib.hid (show n ∉ ms.take (i + 1) by
          rw [List.take_add_one, hx]
          simp
          exact ⟨hno, fun q => he q.symm⟩)
        clear hx hno
        go_wp2_with fail
        go_roundw
        case rel => exact ⟨i + 1, by go_num, by omega, HNO.out, trivial⟩
        case measure => simp [intOf]; omega
    · obtain rfl : i = ms.length := by omega
      have d0 : decide (((ms.length : Nat) : Int) < (ms.length : Int)) = false := by rw [decide_eq_false_iff_not]; omega
      rw [List.take_length] at hno
      have HNO := Lib.hid (decide_eq_false hno)
      clear hno
      go_wp2_with fail
      go_ret
      rw [HNO.out]
      exact ⟨rfl, rfl⟩
theorem kept17_spec {m : Nat} (rv : Value) (os : List O17) (a : A17) (h : St W I w (storeHP p S :: l)) (hk : Inv S m) (hlv : Live U17 S) (hos : RowO I rv os) (hl : os.length ≤ 100) (hcs : ∀ o ∈ os, o.cs.length ≤ 1000) (ha : a.ok I) (hml : a.ms.length ≤ 9223372036854775807)
    (hkp : ∀ (i : Nat) (o : O17) (snap : Int), os[i]? = some o → 0 ≤ snap → (if a.what = 5 then (snap = 0 ∨ snap ∈ a.ms) else ¬ ((i : Int) = a.num ∧ (snap = 0 ∨ a.newest < snap))) → valO (cview S 0) (keysAt S ⟨4, 0⟩) i snap = ratR o.r snap) :
    Calls Tryz.prog 21 #[.pointer (some ⟨p, 0, none⟩), rv, a.val] w fun e w' => ∃ I', I.sub I' ∧ e = .returned (.bool true) ∧ St W I' w' (storeHP p S :: l) := by
  obtain ⟨a0, a1, a2, a3, a4, a5, ap, apv, ams, amv⟩ := a
  obtain ⟨hp, hm, _⟩ := ha
  simp only at hp hm hml hkp
  have HM := Lib.hid hm
  obtain ⟨Ap, cp, rfl, _⟩ := hp
  obtain ⟨Am, cm, rfl, _⟩ := hm
  have HOS := Lib.hid hos
  obtain ⟨⟨Ao, co, rfl, _⟩, _⟩ := hos
  obtain ⟨I1, hs1, hI1, h1⟩ := (h.alloc (.cells #[.int .i64 a0, .int .i64 a1, .int .i64 a2, .int .i64 a3, .int .i64 a4, .int .i64 a5, .slice Ap ap.length cp, .slice Am ams.length cm] 31)).freeze
  have H := Lib.hid h1
  have HS1 := Lib.hid hs1
  have HI1 := Lib.hid hI1
  have HK := Lib.hid hk
  have HLV := Lib.hid hlv
  have HCS := Lib.hid hcs
  have HKP := Lib.hid hkp
  have hln : (os.length : Int) ≤ 100 := by omega
  simp only [A17.val]
  clear h h1 hs1 hI1 hk hlv hcs hkp
  go_enter Tryz.func21, Tryz.ntmps21
  go_wp2_with fail
  go_loopw [7] (fun a7 wr => ∃ (i : Nat) (I2 : Hp), a7 = .int .i64 i ∧ i ≤ os.length ∧ I1.sub I2 ∧ St W I2 wr (storeHP p S :: l)) (fun a7 _ => os.length - (intOf a7).toNat)
  case atStart => exact ⟨0, I1, rfl, Nat.zero_le _, Hp.sub.refl _, H.out⟩
  case round =>
    obtain ⟨i, I2, rfl, hi, hI2, hst⟩ := hrel
    by_cases hlt : i < os.length
    · have d0 : decide ((i : Int) < (os.length : Int)) = true := by rw [decide_eq_true_eq]; omega
      obtain ⟨o, ho⟩ : ∃ o, os[i]? = some o := ⟨_, List.getElem?_eq_getElem hlt⟩
      have HO1 := Lib.hid ho
      have HOK := Lib.hid (HOS.out.2 o (List.mem_of_getElem? ho))
      have HCL := Lib.hid (HCS.out o (List.mem_of_getElem? ho))
      have HST := Lib.hid hst
      have HIa := Lib.hid hI2
      clear ho hst hI2
      go_wp2_with fail
      obtain ⟨w2, hw2⟩ : ∃ x, wr = x := ⟨_, rfl⟩
      rw [hw2]
      rw [hw2] at HST
      clear hw2
      go_loopw [8] (fun a8 wr => ∃ (s : Nat) (I2 : Hp), a8 = .int .i64 s ∧ s ≤ 17 ∧ I1.sub I2 ∧ St W I2 wr (storeHP p S :: l)) (fun a8 _ => 17 - (intOf a8).toNat)
      case atStart => exact ⟨0, I2, rfl, Nat.zero_le _, HIa.out, HST.out⟩
      case round =>
        obtain ⟨s, I2, rfl, hs, hI2, hst⟩ := hrel
        by_cases hsl : s ≤ 16
        · have dS : decide ((s : Int) ≤ 16) = true := by rw [decide_eq_true_eq]; omega
          obtain ⟨bb, ob, e1, hce⟩ := rowk_cell (mk := O17.vals) HOS.out.1 (HS1.out.trans hI2) hst (fun _ => rfl) HO1.out
          simp only [Value.slice.injEq, and_true] at e1
          subst e1
          have z0 := hce 0 (by omega)
          have z1 := hce 1 (by omega)
          have z2 := hce 2 (by omega)
          have hat := at17_spec (off := ob + i * 3) o (s : Int) hst ((HOK.out.mono HS1.out).mono hI2) z0 z1 z2 (cell_lt z0) (by have := HCL.out; omega)
          have HAT := Lib.hid hat
          obtain ⟨x0, x1, x2, x3, x4, x5, x6, x7⟩ := act_cells hst (hI2 _ _ HI1.out)
          have HIN := Lib.hid (in17_spec (.slice Am ams.length cm) ams (s : Int) hst ((intsIP _ _).mono (HS1.out.trans hI2) HM.out) hml)
          have HST2 := Lib.hid hst
          have HI2 := Lib.hid hI2
          clear hat hce z0 z1 z2 hst hI2
          obtain ⟨w3, hw3⟩ : ∃ x, wr = x := ⟨_, rfl⟩
          rw [hw3] at HST2 HAT HIN x0 x1 x2 x3 x4 x5 x6 x7
          rw [hw3]
          clear hw3
          go_upto_region 7 with fail
          go_cut [9] from 16 to 59 (fun s9 wc => ∃ mn : Bool, s9 = .bool mn ∧ wc = w3 ∧ (mn = false → ¬ ((i : Int) = a1 ∧ ((s : Int) = 0 ∨ a2 < s))))
          case first =>
            clear HAT HIN x0 x3 x4 x5 x6 x7
            by_cases hin : (i : Int) = a1
            · subst hin
              by_cases hz : (s : Int) = 0
              · obtain rfl : s = 0 := by omega
                clear hz
                go_wp2_with fail
                go_meet
                exact ⟨_, rfl, rfl, fun q => by cases q⟩
              · have dZ : ¬ s = 0 := by omega
                have HZ := Lib.hid hz
                clear hz
                by_cases hnw : a2 < s
                · have dN : decide (a2 < (s : Int)) = true := decide_eq_true hnw
                  clear hnw
                  go_wp2_with fail
                  go_meet
                  exact ⟨_, rfl, rfl, fun q => by cases q⟩
                · have dN : decide (a2 < (s : Int)) = false := decide_eq_false hnw
                  have HN := Lib.hid hnw
                  clear hnw
                  go_wp2_with fail
                  go_meet
                  exact ⟨_, rfl, rfl, fun _ q => by have := HZ.out; have := HN.out; omega⟩
            · have dI : decide ((i : Int) = a1) = false := decide_eq_false hin
              have HIE := Lib.hid hin
              clear hin
              go_wp2_with fail
              go_meet
              exact ⟨_, rfl, rfl, fun _ q => HIE.out q.1⟩
          case rest =>
            obtain ⟨mn, rfl, rfl, hmn⟩ := hcut
            obtain ⟨w4, hw4⟩ : ∃ x, x = wc := ⟨_, rfl⟩
            subst hw4
            have HMN := Lib.hid hmn
            clear hmn x1 x2 x3 x4 x5 x6
            go_upto_if 36 with fail
            go_cut [9] from 16 to 59 (fun s9 wc => ∃ mn : Bool, s9 = .bool mn ∧ wc = w4 ∧ (mn = false → if a0 = 5 then ((s : Int) = 0 ∨ (s : Int) ∈ ams) else ¬ ((i : Int) = a1 ∧ ((s : Int) = 0 ∨ a2 < s))))
            case first =>
              clear HAT
              obtain ⟨q5, hq5⟩ : ∃ q, (a0 == 5) = q := ⟨_, rfl⟩
              rw [hq5]
              cases q5
              rotate_left
              · have HFIVE := Lib.hid (show a0 = 5 by simpa using hq5)
                clear hq5
                by_cases s0 : (0 : Int) < s
                · have s1 : 0 < s := by omega
                  clear s0
                  go_wp2_with fail
                  refine HIN.out.mono ?_
                  rintro e w5 ⟨rfl, rfl⟩
                  go_wp2_with fail
                  go_meet
                  exact ⟨_, rfl, rfl, fun q => by rw [if_pos HFIVE.out]; exact .inr (by simpa using q)⟩
                · obtain rfl : s = 0 := by omega
                  have HZ := Lib.hid s0
                  clear s0
                  go_wp2_with fail
                  go_meet
                  exact ⟨_, rfl, rfl, fun q => by rw [if_pos HFIVE.out]; exact .inl (by have := HZ.out; omega)⟩
              · have HFIVE := Lib.hid (show ¬ a0 = 5 by simpa using hq5)
                clear hq5
                go_wp2_with fail
                go_meet
                exact ⟨_, rfl, rfl, fun q => by rw [if_neg HFIVE.out]; exact HMN.out q⟩
            case rest =>
              obtain ⟨mn2, rfl, rfl, hmn⟩ := hcut
              obtain ⟨w5, hw5⟩ : ∃ x, x = wc := ⟨_, rfl⟩
              subst hw5
              have HMN2 := Lib.hid hmn
              clear hmn x0 x7 HIN HMN
              cases mn2
              · obtain ⟨t1, t2, t3⟩ := tell_of U17_ok HLV.out (by omega) (snap := (s : Int)) (by omega) (HKP.out i o (s : Int) HO1.out (by omega) (HMN2.out rfl))
                have T1 := Lib.hid t1
                have T2 := Lib.hid t2
                have T3 := Lib.hid (t3 0 64 rfl)
                have TS := Lib.hid (show ((ratR o.r (s : Int)).getD []).length ≤ 64 by rw [← HKP.out i o (s : Int) HO1.out (by omega) (HMN2.out rfl)]; exact val_small HLV.out 0 i (s : Int))
                clear t1 t2 t3
                go_wp2_with fail
                refine HAT.out.mono ?_
                rintro e w5 ⟨b, rfl, hbok, hbr, hb5⟩
                have hcall := atL_spec i (s : Int) b (HST2.out.keep hb5) HK.out hbok (by rw [hbr]; exact T1.out) (by rw [hbr]; exact T2.out) (by rw [hbr]; exact T3.out) (by rw [hbr]; exact TS.out)
                have HCALL := Lib.hid hcall
                clear hcall hbok hbr hb5 HAT
                go_wp2_with fail
                refine HCALL.out.mono ?_
                rintro e w6 ⟨I6, hs6, rfl, h6⟩
                have H6 := Lib.hid h6
                have HS6 := Lib.hid (HI2.out.trans hs6)
                clear h6 hs6 HCALL
                go_wp2_with fail
                go_roundw
                case rel => exact ⟨s + 1, I6, by go_num, by omega, HS6.out, H6.out⟩
                case measure => simp [intOf]; omega
              · go_wp2_with fail
                go_roundw
                case rel => exact ⟨s + 1, I2, by go_num, by omega, HI2.out, HST2.out⟩
                case measure => simp [intOf]; omega
        · obtain rfl : s = 17 := by omega
          have dS : decide (((17 : Nat) : Int) ≤ 16) = false := rfl
          have H3 := Lib.hid hst
          have HI3 := Lib.hid hI2
          clear hst hI2
          go_wp2_with fail
          go_roundw
          case rel => exact ⟨i + 1, I2, by go_num, by omega, HI3.out, H3.out⟩
          case measure => simp [intOf]; omega
    · obtain rfl : i = os.length := by omega
      have d0 : decide (((os.length : Nat) : Int) < (os.length : Int)) = false := by rw [decide_eq_false_iff_not]; omega
      have H3 := Lib.hid hst
      have HI3 := Lib.hid (HS1.out.trans hI2)
      clear hst hI2
      go_wp2_with fail
      go_ret
      exact ⟨I2, HI3.out, rfl, H3.out⟩
end
end Go.Proofs.YtbepmbcbcklmlaaGreat
