/- LockPlays: the walk. -/
import Derived.Test.YtnokhjhhadnckaaArgs19
set_option linter.unusedSimpArgs false
set_option linter.unusedVariables false
set_option linter.unusedSectionVars false
namespace Go.Proofs.Ytnokhjhhadnckaa
open Go.RowKit
/-- Is there a bool at i, and which. -/
theorem flag_at {I I' : Hp} {W w : World} {m : List HP} {A : Option Addr} {n c : Nat} {bs : List Bool} {i : Nat} (h : RowI I 1 (.slice A n c) bs.length (bs.map boolV)) (hs : I.sub I') (hst : St W I' w m) :
    decide (i < bs.length) = false ∨ ∃ b o f, A = some ⟨b, o, none⟩ ∧ decide (i < bs.length) = true ∧ i < bs.length ∧ n = bs.length ∧ w.cell? ⟨b, o + i, none⟩ = some (.bool f) := by
  by_cases hlt : i < bs.length
  · right
    obtain ⟨A', c', e, h1, h2, h3, h4, h5⟩ := h
    simp only [Value.slice.injEq] at e
    obtain ⟨rfl, rfl, rfl⟩ := e
    obtain ⟨b, off, cs, t, f, rfl, e2, e3⟩ := h5 (by omega)
    refine ⟨b, off, bs[i], rfl, by simpa using hlt, hlt, rfl, ?_⟩
    rw [cells_of (hst.imm_heap (hs _ _ e2))]
    exact e3 i _ (by rw [List.getElem?_map, List.getElem?_eq_getElem hlt]; rfl)
  · left
    rw [decide_eq_false_iff_not]; omega
/-- A store without power answers so. -/
theorem off_take {S : Str} (h : S.on = false) (who : Int) : takeS S who = (7, S) := by
  have : lmayS S who = 7 := by simp [lmayS, h]
  simp [takeS, this]
theorem off_give {S : Str} (h : S.on = false) (who : Int) : gbackS S who = (7, S) := by
  have : lmayS S who = 7 := by simp [lmayS, h]
  simp [gbackS, this]
theorem off_brk {S : Str} (h : S.on = false) (who : Int) : brkS S who = (7, S) := by
  have : lmayS S who = 7 := by simp [lmayS, h]
  simp [brkS, this]
theorem off_who {S : Str} (h : S.on = false) : whoS S = (0, 7) := by simp [whoS, h]
theorem LkC.less {S : Str} {o : Int} {m n : Nat} (h : LkC S o m) (hn : n ≤ m) : LkC S o n := ⟨h.j, h.on, h.arm, h.keeps.fewer hn⟩
theorem LkC.fell {S : Str} {o : Int} {m : Nat} (h : LkC S o m) : ∃ S', (fallS S [] 0).1 = S' ∧ S'.on = false ∧ LkJ S' o ∧ Keeps S' m ∧ LkC (powerS S') o m := by
  obtain ⟨h1, h2, h3⟩ := h.j.fall h.on [] 0
  have hk := fallS_keeps [] 0 h.keeps
  exact ⟨_, rfl, h2, h1, hk, h1.power, rfl, h3, powerS_keeps hk⟩
set_option maxRecDepth 4000
set_option maxHeartbeats 4000000
theorem lockPlays_walk (v0 v1 : Value) (ls : List A19) (bs : List Bool) (W : World) (h0 : RowI W.hp 4 v0 ls.length (ls.flatMap A19.vals)) (h1 : RowI W.hp 1 v1 bs.length (bs.map boolV)) (hn : ls.length ≤ maxLen) (hb : bs.length ≤ maxLen) :
    Calls Try.prog 10 #[v0, v1] W fun e w' => e = .returned (.bool true) ∧ Below W.heap.size W w' := by
  have H0 := Lib.hid h0
  have HB1 := Lib.hid h1
  obtain ⟨A0, c0, rfl, _⟩ := h0
  obtain ⟨A1, c1, rfl, _⟩ := h1
  unfold maxLen at hn hb
  have hn1 : (ls.length : Int) ≤ 9223372036854775807 := by omega
  have hb1 : (bs.length : Int) ≤ 9223372036854775807 := by omega
  by_cases hbig : 60 < ls.length ∨ 60 < bs.length
  · by_cases h40 : 60 < ls.length
    · have hd : decide (60 < (ls.length : Int)) = true := by rw [decide_eq_true_eq]; omega
      clear hbig h40
      go_enter Try.func10, Try.ntmps10
      go_wp2_with fail
      refine (known19_spec W).mono ?_
      rintro e w1 ⟨rfl, hb⟩
      have HB := Lib.hid hb
      clear hb
      go_wp2_with fail
      go_ret
      exact ⟨rfl, HB.out⟩
    · have hd : decide (60 < (ls.length : Int)) = false := by rw [decide_eq_false_iff_not]; omega
      have hd2 : decide (60 < (bs.length : Int)) = true := by rw [decide_eq_true_eq]; omega
      clear hbig h40
      go_enter Try.func10, Try.ntmps10
      go_wp2_with fail
      refine (known19_spec W).mono ?_
      rintro e w1 ⟨rfl, hb⟩
      have HB := Lib.hid hb
      clear hb
      go_wp2_with fail
      go_ret
      exact ⟨rfl, HB.out⟩
  · have hn60 : ls.length ≤ 60 := by omega
    have hd : decide (60 < (ls.length : Int)) = false := by rw [decide_eq_false_iff_not]; omega
    have hd2 : decide (60 < (bs.length : Int)) = false := by rw [decide_eq_false_iff_not]; omega
    clear hbig
    go_enter Try.func10, Try.ntmps10
    go_wp2_with fail
    refine (new_spec 1000 (St.init W)).mono ?_
    rintro e w1 ⟨p, rfl, h1⟩
    have H1 := Lib.hid h1
    clear h1
    go_wp2_with fail
    go_loopw [6, 7] (fun a6 a7 wr => ∃ (i : Nat) (o : Int) (S : Str) (I1 : Hp), a7 = .int .i64 i ∧ a6 = .int .i64 o ∧ i ≤ ls.length ∧ LkC S o (1000 - 8 * i) ∧ W.hp.sub I1 ∧ St W I1 wr (storeHP p S :: [])) (fun _ a7 _ => ls.length - (intOf a7).toNat)
    case atStart => exact ⟨0, 0, newS 1000, W.hp, rfl, rfl, Nat.zero_le _, LkC.new _ (by omega), Hp.sub.refl _, H1.out⟩
    case round =>
      obtain ⟨i, o, S, I1, rfl, rfl, hi, hkc, hI1, hst⟩ := hrel
      by_cases hlt : i < ls.length
      · obtain ⟨a, ha⟩ : ∃ a, ls[i]? = some a := ⟨_, List.getElem?_eq_getElem hlt⟩
        obtain ⟨b, off, e1, hc⟩ := rowk_cell (i := i) H0.out hI1 hst (fun _ => rfl) ha
        simp only [Value.slice.injEq, and_true] at e1
        subst e1
        have y0 := hc 0 (by omega)
        have y1 := hc 1 (by omega)
        have y2 := hc 2 (by omega)
        have y3 := hc 3 (by omega)
        simp only [A19.vals, List.getElem?_cons_succ, List.getElem?_cons_zero, Nat.add_zero] at y0 y1 y2 y3
        have hoi := H0.out
        have HC := Lib.hid hkc
        have HI1 := Lib.hid hI1
        have HST := Lib.hid hst
        have HA := Lib.hid ha
        clear hc hkc hI1 hst ha hoi
        have hth := ltheirs_spec o a wr
        obtain ⟨o', e', hT⟩ : ∃ o' e', theirsS o a.what a.n = (o', e') := ⟨_, _, rfl⟩
        have hstep := (HC.out.less (show 1000 - 8 * i - 4 + 4 ≤ 1000 - 8 * i by omega)).step a.what a.n
        rw [hT] at hth hstep
        simp only [A19.val] at hth
        have HTH := Lib.hid hth
        have HSTEP := Lib.hid hstep
        clear hth hstep hT
        go_wp2_with fail
        refine HTH.out.mono ?_
        rintro e w2 ⟨rfl, hb2⟩
        have h2 := HST.out.keep hb2
        obtain ⟨b', off', e1, hc⟩ := rowk_cell (i := i) H0.out HI1.out h2 (fun _ => rfl) HA.out
        simp only [Value.slice.injEq, and_true, Option.some.injEq, Addr.mk.injEq] at e1
        obtain ⟨rfl, rfl⟩ := e1
        have y0 := hc 0 (by omega)
        have y1 := hc 1 (by omega)
        have y2 := hc 2 (by omega)
        have y3 := hc 3 (by omega)
        simp only [A19.vals, List.getElem?_cons_succ, List.getElem?_cons_zero, Nat.add_zero] at y0 y1 y2 y3
        have hou := lours_spec a h2 (HC.out.keeps.fewer (show 1000 - 8 * i - 4 + 4 ≤ 1000 - 8 * i by omega)) HC.out.j
        rw [HSTEP.out.1] at hou
        simp only [A19.val] at hou
        have HOU := Lib.hid hou
        clear hb2 hc hou h2 HTH
        go_wp2_with fail
        refine HOU.out.mono ?_
        rintro e w3 ⟨I3, hs3, rfl, h3⟩
        have HC3 := Lib.hid HSTEP.out.2
        obtain ⟨S3, hS3⟩ : ∃ S3, (oursS S a.what a.n).2 = S3 := ⟨_, rfl⟩
        rw [hS3] at h3 HC3
        have hfl := flag_at (i := i) HB1.out (HI1.out.trans hs3) h3
        have H3 := Lib.hid h3
        have HS3 := Lib.hid (HI1.out.trans hs3)
        clear h3 hs3 hS3 y0 y1 y2 y3 HOU
        rcases hfl with hf | ⟨fb, fo, f, rfl, hf, hf2, _, hfc⟩
        · go_wp2_with fail
          have hwc := who_any H3.out HC3.out.keeps HC3.out.j
          rw [HC3.out.j.who HC3.out.on] at hwc
          refine hwc.mono ?_
          rintro e w8 ⟨rfl, hb8⟩
          have H8 := Lib.hid (H3.out.keep hb8)
          clear hb8 hwc
          go_wp2_with fail
          go_roundw
          case rel => exact ⟨i + 1, o', _, I3, by go_num, rfl, by omega, HC3.out.less (by omega), HS3.out, H8.out⟩
          case measure => simp [intOf]; omega
        · cases f with
          | false =>
            go_wp2_with fail
            have hwc := who_any H3.out HC3.out.keeps HC3.out.j
            rw [HC3.out.j.who HC3.out.on] at hwc
            refine hwc.mono ?_
            rintro e w8 ⟨rfl, hb8⟩
            have H8 := Lib.hid (H3.out.keep hb8)
            clear hb8 hwc
            go_wp2_with fail
            go_roundw
            case rel => exact ⟨i + 1, o', _, I3, by go_num, rfl, by omega, HC3.out.less (by omega), HS3.out, H8.out⟩
            case measure => simp [intOf]; omega
          | true =>
            obtain ⟨S4, hS4, hoff, hj4, hk4, hc5⟩ := HC3.out.fell
            have hfa := fall_spec (.slice none 0 0) [] 0 H3.out (ints_nil _) (by decide) (fun _ => HC3.out.keeps.inv.fewer (Nat.le_add_right _ _))
            rw [hS4] at hfa
            have HFA := Lib.hid hfa
            have HOFF := Lib.hid hoff
            have HJ4 := Lib.hid hj4
            have HK4 := Lib.hid hk4
            have HC5 := Lib.hid hc5
            clear hS4 hoff hj4 hk4 hc5 hfa
            go_wp2_with fail
            refine HFA.out.mono ?_
            rintro e w4 ⟨I4, hs4, rfl, h4⟩
            have H4 := Lib.hid h4
            have HS4 := Lib.hid (HS3.out.trans hs4)
            clear h4 hs4 HFA
            go_wp2_with fail
            have hwc := who_any H4.out HK4.out HJ4.out
            rw [off_who HOFF.out] at hwc
            refine hwc.mono ?_
            rintro e w5 ⟨rfl, hb5⟩
            have H5 := Lib.hid (H4.out.keep hb5)
            clear hb5 hwc
            go_wp2_with fail
            have hc := take_any (m := 1000 - 8 * i - 8) 0 H5.out (HK4.out.fewer (by omega)) HJ4.out
            rw [off_take HOFF.out] at hc
            refine hc.mono ?_
            rintro e w6 ⟨I6, hs6, rfl, h6⟩
            have H6 := Lib.hid h6
            have HS6 := Lib.hid (HS4.out.trans hs6)
            clear h6 hs6 hc
            go_wp2_with fail
            have hc := gback_any (m := 1000 - 8 * i - 8) 1 H6.out (HK4.out.fewer (by omega)) HJ4.out
            rw [off_give HOFF.out] at hc
            refine hc.mono ?_
            rintro e w7 ⟨I7, hs7, rfl, h7⟩
            have H7 := Lib.hid h7
            have HS7 := Lib.hid (HS6.out.trans hs7)
            clear h7 hs7 hc
            go_wp2_with fail
            have hc := brk_any (m := 1000 - 8 * i - 8) 1 H7.out (HK4.out.fewer (by omega)) HJ4.out
            rw [off_brk HOFF.out] at hc
            refine hc.mono ?_
            rintro e w9 ⟨I9, hs9, rfl, h9⟩
            have H9 := Lib.hid h9
            have HS9 := Lib.hid (HS7.out.trans hs9)
            clear h9 hs9 hc
            go_wp2_with fail
            refine (power_spec H9.out).mono ?_
            rw [HOFF.out]
            rintro e w10 ⟨rfl, h10⟩
            have h10 : St W I9 w10 (storeHP p (powerS S4) :: []) := h10
            have H10 := Lib.hid h10
            clear h10
            go_wp2_with fail
            have hwc := who_any H10.out HC5.out.keeps HC5.out.j
            rw [HC5.out.j.who HC5.out.on] at hwc
            refine hwc.mono ?_
            rintro e w8 ⟨rfl, hb8⟩
            have H8 := Lib.hid (H10.out.keep hb8)
            clear hb8 hwc
            go_wp2_with fail
            go_roundw
            case rel => exact ⟨i + 1, o', _, I9, by go_num, rfl, by omega, HC5.out.less (by omega), HS9.out, H8.out⟩
            case measure => simp [intOf]; omega
      · obtain rfl : i = ls.length := by omega
        have HST := Lib.hid hst
        clear hst hkc hI1
        go_wp2_with fail
        refine (known19_spec wr).mono ?_
        rintro e w9 ⟨rfl, hb9⟩
        have HB := Lib.hid (HST.out.below.trans (hb9.mono HST.out.below.size))
        clear hb9
        go_wp2_with fail
        go_ret
        exact ⟨rfl, HB.out⟩
end Go.Proofs.Ytnokhjhhadnckaa
