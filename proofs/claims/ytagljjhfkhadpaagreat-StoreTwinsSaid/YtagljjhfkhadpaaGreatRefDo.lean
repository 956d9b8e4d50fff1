/- hectographref3: Do. -/
import Derived.Test.YtagljjhfkhadpaaGreatRefEnds
set_option linter.unusedSimpArgs false
set_option linter.unusedVariables false
set_option linter.unusedSectionVars false
namespace Go.Proofs.YtagljjhfkhadpaaGreat
open Go.RowKit
section
variable {W w : World} {I : Hp} {l : List HP} {q : Nat} {R : RS}
set_option maxRecDepth 4000
set_option maxHeartbeats 8000000
theorem do3_spec (k : K4) (d : RD) (pv : Value) {c : Nat} (h : St W I w (refHP q R :: l)) (hi : RInv R c) (hc : c + 1 ≤ 100000) (hp : BytesI I pv d.p) (hm : d.may)
    (hb : ∀ (w2 : World) (I2 : Hp) (l2 : List HP), I.sub I2 → St W I2 w2 (refHP q R :: l2) → Calls Tryz.prog 65 #[.pointer (some ⟨q, 0, none⟩)] w2 fun e w' => ∃ I', I2.sub I' ∧ e = .returned (.bool (rburn R).1) ∧ St W I' w' (refHP q (rburn R).2 :: l2)) :
    Calls Tryz.prog 29 #[.pointer (some ⟨q, 0, none⟩), k.val, .agg #[.int .i64 d.what, .int .i64 d.n, .string d.name, pv]] w fun e w' => ∃ I', I.sub I' ∧ e = .returned (.int .i64 (rdo R k d).1) ∧ St W I' w' (refHP q (rdo R k d).2 :: l) := by
  obtain ⟨A, cA, vk, y0, y1, y2, y3, _, _, _, _, _, _, hlt⟩ := h.ref_cells
  have HP2 := Lib.hid hp
  obtain ⟨Ap, cp, rfl⟩ := BytesI.slice hp
  obtain ⟨I1, hs1, hI1, h1⟩ := (h.alloc (.cells #[.int .i64 k.kind, .int .i64 k.img, .int .i64 k.num, .int .i64 k.snap] 30)).freeze
  have h2 := h1.alloc_at (.cells #[.int .i64 d.what, .int .i64 d.n, .string d.name, .slice Ap d.p.length cp] 71) (show w.heap.size + 1 = _ by simp)
  have H2 := Lib.hid h2
  have HS1 := Lib.hid hs1
  have HI1 := Lib.hid hI1
  have HI := Lib.hid hi
  have HB := Lib.hid hb
  have HM := Lib.hid hm
  have HRT := right3_spec k
  clear h h1 h2 hi hs1 hI1 y0 y1 y2 hb hp hm
  simp only [K4.val] at HRT ⊢
  cases hof : R.off with
  | true =>
    have HR := Lib.hid (rdo_err (R := R) (k := k) (d := d) (e := 7) (by simp [rwhy, hof]) (by decide))
    rw [hof] at y3
    go_enter Tryz.func29, Tryz.ntmps29
    go_wp2_with fail
    go_ret
    rw [HR.out]
    exact ⟨I1, HS1.out, rfl, H2.out.drop⟩
  | false =>
    rw [hof] at y3
    cases hok : k.ok with
    | false =>
      have HR := Lib.hid (rdo_err (R := R) (k := k) (d := d) (e := 1) (by simp [rwhy, hof, hok]) (by decide))
      rw [hok] at HRT
      have x := imm_cells4 H2.out HI1.out
      obtain ⟨x0, x1, x2, x3⟩ := x
      go_enter Tryz.func29, Tryz.ntmps29
      go_wp2_with fail
      refine (HRT _).mono ?_
      rintro e w2 ⟨rfl, hb2⟩
      have H3 := Lib.hid (H2.out.keep hb2)
      clear hb2
      go_wp2_with fail
      go_ret
      rw [HR.out]
      exact ⟨I1, HS1.out, rfl, H3.out.drop⟩
    | true =>
      rw [hok] at HRT
      obtain ⟨x0, x1, x2, x3⟩ := imm_cells4 H2.out HI1.out
      go_enter Tryz.func29, Tryz.ntmps29
      go_wp2_with fail
      refine (HRT _).mono ?_
      rintro e w2 ⟨rfl, hb2⟩
      have h3 := H2.out.keep hb2
      obtain ⟨x0, x1, x2, x3⟩ := imm_cells4 h3 HI1.out
      have hbd := body_spec k (h3.pull 1 _ rfl) HI.out
      simp only [K4.val] at hbd
      have HBD := Lib.hid hbd
      clear hb2 h3 hbd H2 y3 HRT
      go_wp2_with fail
      refine HBD.out.mono ?_
      rintro e w3 ⟨I3, dv, av, hs3, rfl, hb3, h3⟩
      clear HBD x0 x1 x2 x3
      obtain ⟨Ad, cd, rfl⟩ := BytesI.slice hb3.1
      obtain ⟨Aa, ca, rfl⟩ := AttrsI.slice hb3.2
      obtain ⟨b, hb⟩ : ∃ b, rbody R k = b := ⟨_, rfl⟩
      obtain ⟨bg1, bg2, bg3⟩ := rbody_grown HI.out k
      rw [hb] at hb3 bg1 bg2 bg3 ⊢
      simp only [List.eraseIdx_cons_zero, List.eraseIdx_cons_succ] at h3
      obtain ⟨I4, hs4, hI4, h4⟩ := (h3.alloc (.cells #[.bool b.there, .slice Ad b.data.length cd, .slice Aa b.attrs.length ca] 92)).freeze
      go_upto_region 6 with fail
      obtain ⟨g5, hg5⟩ : ∃ g, g = w.heap.size + 1 := ⟨_, rfl⟩
      obtain ⟨g7, hg7⟩ : ∃ g, g = w3.heap.size := ⟨_, rfl⟩
      obtain ⟨w4, hw4⟩ : ∃ x, x = w3.alloc (.cells #[.bool b.there, .slice Ad b.data.length cd, .slice Aa b.attrs.length ca] 92) := ⟨_, rfl⟩
      rw [← hg7] at hI4 ⊢
      rw [← hg5] at h4 ⊢
      rw [← hw4] at h4 ⊢
      have HRW : Hid (rwhy R k d = if d.what = 1 ∧ b.there = true then 5 else if d.what = 1 ∧ 2000 ≤ rthings R.l then 6 else if d.what ≠ 1 ∧ b.there = false then 4 else
          if d.what = 5 ∧ (d.name.size < 1 ∨ 20 < d.name.size ∨ 4096 < d.p.length) then 1
          else if (rdeed b d).what = 2 ∧ ((rdeed b d).n < 0 ∨ 16384 - min (d.p.length : Int) 16384 < (rdeed b d).n ∨ 16384 < d.p.length) then 3
          else if ((rdeed b d).what = 2 ∨ d.what = 5) ∧ rleft R < rweight (rafter b (rdeed b d)) - rweight b then 6 else 0) := Lib.hid (by
        unfold rwhy
        rw [hof, hok, hb, if_neg (by simp), if_neg (by simp)])
      have HB3 : Hid (BodyI I4 (.slice Ad b.data.length cd) (.slice Aa b.attrs.length ca) b) := Lib.hid (hb3.mono hs4)
      have HS4 := Lib.hid ((HS1.out.trans hs3).trans hs4)
      have HS14 := Lib.hid (hs3.trans hs4)
      have HI4 := Lib.hid hI4
      have HBB := Lib.hid hb
      have H4 := Lib.hid h4
      clear h3 h4 hI4 hs4 hs3 hb3 hg5 hg7 hw4 hlt hok hof hb
      obtain ⟨z0, z1, z2, z3⟩ := (H4.out.pull 1 _ rfl).cells4
      obtain ⟨b0, b1, b2⟩ := imm_cells3 H4.out HI4.out
      go_upto_if 22 with fail
      go_cut [] from 10 (fun wc => ∃ I5, I4.sub I5 ∧ St W I5 wc (refHP q R :: HP.pt g5 (.cells #[.int .i64 d.what, .int .i64 d.n, .string d.name, .slice Ap d.p.length cp] 71) :: l) ∧ ¬ (d.what = 1 ∧ b.there = true) ∧ ¬ (d.what = 1 ∧ 2000 ≤ rthings R.l) ∧ ¬ (d.what ≠ 1 ∧ b.there = false))
      case first =>
        as_aux_lemma =>
          by_cases hw : d.what = 1
          · have hw1 : (d.what == 1) = true := by simpa using hw
            cases hth : b.there with
            | true =>
              have HR := Lib.hid (rdo_err (R := R) (k := k) (d := d) (e := 5) (by rw [HRW.out, if_pos ⟨hw, hth⟩]) (by decide))
              rw [hth] at b0
              go_wp2_with fail
              go_ret
              rw [HR.out]
              exact ⟨I4, HS4.out, rfl, (H4.out.pull 1 _ rfl).drop⟩
            | false =>
              have hthg := things_spec H4.out HI.out
              have HTHG := Lib.hid hthg
              rw [hth] at b0
              clear hthg
              go_wp2_with fail
              refine HTHG.out.mono ?_
              rintro e w5 ⟨I5, hs5, rfl, h5⟩
              have H5 := Lib.hid h5
              have HS5 := Lib.hid hs5
              clear h5 hs5 HTHG
              have HW := Lib.hid hw
              clear hw
              by_cases h20 : 2000 ≤ rthings R.l
              · have HR := Lib.hid (rdo_err (R := R) (k := k) (d := d) (e := 6) (by rw [HRW.out, if_neg (by rw [hth]; simp), if_pos ⟨HW.out, h20⟩]) (by decide))
                have h20d : decide ((2000 : Int) ≤ (rthings R.l : Int)) = true := by rw [decide_eq_true_eq]; omega
                go_wp2_with fail
                go_ret
                rw [HR.out]
                exact ⟨I5, HS4.out.trans HS5.out, rfl, (H5.out.pull 1 _ rfl).drop⟩
              · have h20d : decide ((2000 : Int) ≤ (rthings R.l : Int)) = false := by rw [decide_eq_false_iff_not]; omega
                go_wp2_with fail
                go_meet
                case rel => exact ⟨I5, HS5.out, H5.out, fun x => by simp [hth] at x, fun x => h20 x.2, fun x => x.1 HW.out⟩
          · have hw1 : (d.what == 1) = false := by simpa using hw
            cases hth : b.there with
            | true =>
              rw [hth] at b0
              go_wp2_with fail
              go_meet
              case rel => exact ⟨I4, Hp.sub.refl _, H4.out, fun x => hw x.1, fun x => hw x.1, fun x => by simp [hth] at x⟩
            | false =>
              have HR := Lib.hid (rdo_err (R := R) (k := k) (d := d) (e := 4) (by rw [HRW.out, if_neg (fun x => hw x.1), if_neg (fun x => hw x.1), if_pos ⟨hw, hth⟩]) (by decide))
              rw [hth] at b0
              go_wp2_with fail
              go_ret
              rw [HR.out]
              exact ⟨I4, HS4.out, rfl, (H4.out.pull 1 _ rfl).drop⟩
      case rest =>
        as_aux_lemma =>
          obtain ⟨w5, hw5⟩ : ∃ x, x = wc := ⟨_, rfl⟩
          subst hw5
          obtain ⟨I5, hs5, h5, n1, n2, n3⟩ := hcut
          have HRW2 := Lib.hid (HRW.out.trans (by rw [if_neg n1, if_neg n2, if_neg n3]))
          have H5 := Lib.hid h5
          have HS5 := Lib.hid hs5
          clear h5 hs5 n1 n2 n3 HRW H4 z0 z1 z2 z3 b0 b1 b2
          obtain ⟨z0, z1, z2, z3⟩ := (H5.out.pull 1 _ rfl).cells4
          obtain ⟨f5, hf5⟩ : ∃ f5, decide (d.what = 5 ∧ (d.name.size < 1 ∨ 20 < d.name.size ∨ 4096 < d.p.length)) = f5 := ⟨_, rfl⟩
          go_upto_region 13 with fail
          go_cut [51] from 10 (fun s51 wc => s51 = .bool f5 ∧ wc = w5)
          case first =>
            as_aux_lemma =>
              by_cases hw : d.what = 5
              · have hw1 : (d.what == 5) = true := by simpa using hw
                by_cases ha : d.name.size < 1
                · have d1 : decide ((d.name.size : Int) < 1) = true := by rw [decide_eq_true_eq]; omega
                  have d1' : d.name.size = 0 := by omega
                  have hf : f5 = true := by rw [← hf5]; simp [hw, ha]
                  clear hf5 ha
                  go_wp2_with fail
                  go_meet
                  case rel => exact ⟨by rw [hf], rfl⟩
                · have d1 : decide ((d.name.size : Int) < 1) = false := by rw [decide_eq_false_iff_not]; omega
                  have d1' : ¬ d.name.size = 0 := by omega
                  by_cases ha2 : 20 < d.name.size
                  · have d2 : decide (20 < (d.name.size : Int)) = true := by rw [decide_eq_true_eq]; omega
                    have d2' : decide (20 < d.name.size) = true := by simpa using ha2
                    have hf : f5 = true := by rw [← hf5]; simp [hw, ha2]
                    clear hf5 ha
                    go_wp2_with fail
                    go_meet
                    case rel => exact ⟨by rw [hf], rfl⟩
                  · have d2 : decide (20 < (d.name.size : Int)) = false := by rw [decide_eq_false_iff_not]; omega
                    have d2' : decide (20 < d.name.size) = false := by simpa using ha2
                    by_cases ha3 : 4096 < d.p.length
                    · have d3 : decide (4096 < (d.p.length : Int)) = true := by rw [decide_eq_true_eq]; omega
                      have d3' : decide (4096 < d.p.length) = true := by simpa using ha3
                      have hf : f5 = true := by rw [← hf5]; simp [hw, ha3]
                      clear hf5 ha
                      go_wp2_with fail
                      go_meet
                      case rel => exact ⟨by rw [hf], rfl⟩
                    · have d3 : decide (4096 < (d.p.length : Int)) = false := by rw [decide_eq_false_iff_not]; omega
                      have d3' : decide (4096 < d.p.length) = false := by simpa using ha3
                      have hf : f5 = false := by rw [← hf5]; simp only [hw, ha, ha2, ha3, or_self, and_false, decide_false]
                      clear hf5 ha
                      go_wp2_with fail
                      go_meet
                      case rel => exact ⟨by rw [hf], rfl⟩
              · have hw1 : (d.what == 5) = false := by simpa using hw
                have hf : f5 = false := by rw [← hf5]; simp [hw]
                go_wp2_with fail
                go_meet
                case rel => exact ⟨by rw [hf], rfl⟩
          case rest =>
            as_aux_lemma =>
              obtain ⟨rfl, rfl⟩ := hcut
              cases f5 with
              | true =>
                have HR := Lib.hid (rdo_err (R := R) (k := k) (d := d) (e := 1) (by rw [HRW2.out, if_pos (by simpa using hf5)]) (by decide))
                clear hf5
                go_wp2_with fail
                go_ret
                rw [HR.out]
                exact ⟨I5, HS4.out.trans HS5.out, rfl, (H5.out.pull 1 _ rfl).drop⟩
              | false =>
                have hn5 : ¬ (d.what = 5 ∧ (d.name.size < 1 ∨ 20 < d.name.size ∨ 4096 < d.p.length)) := by simpa using hf5
                have HRW3 := Lib.hid (HRW2.out.trans (by rw [if_neg hn5]))
                have HN5 := Lib.hid hn5
                clear hf5 hn5 HRW2
                obtain ⟨D1, hD1⟩ : ∃ D1 : RD, (if d.what = 6 then { d with what := 2, n := b.data.length } else d) = D1 := ⟨_, rfl⟩
                go_upto_if 54 with fail
                go_cut [] from 10 (fun wc => St W I5 wc (refHP q R :: HP.pt g5 (.cells #[.int .i64 D1.what, .int .i64 D1.n, .string d.name, .slice Ap d.p.length cp] 71) :: l))
                case first =>
                  as_aux_lemma =>
                    by_cases hw : d.what = 6
                    · have hw1 : (d.what == 6) = true := by simpa using hw
                      obtain ⟨b0, b1, b2⟩ := imm_cells3 H5.out (HS5.out _ _ HI4.out)
                      have f := frozen_of_row (H5.out.pull 1 _ rfl).heap
                      have h6 := ((H5.out.drew.pull 1 _ rfl).setCell 0 (.int .i64 2)).setCell 1 (.int .i64 b.data.length)
                      simp only [List.setIfInBounds_toArray, List.set_cons_zero, List.set_cons_succ, List.eraseIdx_cons_zero, List.eraseIdx_cons_succ] at h6
                      have HD1 := Lib.hid (show D1.what = 2 ∧ D1.n = b.data.length by rw [← hD1, if_pos hw]; exact ⟨rfl, rfl⟩)
                      have H6 := Lib.hid h6
                      have b1' := (imm_cells3 ((H5.out.drew.pull 1 _ rfl).setCell 0 (.int .i64 2)) (HS5.out _ _ HI4.out)).2.1
                      clear h6 hD1 hw
                      go_upto_region 16 with fail
                      refine wp_region_keep (fun w' => w'.cell? ⟨g7, 1, none⟩ = some (.slice Ad b.data.length cd)) [0, 1, 2, 3] [4] [5, 6] (by kernel_rfl) (by kernel_rfl) (by (exact b1)) ?_
                      simp only [pickL, List.getElem?_cons_zero, List.getElem?_cons_succ]
                      repeat (refine wpFirst_step _ (Or.inl ⟨by rfl, by (intro w hSw; (try dsimp only at hSw); go_simp; try with_reducible rfl)⟩) ?_; (try simp only [Act.put, List.setIfInBounds_toArray, List.set_cons_zero, List.set_cons_succ]))
                      refine wpFirst_nil ?_
                      unfold wpHold
                      go_wp2_with fail
                      refine holdPost_normal b1' ?_
                      unfold wpHold
                      go_wp2_with fail
                      refine NoPanic.normal ?_
                      go_wp2_with fail
                      go_meet
                      case rel => rw [HD1.out.1, HD1.out.2]; exact H6.out.pull 1 _ rfl
                    · have hw1 : (d.what == 6) = false := by simpa using hw
                      have HD1 := Lib.hid (show D1 = d by rw [← hD1, if_neg hw])
                      clear hD1
                      go_wp2_with fail
                      go_meet
                      case rel => rw [HD1.out]; exact H5.out
                case rest =>
                  as_aux_lemma =>
                    obtain ⟨w6, hw6⟩ : ∃ x, x = wc := ⟨_, rfl⟩
                    subst hw6
                    have H6 := Lib.hid hcut
                    clear hcut z0 z1 z2 z3 H5
                    obtain ⟨z0, z1, z2, z3⟩ := (H6.out.pull 1 _ rfl).cells4
                    obtain ⟨D, hD⟩ : ∃ D : RD, (if D1.what = 3 then { D1 with n := heldI D1.n 0 b.data.length } else D1) = D := ⟨_, rfl⟩
                    have HD : Hid (rdeed b d = D ∧ (D.what = 2 → D.n = D1.n) ∧ D.what = D1.what ∧ D.p = d.p ∧ D.name = d.name ∧ (D.what = 5 ↔ d.what = 5) ∧ (D1.what = 3 → D.n = heldI D1.n 0 b.data.length) ∧ (D1.what ≠ 3 → D.n = D1.n)) := Lib.hid (by
                      rw [← hD, ← hD1]
                      unfold rdeed
                      by_cases c6 : d.what = 6
                      · simp [c6]
                      · by_cases c3 : d.what = 3
                        · simp [c3]
                        · simp [c6, c3])
                    have HRW4 : Hid (rwhy R k d = if D1.what = 2 ∧ (D1.n < 0 ∨ 16384 - min (d.p.length : Int) 16384 < D1.n ∨ 16384 < d.p.length) then 3
                        else if (D.what = 2 ∨ D.what = 5) ∧ rleft R < rweight (rafter b D) - rweight b then 6 else 0) := Lib.hid (by
                      obtain ⟨e1, e2, e3, e4, e5, e6, e7, e8⟩ := HD.out
                      have e9 : (D.what = 2 ∧ (D.n < 0 ∨ 16384 - min (d.p.length : Int) 16384 < D.n ∨ 16384 < d.p.length)) ↔ (D1.what = 2 ∧ (D1.n < 0 ∨ 16384 - min (d.p.length : Int) 16384 < D1.n ∨ 16384 < d.p.length)) := by
                        constructor
                        · rintro ⟨x, y⟩
                          rw [e2 x] at y
                          exact ⟨e3 ▸ x, y⟩
                        · rintro ⟨x, y⟩
                          have x' : D.what = 2 := by rw [e3]; exact x
                          rw [← e2 x'] at y
                          exact ⟨x', y⟩
                      rw [HRW3.out, e1]
                      simp only [e9, e6])
                    obtain ⟨f2, hf2⟩ : ∃ f2, decide (D1.what = 2 ∧ (D1.n < 0 ∨ 16384 - min (d.p.length : Int) 16384 < D1.n ∨ 16384 < d.p.length)) = f2 := ⟨_, rfl⟩
                    clear HRW3 hD hD1
                    go_upto_region 17 with fail
                    go_cut [83] from 10 (fun s83 wc => s83 = .bool f2 ∧ wc = w6)
                    case first =>
                      as_aux_lemma =>
                        have hpl := HM.out.p
                        have hmin : min (d.p.length : Int) 16384 = (d.p.length : Int) := by omega
                        have hdif : IntKind.i64.wrap (16384 - (d.p.length : Int)) = 16384 - (d.p.length : Int) := by rw [IntKind.wrap_i64]; omega
                        have d3 : decide (16384 < (d.p.length : Int)) = false := by rw [decide_eq_false_iff_not]; omega
                        have d3' : decide (16384 < d.p.length) = false := by rw [decide_eq_false_iff_not]; omega
                        by_cases hw : D1.what = 2
                        · have hw1 : (D1.what == 2) = true := by simpa using hw
                          by_cases ha : D1.n < 0
                          · have d1 : decide (D1.n < 0) = true := by simpa using ha
                            have hf : f2 = true := by rw [← hf2]; simp [hw, ha]
                            clear hf2 ha
                            go_wp2_with fail
                            go_meet
                            case rel => exact ⟨by rw [hf], rfl⟩
                          · have d1 : decide (D1.n < 0) = false := by simpa using ha
                            by_cases ha2 : 16384 - (d.p.length : Int) < D1.n
                            · have d2 : decide (16384 - (d.p.length : Int) < D1.n) = true := by simpa using ha2
                              have hf : f2 = true := by rw [← hf2, hmin]; simp [hw, ha2]
                              clear hf2 ha ha2
                              go_wp2_with fail
                              go_meet
                              case rel => exact ⟨by rw [hf], rfl⟩
                            · have d2 : decide (16384 - (d.p.length : Int) < D1.n) = false := by simpa using ha2
                              have hf : f2 = false := by
                                rw [← hf2, hmin, decide_eq_false_iff_not]
                                rintro ⟨_, x | x | x⟩ <;> omega
                              clear hf2 ha ha2
                              go_wp2_with fail
                              go_meet
                              case rel => exact ⟨by rw [hf], rfl⟩
                        · have hw1 : (D1.what == 2) = false := by simpa using hw
                          have hf : f2 = false := by rw [← hf2]; simp [hw]
                          clear hf2
                          go_wp2_with fail
                          go_meet
                          case rel => exact ⟨by rw [hf], rfl⟩
                    case rest =>
                      as_aux_lemma =>
                        obtain ⟨rfl, rfl⟩ := hcut
                        cases f2 with
                        | true =>
                          have HR := Lib.hid (rdo_err (R := R) (k := k) (d := d) (e := 3) (by rw [HRW4.out, if_pos (by simpa using hf2)]) (by decide))
                          clear hf2
                          go_wp2_with fail
                          go_ret
                          rw [HR.out]
                          exact ⟨I5, HS4.out.trans HS5.out, rfl, (H6.out.pull 1 _ rfl).drop⟩
                        | false =>
                          have hn2 : ¬ (D1.what = 2 ∧ (D1.n < 0 ∨ 16384 - min (d.p.length : Int) 16384 < D1.n ∨ 16384 < d.p.length)) := by simpa using hf2
                          have HRW5 := Lib.hid (HRW4.out.trans (by rw [if_neg hn2]))
                          have HFIT : Hid D.fits := Lib.hid (by
                            obtain ⟨e1, e2, e3, e4, e5, e6, e7, e8⟩ := HD.out
                            have := rdeed_fits (k := k) HI.out HM.out HN5.out (by
                              rw [HBB.out, e1, e3]
                              intro x
                              rw [e2 (by rw [e3]; exact x.1)] at x
                              exact hn2 x)
                            rw [HBB.out, e1] at this
                            exact this)
                          clear hf2 hn2 HRW4 HN5
                          go_upto_if 86 with fail
                          go_cut [] from 10 (fun wc => St W I5 wc (refHP q R :: HP.pt g5 (.cells #[.int .i64 D.what, .int .i64 D.n, .string d.name, .slice Ap d.p.length cp] 71) :: l))
                          case first =>
                            as_aux_lemma =>
                              by_cases hw : D1.what = 3
                              · have hw1 : (D1.what == 3) = true := by simpa using hw
                                obtain ⟨b0, b1, b2⟩ := imm_cells3 H6.out (HS5.out _ _ HI4.out)
                                have f := frozen_of_row (H6.out.pull 1 _ rfl).heap
                                have h7 := (H6.out.pull 1 _ rfl).setCell 1 (.int .i64 (heldI D1.n 0 b.data.length))
                                simp only [List.setIfInBounds_toArray, List.set_cons_zero, List.set_cons_succ, List.eraseIdx_cons_zero, List.eraseIdx_cons_succ] at h7
                                have H7 := Lib.hid h7
                                clear h7
                                go_wp2_with fail
                                refine (held_spec _ _ _ _).mono ?_
                                rintro e w7 ⟨rfl, rfl⟩
                                go_wp2_with fail
                                go_meet
                                case rel => rw [HD.out.2.2.1, HD.out.2.2.2.2.2.2.1 hw]; exact H7.out.pull 1 _ rfl
                              · have hw1 : (D1.what == 3) = false := by simpa using hw
                                go_wp2_with fail
                                go_meet
                                case rel => rw [HD.out.2.2.1, HD.out.2.2.2.2.2.2.2 hw]; exact H6.out
                          case rest =>
                            as_aux_lemma =>
                              obtain ⟨w7, hw7⟩ : ∃ x, x = wc := ⟨_, rfl⟩
                              subst hw7
                              have H7 := Lib.hid hcut
                              clear hcut z0 z1 z2 z3 H6
                              obtain ⟨z0, z1, z2, z3⟩ := (H7.out.pull 1 _ rfl).cells4
                              have f := frozen_of_row (H7.out.pull 1 _ rfl).heap
                              have hlt5 := (H7.out.pull 1 _ rfl).lt
                              have h8 := St.lit_row H7.out #[] [] 0 rfl rfl (by unfold maxLen; omega)
                              have hps := bytes_src h8 ((bytesIP _ _).mono ((HS4.out.trans HS5.out)) HP2.out)
                              have hpl := HM.out.p
                              obtain ⟨v6, w8, hr8, h8⟩ := St.bytes_append 31 h8 hps (by omega)
                              rw [Nat.zero_add, List.nil_append] at h8
                              obtain ⟨A6, c6, rfl⟩ := is_slice h8.row_owns
                              obtain ⟨I8, hs8, hb8, h9⟩ := h8.freeze_row
                              have HB8 : Hid (BytesI I8 (.slice A6 d.p.length c6) d.p) := Lib.hid hb8
                              obtain ⟨z0', z1', z2', z3'⟩ := (h9.pull 1 _ rfl).cells4
                              have f8 := frozen_of_row (h9.pull 1 _ rfl).heap
                              have h10 := (h9.pull 1 _ rfl).setCell 3 (.slice A6 d.p.length c6)
                              simp only [List.setIfInBounds_toArray, List.set_cons_zero, List.set_cons_succ, List.eraseIdx_cons_zero, List.eraseIdx_cons_succ] at h10
                              have HR8 := Lib.hid hr8
                              have HS8 := Lib.hid (HS5.out.trans hs8)
                              have H10 := Lib.hid (h10.pull 1 _ rfl)
                              clear h8 hr8 hs8 hb8 h9 h10 hps
                              go_upto_region 22 with (at_builtin; refine Lib.wpList_append_run _ rfl (.tmp 94) (.tmp 96) 31 31 rfl _ _ rfl rfl _ _ HR8.out ?_)
                              obtain ⟨w9, hw9⟩ : ∃ x, x = w8.setCell ⟨g5, 3, none⟩ (.slice A6 d.p.length c6) := ⟨_, rfl⟩
                              rw [← hw9] at H10 ⊢
                              clear hw9 HR8 z0 z1 z2 z3 z0' z1' z2' z3' f f8
                              have HI8 := Lib.hid (HS8.out _ _ HI4.out)
                              have HN := Lib.hid HD.out.2.2.2.2.1
                              have HPP := Lib.hid HD.out.2.2.2.1
                              obtain ⟨u0, hu0⟩ : ∃ u, rweight b = u := ⟨_, rfl⟩
                              obtain ⟨u1, hu1⟩ : ∃ u, rweight (rafter b D) = u := ⟨_, rfl⟩
                              have hg1 := grown_step (m := c) (k := 0) ⟨bg1, by simpa using bg2, bg3⟩ HFIT.out
                              have hu0b : 0 ≤ u0 ∧ u0 ≤ 100000000000 := by
                                have := attrSize_le bg3
                                rw [← hu0]
                                unfold rweight
                                omega
                              have hu1b : 0 ≤ u1 ∧ u1 ≤ 100000000000 := by
                                have := attrSize_le hg1.small
                                have := hg1.attrs
                                have := hg1.data
                                rw [← hu1]
                                unfold rweight
                                omega
                              have hsub : IntKind.i64.wrap (u1 - u0) = u1 - u0 := by rw [IntKind.wrap_i64]; omega
                              obtain ⟨f22, hf22⟩ : ∃ f22, decide ((D.what = 2 ∨ D.what = 5) ∧ rleft R < u1 - u0) = f22 := ⟨_, rfl⟩
                              rw [hu1, hu0] at HRW5
                              have HG1 := Lib.hid hg1
                              clear hg1
                              go_cut [118] from 10 (fun s118 wc => s118 = .bool f22 ∧ ∃ I9, I8.sub I9 ∧ St W I9 wc (refHP q R :: HP.pt g5 (.cells #[.int .i64 D.what, .int .i64 D.n, .string d.name, .slice A6 d.p.length c6] 71) :: l))
                              case first =>
                                as_aux_lemma =>
                                  by_cases hg : D.what = 2 ∨ D.what = 5
                                  · have hgg : ((D.what == 2) = true) ∨ ((D.what == 2) = false ∧ (D.what == 5) = true) := by
                                      by_cases h2 : D.what = 2
                                      · exact .inl (by simpa using h2)
                                      · exact .inr ⟨by simpa using h2, by simpa using hg.resolve_left h2⟩
                                    have HF : Hid (f22 = decide (rleft R < u1 - u0)) := Lib.hid (by rw [← hf22]; simp [hg])
                                    clear hg hf22
                                    obtain ⟨z0, z1, z2, z3⟩ := (H10.out.drew.pull 1 _ rfl).cells4
                                    obtain ⟨b0, b1, b2⟩ := imm_cells3 H10.out.drew HI8.out
                                    have haf := after_spec _ _ (.slice A6 d.p.length c6) b D H10.out.drew (HB3.out.mono HS8.out) (by rw [HPP.out]; exact HB8.out) HFIT.out.1 (by have := HFIT.out.2.1; have := HFIT.out.2.2.1; omega) (by omega)
                                    rw [HN.out] at haf
                                    have HAF := Lib.hid haf
                                    clear haf
                                    rcases hgg with hw1 | ⟨hw0, hw1⟩
                                    · clear hu0b hu1b
                                      refine wp_region_tree (fun w' => w'.cell? ⟨g5, 0, none⟩ = some (.int .i64 D.what) ∧ w'.cell? ⟨g5, 1, none⟩ = some (.int .i64 D.n) ∧ w'.cell? ⟨g5, 2, none⟩ = some (.string d.name) ∧ w'.cell? ⟨g5, 3, none⟩ = some (.slice A6 d.p.length c6) ∧ w'.cell? ⟨g7, 0, none⟩ = some (.bool b.there) ∧ w'.cell? ⟨g7, 1, none⟩ = some (.slice Ad b.data.length cd) ∧ w'.cell? ⟨g7, 2, none⟩ = some (.slice Aa b.attrs.length ca)) [0, 1, 2, 3, 4, 5, 6, 7, 8, 9, 10, 13, 16] [11, 12, 14, 15, 17] (Tr.one 11 (Tr.one 12 (Tr.one 14 (Tr.two 15 (Tr.one 17 Tr.leaf) 17 (Tr.one 15 Tr.leaf))))) [18, 19] (by kernel_rfl) (by kernel_rfl) (by (exact ⟨z0, z1, z2, z3, b0, b1, b2⟩)) ?_
                                      simp only [pickL, List.getElem?_cons_zero, List.getElem?_cons_succ]
                                      repeat (first | (refine wpFirst_step _ (Or.inl ⟨by rfl, by (intro w hSw; (try dsimp only at hSw); go_simp; try with_reducible rfl)⟩) ?_; (try simp only [Act.put, List.setIfInBounds_toArray, List.set_cons_zero, List.set_cons_succ])) | (refine wpFirst_step _ (Or.inr ⟨by rfl, rfl⟩) ?_; (try simp only [Act.put, List.setIfInBounds_toArray, List.set_cons_zero, List.set_cons_succ])) | fail)
                                      refine wpFirst_nil ?_
                                      unfold wpTr
                                      simp only [pickL, List.getElem?_cons_zero, List.getElem?_cons_succ]
                                      go_wp2_with fail
                                      refine HAF.out.mono ?_
                                      rintro e w11 ⟨I11, dv, av, hs11, rfl, hb11, h11⟩
                                      obtain ⟨Ae, ce, rfl⟩ := BytesI.slice hb11.1
                                      obtain ⟨Af, cf, rfl⟩ := AttrsI.slice hb11.2
                                      have H11 := Lib.hid h11
                                      have HS11 := Lib.hid hs11
                                      have HI11 := Lib.hid (hs11 _ _ HI8.out)
                                      obtain ⟨z0, z1, z2, z3⟩ := ((h11).pull 1 _ rfl).cells4
                                      obtain ⟨b0, b1, b2⟩ := imm_cells3 (h11) (hs11 _ _ HI8.out)
                                      have hwt := weight_spec _ _ _ h11 hb11 HG1.out.data (by have := HG1.out.attrs; omega) HG1.out.small
                                      rw [hu1] at hwt
                                      have HWT := Lib.hid hwt
                                      clear h11 hs11 hb11 hwt HAF
                                      go_wp2_with fail
                                      refine holdPost_normal ⟨z0, z1, z2, z3, b0, b1, b2⟩ ?_
                                      unfold wpTr
                                      (try simp only [pickL, List.getElem?_cons_zero, List.getElem?_cons_succ])
                                      go_wp2_with fail
                                      refine HWT.out.mono ?_
                                      rintro e w12 ⟨I12, hs12, rfl, h12⟩
                                      have H12 := Lib.hid h12
                                      have HS12 := Lib.hid (HS11.out.trans hs12)
                                      have HI12 := Lib.hid (hs12 _ _ HI11.out)
                                      obtain ⟨z0, z1, z2, z3⟩ := ((h12).pull 1 _ rfl).cells4
                                      obtain ⟨b0, b1, b2⟩ := imm_cells3 (h12) (hs12 _ _ HI11.out)
                                      have hwt := weight_spec _ _ _ h12 ((HB3.out.mono HS8.out).mono (HS11.out.trans hs12)) bg1 (by omega) bg3
                                      rw [hu0] at hwt
                                      have HWU := Lib.hid hwt
                                      clear h12 hs12 hwt HWT
                                      go_wp2_with fail
                                      refine holdPost_normal ⟨z0, z1, z2, z3, b0, b1, b2⟩ ?_
                                      unfold wpTr
                                      (try simp only [pickL, List.getElem?_cons_zero, List.getElem?_cons_succ])
                                      go_wp2_with fail
                                      refine HWU.out.mono ?_
                                      rintro e w14 ⟨I14, hs14, rfl, h14⟩
                                      have H14 := Lib.hid h14
                                      have HS14c := Lib.hid (HS12.out.trans hs14)
                                      have HI14 := Lib.hid (hs14 _ _ HI12.out)
                                      obtain ⟨z0, z1, z2, z3⟩ := ((h14).pull 1 _ rfl).cells4
                                      obtain ⟨b0, b1, b2⟩ := imm_cells3 (h14) (hs14 _ _ HI12.out)
                                      clear h14 hs14 HWU
                                      go_wp2_with fail
                                      refine holdPost_normal ⟨z0, z1, z2, z3, b0, b1, b2⟩ ?_
                                      unfold wpTr
                                      (try simp only [pickL, List.getElem?_cons_zero, List.getElem?_cons_succ])
                                      refine ⟨?_, ?_⟩
                                      · go_wp2_with fail
                                        refine holdPost_normal ⟨z0, z1, z2, z3, b0, b1, b2⟩ ?_
                                        unfold wpTr
                                        (try simp only [pickL, List.getElem?_cons_zero, List.getElem?_cons_succ])
                                        go_wp2_with fail
                                        have hl := left3_spec H14.out HI.out
                                        refine hl.mono ?_
                                        rintro e w17 ⟨I17, hs17, rfl, h17⟩
                                        have H17 := Lib.hid h17
                                        have HS17 := Lib.hid (HS14c.out.trans hs17)
                                        obtain ⟨z0, z1, z2, z3⟩ := ((h17).pull 1 _ rfl).cells4
                                        obtain ⟨b0, b1, b2⟩ := imm_cells3 (h17) (hs17 _ _ HI14.out)
                                        clear h17 hs17 hl
                                        go_wp2_with fail
                                        refine holdPost_normal ⟨z0, z1, z2, z3, b0, b1, b2⟩ ?_
                                        unfold wpTr
                                        (try simp only [pickL, List.getElem?_cons_zero, List.getElem?_cons_succ])
                                        obtain ⟨fl, hfl⟩ : ∃ x, decide (rleft R < u1 - u0) = x := ⟨_, rfl⟩
                                        rw [hfl] at HF
                                        go_wp2_with fail
                                        refine NoPanic.normal ?_
                                        go_wp2_with fail
                                        go_meet
                                        case rel => exact ⟨by rw [HF.out], I17, HS17.out, H17.out⟩
                                      · go_wp2_with fail
                                        have hl := left3_spec H14.out HI.out
                                        refine hl.mono ?_
                                        rintro e w17 ⟨I17, hs17, rfl, h17⟩
                                        have H17 := Lib.hid h17
                                        have HS17 := Lib.hid (HS14c.out.trans hs17)
                                        obtain ⟨z0, z1, z2, z3⟩ := ((h17).pull 1 _ rfl).cells4
                                        obtain ⟨b0, b1, b2⟩ := imm_cells3 (h17) (hs17 _ _ HI14.out)
                                        clear h17 hs17 hl
                                        go_wp2_with fail
                                        refine holdPost_normal ⟨z0, z1, z2, z3, b0, b1, b2⟩ ?_
                                        unfold wpTr
                                        (try simp only [pickL, List.getElem?_cons_zero, List.getElem?_cons_succ])
                                        go_wp2_with fail
                                        refine holdPost_normal ⟨z0, z1, z2, z3, b0, b1, b2⟩ ?_
                                        unfold wpTr
                                        (try simp only [pickL, List.getElem?_cons_zero, List.getElem?_cons_succ])
                                        obtain ⟨fl, hfl⟩ : ∃ x, decide (rleft R < u1 - u0) = x := ⟨_, rfl⟩
                                        rw [hfl] at HF
                                        go_wp2_with fail
                                        refine NoPanic.normal ?_
                                        go_wp2_with fail
                                        go_meet
                                        case rel => exact ⟨by rw [HF.out], I17, HS17.out, H17.out⟩
                                    · clear hu0b hu1b
                                      refine wp_region_tree (fun w' => w'.cell? ⟨g5, 0, none⟩ = some (.int .i64 D.what) ∧ w'.cell? ⟨g5, 1, none⟩ = some (.int .i64 D.n) ∧ w'.cell? ⟨g5, 2, none⟩ = some (.string d.name) ∧ w'.cell? ⟨g5, 3, none⟩ = some (.slice A6 d.p.length c6) ∧ w'.cell? ⟨g7, 0, none⟩ = some (.bool b.there) ∧ w'.cell? ⟨g7, 1, none⟩ = some (.slice Ad b.data.length cd) ∧ w'.cell? ⟨g7, 2, none⟩ = some (.slice Aa b.attrs.length ca)) [0, 1, 2, 3, 4, 5, 6, 7, 8, 9, 10, 13, 16] [11, 12, 14, 15, 17] (Tr.one 11 (Tr.one 12 (Tr.one 14 (Tr.two 15 (Tr.one 17 Tr.leaf) 17 (Tr.one 15 Tr.leaf))))) [18, 19] (by kernel_rfl) (by kernel_rfl) (by (exact ⟨z0, z1, z2, z3, b0, b1, b2⟩)) ?_
                                      simp only [pickL, List.getElem?_cons_zero, List.getElem?_cons_succ]
                                      repeat (first | (refine wpFirst_step _ (Or.inl ⟨by rfl, by (intro w hSw; (try dsimp only at hSw); go_simp; try with_reducible rfl)⟩) ?_; (try simp only [Act.put, List.setIfInBounds_toArray, List.set_cons_zero, List.set_cons_succ])) | (refine wpFirst_step _ (Or.inr ⟨by rfl, rfl⟩) ?_; (try simp only [Act.put, List.setIfInBounds_toArray, List.set_cons_zero, List.set_cons_succ])) | fail)
                                      refine wpFirst_nil ?_
                                      unfold wpTr
                                      simp only [pickL, List.getElem?_cons_zero, List.getElem?_cons_succ]
                                      go_wp2_with fail
                                      refine HAF.out.mono ?_
                                      rintro e w11 ⟨I11, dv, av, hs11, rfl, hb11, h11⟩
                                      obtain ⟨Ae, ce, rfl⟩ := BytesI.slice hb11.1
                                      obtain ⟨Af, cf, rfl⟩ := AttrsI.slice hb11.2
                                      have H11 := Lib.hid h11
                                      have HS11 := Lib.hid hs11
                                      have HI11 := Lib.hid (hs11 _ _ HI8.out)
                                      obtain ⟨z0, z1, z2, z3⟩ := ((h11).pull 1 _ rfl).cells4
                                      obtain ⟨b0, b1, b2⟩ := imm_cells3 (h11) (hs11 _ _ HI8.out)
                                      have hwt := weight_spec _ _ _ h11 hb11 HG1.out.data (by have := HG1.out.attrs; omega) HG1.out.small
                                      rw [hu1] at hwt
                                      have HWT := Lib.hid hwt
                                      clear h11 hs11 hb11 hwt HAF
                                      go_wp2_with fail
                                      refine holdPost_normal ⟨z0, z1, z2, z3, b0, b1, b2⟩ ?_
                                      unfold wpTr
                                      (try simp only [pickL, List.getElem?_cons_zero, List.getElem?_cons_succ])
                                      go_wp2_with fail
                                      refine HWT.out.mono ?_
                                      rintro e w12 ⟨I12, hs12, rfl, h12⟩
                                      have H12 := Lib.hid h12
                                      have HS12 := Lib.hid (HS11.out.trans hs12)
                                      have HI12 := Lib.hid (hs12 _ _ HI11.out)
                                      obtain ⟨z0, z1, z2, z3⟩ := ((h12).pull 1 _ rfl).cells4
                                      obtain ⟨b0, b1, b2⟩ := imm_cells3 (h12) (hs12 _ _ HI11.out)
                                      have hwt := weight_spec _ _ _ h12 ((HB3.out.mono HS8.out).mono (HS11.out.trans hs12)) bg1 (by omega) bg3
                                      rw [hu0] at hwt
                                      have HWU := Lib.hid hwt
                                      clear h12 hs12 hwt HWT
                                      go_wp2_with fail
                                      refine holdPost_normal ⟨z0, z1, z2, z3, b0, b1, b2⟩ ?_
                                      unfold wpTr
                                      (try simp only [pickL, List.getElem?_cons_zero, List.getElem?_cons_succ])
                                      go_wp2_with fail
                                      refine HWU.out.mono ?_
                                      rintro e w14 ⟨I14, hs14, rfl, h14⟩
                                      have H14 := Lib.hid h14
                                      have HS14c := Lib.hid (HS12.out.trans hs14)
                                      have HI14 := Lib.hid (hs14 _ _ HI12.out)
                                      obtain ⟨z0, z1, z2, z3⟩ := ((h14).pull 1 _ rfl).cells4
                                      obtain ⟨b0, b1, b2⟩ := imm_cells3 (h14) (hs14 _ _ HI12.out)
                                      clear h14 hs14 HWU
                                      go_wp2_with fail
                                      refine holdPost_normal ⟨z0, z1, z2, z3, b0, b1, b2⟩ ?_
                                      unfold wpTr
                                      (try simp only [pickL, List.getElem?_cons_zero, List.getElem?_cons_succ])
                                      refine ⟨?_, ?_⟩
                                      · go_wp2_with fail
                                        refine holdPost_normal ⟨z0, z1, z2, z3, b0, b1, b2⟩ ?_
                                        unfold wpTr
                                        (try simp only [pickL, List.getElem?_cons_zero, List.getElem?_cons_succ])
                                        go_wp2_with fail
                                        have hl := left3_spec H14.out HI.out
                                        refine hl.mono ?_
                                        rintro e w17 ⟨I17, hs17, rfl, h17⟩
                                        have H17 := Lib.hid h17
                                        have HS17 := Lib.hid (HS14c.out.trans hs17)
                                        obtain ⟨z0, z1, z2, z3⟩ := ((h17).pull 1 _ rfl).cells4
                                        obtain ⟨b0, b1, b2⟩ := imm_cells3 (h17) (hs17 _ _ HI14.out)
                                        clear h17 hs17 hl
                                        go_wp2_with fail
                                        refine holdPost_normal ⟨z0, z1, z2, z3, b0, b1, b2⟩ ?_
                                        unfold wpTr
                                        (try simp only [pickL, List.getElem?_cons_zero, List.getElem?_cons_succ])
                                        obtain ⟨fl, hfl⟩ : ∃ x, decide (rleft R < u1 - u0) = x := ⟨_, rfl⟩
                                        rw [hfl] at HF
                                        go_wp2_with fail
                                        refine NoPanic.normal ?_
                                        go_wp2_with fail
                                        go_meet
                                        case rel => exact ⟨by rw [HF.out], I17, HS17.out, H17.out⟩
                                      · go_wp2_with fail
                                        have hl := left3_spec H14.out HI.out
                                        refine hl.mono ?_
                                        rintro e w17 ⟨I17, hs17, rfl, h17⟩
                                        have H17 := Lib.hid h17
                                        have HS17 := Lib.hid (HS14c.out.trans hs17)
                                        obtain ⟨z0, z1, z2, z3⟩ := ((h17).pull 1 _ rfl).cells4
                                        obtain ⟨b0, b1, b2⟩ := imm_cells3 (h17) (hs17 _ _ HI14.out)
                                        clear h17 hs17 hl
                                        go_wp2_with fail
                                        refine holdPost_normal ⟨z0, z1, z2, z3, b0, b1, b2⟩ ?_
                                        unfold wpTr
                                        (try simp only [pickL, List.getElem?_cons_zero, List.getElem?_cons_succ])
                                        go_wp2_with fail
                                        refine holdPost_normal ⟨z0, z1, z2, z3, b0, b1, b2⟩ ?_
                                        unfold wpTr
                                        (try simp only [pickL, List.getElem?_cons_zero, List.getElem?_cons_succ])
                                        obtain ⟨fl, hfl⟩ : ∃ x, decide (rleft R < u1 - u0) = x := ⟨_, rfl⟩
                                        rw [hfl] at HF
                                        go_wp2_with fail
                                        refine NoPanic.normal ?_
                                        go_wp2_with fail
                                        go_meet
                                        case rel => exact ⟨by rw [HF.out], I17, HS17.out, H17.out⟩
                                  · have hw1 : (D.what == 2) = false := by simpa using fun e => hg (.inl e)
                                    have hw2 : (D.what == 5) = false := by simpa using fun e => hg (.inr e)
                                    have HF : Hid (f22 = false) := Lib.hid (by rw [← hf22]; simp [hg])
                                    obtain ⟨z0, z1, z2, z3⟩ := (H10.out.pull 1 _ rfl).cells4
                                    obtain ⟨b0, b1, b2⟩ := imm_cells3 H10.out HI8.out
                                    clear hg hf22
                                    go_quiet (fail)
                                    go_wp2_with fail
                                    go_meet
                                    case rel => exact ⟨by rw [HF.out], I8, Hp.sub.refl _, H10.out.drewN _⟩
                              case rest =>
                                as_aux_lemma =>
                                  obtain ⟨rfl, I9, hs9, h9⟩ := hcut
                                  have H11 := Lib.hid h9
                                  have HS9 := Lib.hid ((HS4.out.trans HS8.out).trans hs9)
                                  have HS9x := Lib.hid hs9
                                  have HS19 := Lib.hid ((HS14.out.trans HS8.out).trans hs9)
                                  obtain ⟨w10, hw10⟩ : ∃ x, x = wc := ⟨_, rfl⟩
                                  subst hw10
                                  clear h9 hs9
                                  cases f22 with
                                  | true =>
                                    have HR := Lib.hid (rdo_err (R := R) (k := k) (d := d) (e := 6) (by rw [HRW5.out, if_pos (by simpa using hf22)]) (by decide))
                                    clear hf22
                                    go_wp2_with fail
                                    go_ret
                                    rw [HR.out]
                                    exact ⟨I9, HS9.out, rfl, (H11.out.pull 1 _ rfl).drop⟩
                                  | false =>
                                    have HOK : Hid (rwhy R k d = 0) := Lib.hid (by rw [HRW5.out, if_neg (by simpa using hf22)])
                                    clear hf22 HRW5 hsub hu0b hu1b hu0 hu1 HG1
                                    cases hbn : (rburn R).1 with
                                    | true =>
                                      have HR := Lib.hid (show rdo R k d = (7, (rburn R).2) by unfold rdo; rw [if_neg (by rw [HOK.out]; simp), if_pos hbn])
                                      have HBC := HB.out _ _ _ HS9.out H11.out
                                      rw [hbn] at HBC
                                      go_wp2_with fail
                                      refine HBC.mono ?_
                                      rintro e w12 ⟨I12, hs12, rfl, h12⟩
                                      have H12 := Lib.hid h12
                                      have HS12 := Lib.hid (HS9.out.trans hs12)
                                      clear h12 hs12 HBC
                                      go_wp2_with fail
                                      go_ret
                                      rw [HR.out]
                                      exact ⟨I12, HS12.out, rfl, (H12.out.pull 1 _ rfl).drop⟩
                                    | false =>
                                      have hsame := rburn_same hbn
                                      have hinv := rburn_inv HI.out
                                      have HR0 : rdo R k d = (0, { (rburn R).2 with l := rput R.l k D, count := wrap64 (R.count + 1) }) := by
                                        unfold rdo
                                        rw [if_neg (by rw [HOK.out]; simp), if_neg (by rw [hbn]; simp), HBB.out, HD.out.1]
                                      have HBC := HB.out _ _ _ HS9.out H11.out
                                      rw [hbn] at HBC
                                      generalize (rburn R).2 = R2 at hsame hinv HR0 HBC
                                      rw [← hsame.1, ← hsame.2] at HR0
                                      have HR := Lib.hid HR0
                                      have HI2 := Lib.hid hinv
                                      have HBC2 := Lib.hid HBC
                                      clear hsame hinv HR0 HBC hbn HOK
                                      go_wp2_with fail
                                      refine HBC2.out.mono ?_
                                      rintro e w12 ⟨I12, hs12, rfl, h12⟩
                                      have H12 := Lib.hid h12
                                      have HS12 := Lib.hid (HS9.out.trans hs12)
                                      have HSB := Lib.hid hs12
                                      have HI12 := Lib.hid ((HS19.out.trans hs12) _ _ HI1.out)
                                      obtain ⟨x0, x1, x2, x3⟩ := imm_cells4 h12 ((HS19.out.trans hs12) _ _ HI1.out)
                                      have hfi := find_spec k h12 (by have := HI2.out.len; omega)
                                      simp only [K4.val] at hfi
                                      have HFI := Lib.hid hfi
                                      clear h12 hs12 hfi HBC2
                                      go_wp2_with fail
                                      refine HFI.out.mono ?_
                                      rintro e w13 ⟨I13, hs13, rfl, h13⟩
                                      have H13 := Lib.hid h13
                                      have HS13 := Lib.hid (HS12.out.trans hs13)
                                      have HS1213 := Lib.hid hs13
                                      have HI13 := Lib.hid (hs13 _ _ HI12.out)
                                      have hrle := rfind_le R2.l k
                                      obtain ⟨fi, hfi⟩ : ∃ x, (rfind R2.l k).1 = x := ⟨_, rfl⟩
                                      obtain ⟨fo, hfo⟩ : ∃ x, (rfind R2.l k).2 = x := ⟨_, rfl⟩
                                      rw [hfi] at hrle
                                      have HFO := Lib.hid hfo
                                      have HFD := Lib.hid hfi
                                      rw [hfi, hfo]
                                      clear h13 hs13 HFI x0 x1 x2 x3 hfi hfo
                                      go_upto_if 128 with fail
                                      go_cut [] from 10 (fun wc => ∃ I14, I13.sub I14 ∧ St W I14 wc (refHP q { R2 with l := radd R2.l k } :: HP.pt g5 (.cells #[.int .i64 D.what, .int .i64 D.n, .string d.name, .slice A6 d.p.length c6] 71) :: l))
                                      case first =>
                                        as_aux_lemma =>
                                          cases fo with
                                          | true =>
                                            go_wp2_with fail
                                            go_meet
                                            case rel => exact ⟨I13, Hp.sub.refl _, by rw [radd, if_pos HFO.out]; exact H13.out⟩
                                          | false =>
                                            go_upto_region 28 with fail
                                            refine do3_add (by kernel_rfl) k H13.out HI2.out HFD.out HFO.out HI13.out hrle ?_
                                            intro y129 y130 y131 y132 y133 y134 y135 y136 y137 y138 y139 y140 y141 y142 y143 y144 y145 y146 y147 y148 y149 y150 I15 w15 hs15 h15
                                            have H15 := Lib.hid h15
                                            have HS15 := Lib.hid hs15
                                            clear h15 hs15
                                            go_wp2_with fail
                                            go_meet
                                            case rel => exact ⟨I15, HS15.out, H15.out⟩
                                      case rest =>
                                        as_aux_lemma =>
                                          obtain ⟨w14, hw14⟩ : ∃ x, x = wc := ⟨_, rfl⟩
                                          subst hw14
                                          obtain ⟨I14, hs14, h14⟩ := hcut
                                          have HB14 : Hid (BytesI I14 (.slice A6 D.p.length c6) D.p) := Lib.hid (by rw [HPP.out]; exact HB8.out.mono (((HS9x.out.trans HSB.out).trans HS1213.out).trans hs14))
                                          have HS14y := Lib.hid (HS13.out.trans hs14)
                                          rw [← HN.out, ← HPP.out] at h14
                                          have H14 := Lib.hid h14
                                          clear h14 hs14
                                          go_step
                                          refine do3_put (by kernel_rfl) k D H14.out HI2.out HFD.out HB14.out ?_
                                          intro y151 y152 y153 y154 y155 y156 y157 y158 y159 y160 y161 y162 y163 y164 y165 y166 y167 y168 y169 y170 y171 y172 y173 y174 y175 y176 y177 I15 w15 hs15 h15
                                          have H15 := Lib.hid h15
                                          have HS15 := Lib.hid (HS14y.out.trans hs15)
                                          clear h15 hs15
                                          go_ret
                                          rw [HR.out]
                                          exact ⟨I15, HS15.out, rfl, H15.out⟩
end
end Go.Proofs.YtagljjhfkhadpaaGreat
