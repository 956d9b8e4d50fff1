/- hectographlaw17: which act may be. -/
import Derived.Test.YtbepmbcbcklmlaaGreatActs17
set_option linter.unusedSimpArgs false
set_option linter.unusedVariables false
set_option linter.unusedSectionVars false
namespace Go.Proofs.YtbepmbcbcklmlaaGreat
open Go.RowKit
def okA (a : A17) : Bool := ((decide (0 ≤ a.num) && decide (a.num ≤ 512)) && decide (0 ≤ a.newest)) && decide (a.newest ≤ 1073741824)
def restA (a : A17) (ok : Bool) : Bool :=
  if a.what = 0 then ok && withinB a.off a.p.length
  else if a.what = 1 then ok && withinB a.off a.n
  else if a.what = 2 then ok && withinB 0 a.n
  else if a.what = 3 then ok && decide ((a.p.length : Int) ≤ 64)
  else if a.what = 4 then ok && (decide (0 ≤ a.snap) && decide (a.snap ≤ 1073741824))
  else true
def mayA (a : A17) : Bool := if a.what = 5 then true else restA a (okA a)
section
variable {W w : World} {I : Hp} {l : List HP}
set_option maxRecDepth 4000
set_option maxHeartbeats 8000000
theorem run17_spec (off n : Int) (w : World) : Calls Tryz.prog 15 #[.int .i64 off, .int .i64 n] w fun e w' => e = .returned (.bool (withinB off n)) ∧ w = w' := by
  have he : withinB off n = (((decide (0 ≤ off) && decide (0 ≤ n)) && decide (off ≤ 64)) && decide (n ≤ 64 - off)) := by
    unfold withinB
    rw [Bool.eq_iff_iff]
    simp only [decide_eq_true_eq, Bool.and_eq_true]
    omega
  have HE := Lib.hid he
  clear he
  cases h0 : decide (0 ≤ off) with
  | false =>
    go_enter Tryz.func15, Tryz.ntmps15
    go_wp2_with fail
    go_ret
    exact ⟨by rw [HE.out, h0]; rfl, rfl⟩
  | true =>
    cases h1 : decide (0 ≤ n) with
    | false =>
      go_enter Tryz.func15, Tryz.ntmps15
      go_wp2_with fail
      go_ret
      exact ⟨by rw [HE.out, h0, h1]; rfl, rfl⟩
    | true =>
      cases h2 : decide (off ≤ 64) with
      | false =>
        go_enter Tryz.func15, Tryz.ntmps15
        go_wp2_with fail
        go_ret
        exact ⟨by rw [HE.out, h0, h1, h2]; rfl, rfl⟩
      | true =>
        have hw : IntKind.i64.wrap (64 - off) = 64 - off := by
          rw [decide_eq_true_eq] at h0 h2
          rw [IntKind.wrap_i64]; omega
        go_enter Tryz.func15, Tryz.ntmps15
        go_wp2_with fail
        go_ret
        exact ⟨by rw [HE.out, h0, h1, h2]; rfl, rfl⟩
/-- From region 4 on. -/
theorem may_rest {a b c' : Code} {Q : Exit → Act → World → Prop} {K K2 : Act → World → Prop} (hK : ∀ x y, b.wp Tryz.prog (Exit.then K2 Q) x y → K x y) (hK2 : ∀ x y, c'.wp Tryz.prog Q x y → K2 x y) (hC : (Tryz.f9).body.bind (fromS 4) = some (.seq (.seq a b) c')) {x0 x2 x4 x5 x6 x7 x8 x9 x10 x11 x12 x13 x14 x15 x16 x17 x18 x19 x20 x21 x22 x23 x24 x25 x26 x27 x28 x29 x30 x31 x32 x33 x34 x35 x36 x37 x38 x39 x40 x41 x42 x43 x44 x45 x46 x47 x48 x49 x50 x51 x52 x53 x54 x55 x56 x57 x58 x59 x60 x61 x62 x63 x64 x65 x66 x67 x68 x69 x70 x71 x72 x73 x74 x75 x76 x77 : Value} (A : A17) (ok : Bool) {g : Nat}
    (hsn : isI A.what) (h : St W I w l) (hI : I g = some (.cells #[.int .i64 A.what, .int .i64 A.num, .int .i64 A.newest, .int .i64 A.off, .int .i64 A.n, .int .i64 A.snap, A.pv, A.mv] 31)) (hp : ∃ B c, A.pv = .slice B A.p.length c)
    (hQ : ∀ (y0 y1 y3 y4 y5 y6 y7 y8 y9 y10 y11 y12 y13 y14 y15 y16 y17 y18 y19 y20 y21 y22 y23 y24 y25 y26 y27 y28 y29 y30 y31 y32 y33 y34 y35 y36 y37 y38 y39 y40 y41 y42 y43 y44 y45 y46 y47 y48 y49 y50 y51 y52 y53 y54 y55 y56 y57 y58 y59 y60 y61 y62 y63 y64 y65 y66 y67 y68 y69 y70 y71 y72 y73 y74 y75 y76 y77 : Value), Q .ret ⟨#[y0, y1, .bool (restA A ok), y3, y4, y5, y6, y7, y8, y9, y10, y11, y12, y13, y14, y15, y16, y17, y18, y19, y20, y21, y22, y23, y24, y25, y26, y27, y28, y29, y30, y31, y32, y33, y34, y35, y36, y37, y38, y39, y40, y41, y42, y43, y44, y45, y46, y47, y48, y49, y50, y51, y52, y53, y54, y55, y56, y57, y58, y59, y60, y61, y62, y63, y64, y65, y66, y67, y68, y69, y70, y71, y72, y73, y74, y75, y76, y77], []⟩ w) :
    a.wp Tryz.prog (Exit.then K (Exit.then K2 Q)) ⟨#[x0, .pointer (some ⟨g, 0, none⟩), x2, .bool ok, x4, x5, x6, x7, x8, x9, x10, x11, x12, x13, x14, x15, x16, x17, x18, x19, x20, x21, x22, x23, x24, x25, x26, x27, x28, x29, x30, x31, x32, x33, x34, x35, x36, x37, x38, x39, x40, x41, x42, x43, x44, x45, x46, x47, x48, x49, x50, x51, x52, x53, x54, x55, x56, x57, x58, x59, x60, x61, x62, x63, x64, x65, x66, x67, x68, x69, x70, x71, x72, x73, x74, x75, x76, x77], []⟩ w := by
  injection hC with hC
  injection hC with hC hC3
  injection hC with hC1 hC2
  subst hC1 hC2 hC3
  obtain ⟨a0, a1, a2, a3, a4, a5, ap, apv, ams, amv⟩ := A
  simp only at hI hp
  obtain ⟨x0, x1, x2, x3, x4, x5, x6, x7⟩ := act_cells h hI
  obtain ⟨B, c, rfl⟩ := hp
  have HQ := Lib.hid hQ
  clear hQ h hI
  by_cases n0 : a0 = 0
  · subst n0
    have e0 : ((0 : Int) == 0) = true := rfl
    cases ok with
    | false =>
      have HX := Lib.hid (show restA ⟨0, a1, a2, a3, a4, a5, ap, .slice B ap.length c, ams, amv⟩ false = false by unfold restA; rfl)
      go_wp2_with fail
      have hq := HQ.out
      rw [HX.out] at hq
      exact hq _ _ _ _ _ _ _ _ _ _ _ _ _ _ _ _ _ _ _ _ _ _ _ _ _ _ _ _ _ _ _ _ _ _ _ _ _ _ _ _ _ _ _ _ _ _ _ _ _ _ _ _ _ _ _ _ _ _ _ _ _ _ _ _ _ _ _ _ _ _ _ _ _ _ _ _ _
    | true =>
      have HX := Lib.hid (show restA ⟨0, a1, a2, a3, a4, a5, ap, .slice B ap.length c, ams, amv⟩ true = withinB a3 ap.length by unfold restA; rfl)
      go_wp2_with fail
      refine (run17_spec a3 (ap.length : Int) w).mono ?_
      rintro e w2 ⟨rfl, rfl⟩
      go_wp2_with fail
      have hq := HQ.out
      rw [HX.out] at hq
      exact hq _ _ _ _ _ _ _ _ _ _ _ _ _ _ _ _ _ _ _ _ _ _ _ _ _ _ _ _ _ _ _ _ _ _ _ _ _ _ _ _ _ _ _ _ _ _ _ _ _ _ _ _ _ _ _ _ _ _ _ _ _ _ _ _ _ _ _ _ _ _ _ _ _ _ _ _ _
  · have e0 : (a0 == 0) = false := by simpa using n0
    by_cases n1 : a0 = 1
    · subst n1
      have e0 : ((1 : Int) == 0) = false := rfl
      have e1 : ((1 : Int) == 1) = true := rfl
      cases ok with
      | false =>
        have HX := Lib.hid (show restA ⟨1, a1, a2, a3, a4, a5, ap, .slice B ap.length c, ams, amv⟩ false = false by unfold restA; rfl)
        go_wp2_with fail
        have hq := HQ.out
        rw [HX.out] at hq
        exact hq _ _ _ _ _ _ _ _ _ _ _ _ _ _ _ _ _ _ _ _ _ _ _ _ _ _ _ _ _ _ _ _ _ _ _ _ _ _ _ _ _ _ _ _ _ _ _ _ _ _ _ _ _ _ _ _ _ _ _ _ _ _ _ _ _ _ _ _ _ _ _ _ _ _ _ _ _
      | true =>
        have HX := Lib.hid (show restA ⟨1, a1, a2, a3, a4, a5, ap, .slice B ap.length c, ams, amv⟩ true = withinB a3 a4 by unfold restA; rfl)
        go_wp2_with fail
        refine (run17_spec a3 a4 w).mono ?_
        rintro e w2 ⟨rfl, rfl⟩
        go_wp2_with fail
        have hq := HQ.out
        rw [HX.out] at hq
        exact hq _ _ _ _ _ _ _ _ _ _ _ _ _ _ _ _ _ _ _ _ _ _ _ _ _ _ _ _ _ _ _ _ _ _ _ _ _ _ _ _ _ _ _ _ _ _ _ _ _ _ _ _ _ _ _ _ _ _ _ _ _ _ _ _ _ _ _ _ _ _ _ _ _ _ _ _ _
    · have e1 : (a0 == 1) = false := by simpa using n1
      by_cases n2 : a0 = 2
      · subst n2
        have e0 : ((2 : Int) == 0) = false := rfl
        have e1 : ((2 : Int) == 1) = false := rfl
        have e2 : ((2 : Int) == 2) = true := rfl
        cases ok with
        | false =>
          have HX := Lib.hid (show restA ⟨2, a1, a2, a3, a4, a5, ap, .slice B ap.length c, ams, amv⟩ false = false by unfold restA; rfl)
          go_wp2_with fail
          have hq := HQ.out
          rw [HX.out] at hq
          exact hq _ _ _ _ _ _ _ _ _ _ _ _ _ _ _ _ _ _ _ _ _ _ _ _ _ _ _ _ _ _ _ _ _ _ _ _ _ _ _ _ _ _ _ _ _ _ _ _ _ _ _ _ _ _ _ _ _ _ _ _ _ _ _ _ _ _ _ _ _ _ _ _ _ _ _ _ _
        | true =>
          have HX := Lib.hid (show restA ⟨2, a1, a2, a3, a4, a5, ap, .slice B ap.length c, ams, amv⟩ true = withinB 0 a4 by unfold restA; rfl)
          go_wp2_with fail
          refine (run17_spec 0 a4 w).mono ?_
          rintro e w2 ⟨rfl, rfl⟩
          go_wp2_with fail
          have hq := HQ.out
          rw [HX.out] at hq
          exact hq _ _ _ _ _ _ _ _ _ _ _ _ _ _ _ _ _ _ _ _ _ _ _ _ _ _ _ _ _ _ _ _ _ _ _ _ _ _ _ _ _ _ _ _ _ _ _ _ _ _ _ _ _ _ _ _ _ _ _ _ _ _ _ _ _ _ _ _ _ _ _ _ _ _ _ _ _
      · have e2 : (a0 == 2) = false := by simpa using n2
        by_cases n3 : a0 = 3
        · subst n3
          have e0 : ((3 : Int) == 0) = false := rfl
          have e1 : ((3 : Int) == 1) = false := rfl
          have e2 : ((3 : Int) == 2) = false := rfl
          have e3 : ((3 : Int) == 3) = true := rfl
          cases ok with
          | false =>
            have HX := Lib.hid (show restA ⟨3, a1, a2, a3, a4, a5, ap, .slice B ap.length c, ams, amv⟩ false = false by unfold restA; rfl)
            go_wp2_with fail
            have hq := HQ.out
            rw [HX.out] at hq
            exact hq _ _ _ _ _ _ _ _ _ _ _ _ _ _ _ _ _ _ _ _ _ _ _ _ _ _ _ _ _ _ _ _ _ _ _ _ _ _ _ _ _ _ _ _ _ _ _ _ _ _ _ _ _ _ _ _ _ _ _ _ _ _ _ _ _ _ _ _ _ _ _ _ _ _ _ _ _
          | true =>
            have HX := Lib.hid (show restA ⟨3, a1, a2, a3, a4, a5, ap, .slice B ap.length c, ams, amv⟩ true = decide ((ap.length : Int) ≤ 64) by unfold restA; rfl)
            go_wp2_with fail
            have hq := HQ.out
            rw [HX.out] at hq
            exact hq _ _ _ _ _ _ _ _ _ _ _ _ _ _ _ _ _ _ _ _ _ _ _ _ _ _ _ _ _ _ _ _ _ _ _ _ _ _ _ _ _ _ _ _ _ _ _ _ _ _ _ _ _ _ _ _ _ _ _ _ _ _ _ _ _ _ _ _ _ _ _ _ _ _ _ _ _
        · have e3 : (a0 == 3) = false := by simpa using n3
          by_cases n4 : a0 = 4
          · subst n4
            have e0 : ((4 : Int) == 0) = false := rfl
            have e1 : ((4 : Int) == 1) = false := rfl
            have e2 : ((4 : Int) == 2) = false := rfl
            have e3 : ((4 : Int) == 3) = false := rfl
            have e4 : ((4 : Int) == 4) = true := rfl
            cases ok with
            | false =>
              have HX := Lib.hid (show restA ⟨4, a1, a2, a3, a4, a5, ap, .slice B ap.length c, ams, amv⟩ false = false by unfold restA; rfl)
              go_wp2_with fail
              have hq := HQ.out
              rw [HX.out] at hq
              exact hq _ _ _ _ _ _ _ _ _ _ _ _ _ _ _ _ _ _ _ _ _ _ _ _ _ _ _ _ _ _ _ _ _ _ _ _ _ _ _ _ _ _ _ _ _ _ _ _ _ _ _ _ _ _ _ _ _ _ _ _ _ _ _ _ _ _ _ _ _ _ _ _ _ _ _ _ _
            | true =>
              cases h5 : decide (0 ≤ a5) with
              | false =>
                have HX := Lib.hid (show restA ⟨4, a1, a2, a3, a4, a5, ap, .slice B ap.length c, ams, amv⟩ true = false by unfold restA; simp only [h5]; rfl)
                go_wp2_with fail
                have hq := HQ.out
                rw [HX.out] at hq
                exact hq _ _ _ _ _ _ _ _ _ _ _ _ _ _ _ _ _ _ _ _ _ _ _ _ _ _ _ _ _ _ _ _ _ _ _ _ _ _ _ _ _ _ _ _ _ _ _ _ _ _ _ _ _ _ _ _ _ _ _ _ _ _ _ _ _ _ _ _ _ _ _ _ _ _ _ _ _
              | true =>
                have HX := Lib.hid (show restA ⟨4, a1, a2, a3, a4, a5, ap, .slice B ap.length c, ams, amv⟩ true = decide (a5 ≤ 1073741824) by unfold restA; simp only [h5]; rfl)
                go_wp2_with fail
                have hq := HQ.out
                rw [HX.out] at hq
                exact hq _ _ _ _ _ _ _ _ _ _ _ _ _ _ _ _ _ _ _ _ _ _ _ _ _ _ _ _ _ _ _ _ _ _ _ _ _ _ _ _ _ _ _ _ _ _ _ _ _ _ _ _ _ _ _ _ _ _ _ _ _ _ _ _ _ _ _ _ _ _ _ _ _ _ _ _ _
          · have e4 : (a0 == 4) = false := by simpa using n4
            have HX := Lib.hid (show restA ⟨a0, a1, a2, a3, a4, a5, ap, .slice B ap.length c, ams, amv⟩ ok = true by unfold restA; simp only [if_neg n0, if_neg n1, if_neg n2, if_neg n3, if_neg n4])
            go_wp2_with fail
            have hq := HQ.out
            rw [HX.out] at hq
            exact hq _ _ _ _ _ _ _ _ _ _ _ _ _ _ _ _ _ _ _ _ _ _ _ _ _ _ _ _ _ _ _ _ _ _ _ _ _ _ _ _ _ _ _ _ _ _ _ _ _ _ _ _ _ _ _ _ _ _ _ _ _ _ _ _ _ _ _ _ _ _ _ _ _ _ _ _ _
theorem may17_spec (A : A17) (h : St W I w l) (ha : A.ok I) : Calls Tryz.prog 9 #[A.val] w fun e w' => e = .returned (.bool (mayA A)) ∧ Below w.heap.size w w' := by
  obtain ⟨hp, hm, hi, _⟩ := ha
  obtain ⟨Ap, cp, hpv, _⟩ := hp
  obtain ⟨I1, hs1, hI1, h1⟩ := (h.alloc (.cells #[.int .i64 A.what, .int .i64 A.num, .int .i64 A.newest, .int .i64 A.off, .int .i64 A.n, .int .i64 A.snap, A.pv, A.mv] 31)).freeze
  have hb : Below w.heap.size w (w.alloc (.cells #[.int .i64 A.what, .int .i64 A.num, .int .i64 A.newest, .int .i64 A.off, .int .i64 A.n, .int .i64 A.snap, A.pv, A.mv] 31)) := below_alloc w _
  have H1 := Lib.hid h1
  have HI1 := Lib.hid hI1
  have HB := Lib.hid hb
  obtain ⟨x0, x1, x2, x3, x4, x5, x6, x7⟩ := act_cells h1 hI1
  have HP := Lib.hid (show ∃ B c, A.pv = .slice B A.p.length c from ⟨Ap, cp, hpv⟩)
  have HII := Lib.hid hi
  simp only [A17.val]
  have HPV := Lib.hid hpv
  clear h hs1 h1 hI1 hb hi hpv
  by_cases n5 : A.what = 5
  · rw [n5] at x0
    have HX := Lib.hid (show mayA A = true by unfold mayA; rw [if_pos n5])
    obtain ⟨a0, a1, a2, a3, a4, a5, ap, apv, ams, amv⟩ := A
    have hpv := HPV.out
    simp only at n5 hpv
    subst n5 hpv
    go_enter Tryz.func9, Tryz.ntmps9
    go_wp2_with fail
    go_ret
    exact ⟨by rw [HX.out]; rfl, HB.out⟩
  · have e5 : (A.what == 5) = false := by simpa using n5
    have HX := Lib.hid (show mayA A = restA A (okA A) by unfold mayA; rw [if_neg n5])
    cases h0 : decide (0 ≤ A.num) with
    | false =>
      have HO := Lib.hid (show okA A = false by unfold okA; rw [h0]; rfl)
      go_enter Tryz.func9, Tryz.ntmps9
      go_upto_region 4 with fail
      refine may_rest (by assumption) (by assumption) (by kernel_rfl) A false HII.out H1.out HI1.out HP.out ?_
      intro y0 y1 y3 y4 y5 y6 y7 y8 y9 y10 y11 y12 y13 y14 y15 y16 y17 y18 y19 y20 y21 y22 y23 y24 y25 y26 y27 y28 y29 y30 y31 y32 y33 y34 y35 y36 y37 y38 y39 y40 y41 y42 y43 y44 y45 y46 y47 y48 y49 y50 y51 y52 y53 y54 y55 y56 y57 y58 y59 y60 y61 y62 y63 y64 y65 y66 y67 y68 y69 y70 y71 y72 y73 y74 y75 y76 y77
      go_ret
      exact ⟨by rw [HX.out, HO.out]; rfl, HB.out⟩
    | true =>
      cases h1 : decide (A.num ≤ 512) with
      | false =>
        have HO := Lib.hid (show okA A = false by unfold okA; rw [h0, h1]; rfl)
        go_enter Tryz.func9, Tryz.ntmps9
        go_upto_region 4 with fail
        refine may_rest (by assumption) (by assumption) (by kernel_rfl) A false HII.out H1.out HI1.out HP.out ?_
        intro y0 y1 y3 y4 y5 y6 y7 y8 y9 y10 y11 y12 y13 y14 y15 y16 y17 y18 y19 y20 y21 y22 y23 y24 y25 y26 y27 y28 y29 y30 y31 y32 y33 y34 y35 y36 y37 y38 y39 y40 y41 y42 y43 y44 y45 y46 y47 y48 y49 y50 y51 y52 y53 y54 y55 y56 y57 y58 y59 y60 y61 y62 y63 y64 y65 y66 y67 y68 y69 y70 y71 y72 y73 y74 y75 y76 y77
        go_ret
        exact ⟨by rw [HX.out, HO.out]; rfl, HB.out⟩
      | true =>
        cases h2 : decide (0 ≤ A.newest) with
        | false =>
          have HO := Lib.hid (show okA A = false by unfold okA; rw [h0, h1, h2]; rfl)
          go_enter Tryz.func9, Tryz.ntmps9
          go_upto_region 4 with fail
          refine may_rest (by assumption) (by assumption) (by kernel_rfl) A false HII.out H1.out HI1.out HP.out ?_
          intro y0 y1 y3 y4 y5 y6 y7 y8 y9 y10 y11 y12 y13 y14 y15 y16 y17 y18 y19 y20 y21 y22 y23 y24 y25 y26 y27 y28 y29 y30 y31 y32 y33 y34 y35 y36 y37 y38 y39 y40 y41 y42 y43 y44 y45 y46 y47 y48 y49 y50 y51 y52 y53 y54 y55 y56 y57 y58 y59 y60 y61 y62 y63 y64 y65 y66 y67 y68 y69 y70 y71 y72 y73 y74 y75 y76 y77
          go_ret
          exact ⟨by rw [HX.out, HO.out]; rfl, HB.out⟩
        | true =>
          cases h3 : decide (A.newest ≤ 1073741824) with
          | false =>
            have HO := Lib.hid (show okA A = false by unfold okA; rw [h0, h1, h2, h3]; rfl)
            go_enter Tryz.func9, Tryz.ntmps9
            go_upto_region 4 with fail
            refine may_rest (by assumption) (by assumption) (by kernel_rfl) A false HII.out H1.out HI1.out HP.out ?_
            intro y0 y1 y3 y4 y5 y6 y7 y8 y9 y10 y11 y12 y13 y14 y15 y16 y17 y18 y19 y20 y21 y22 y23 y24 y25 y26 y27 y28 y29 y30 y31 y32 y33 y34 y35 y36 y37 y38 y39 y40 y41 y42 y43 y44 y45 y46 y47 y48 y49 y50 y51 y52 y53 y54 y55 y56 y57 y58 y59 y60 y61 y62 y63 y64 y65 y66 y67 y68 y69 y70 y71 y72 y73 y74 y75 y76 y77
            go_ret
            exact ⟨by rw [HX.out, HO.out]; rfl, HB.out⟩
          | true =>
            have HO := Lib.hid (show okA A = true by unfold okA; rw [h0, h1, h2, h3]; rfl)
            go_enter Tryz.func9, Tryz.ntmps9
            go_upto_region 4 with fail
            refine may_rest (by assumption) (by assumption) (by kernel_rfl) A true HII.out H1.out HI1.out HP.out ?_
            intro y0 y1 y3 y4 y5 y6 y7 y8 y9 y10 y11 y12 y13 y14 y15 y16 y17 y18 y19 y20 y21 y22 y23 y24 y25 y26 y27 y28 y29 y30 y31 y32 y33 y34 y35 y36 y37 y38 y39 y40 y41 y42 y43 y44 y45 y46 y47 y48 y49 y50 y51 y52 y53 y54 y55 y56 y57 y58 y59 y60 y61 y62 y63 y64 y65 y66 y67 y68 y69 y70 y71 y72 y73 y74 y75 y76 y77
            go_ret
            exact ⟨by rw [HX.out, HO.out]; rfl, HB.out⟩
end
end Go.Proofs.YtbepmbcbcklmlaaGreat
