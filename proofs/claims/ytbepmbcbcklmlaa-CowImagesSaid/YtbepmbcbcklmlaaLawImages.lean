/- CowImages: two images don't touch each other; what may not be is refused. -/
import Derived.Test.YtbepmbcbcklmlaaCowSet
import Derived.Test.YtbepmbcbcklmlaaMay17
import Derived.Test.YtbepmbcbcklmlaaKnown17
import Derived.Test.YtbepmbcbcklmlaaArgs17
import Derived.Deep.CutRange
set_option linter.unusedSimpArgs false
set_option linter.unusedVariables false
set_option linter.unusedSectionVars false
namespace Go.Proofs.Ytbepmbcbcklmlaa
open Go.RowKit
theorem bad_obj {img num : Int} (h : ¬ (0 ≤ img ∧ img ≤ 255)) : objB img num = false := by
  unfold objB
  rw [decide_eq_false_iff_not]
  omega
theorem cmay_bad {S : Str} (h : S.on = true) : cmayS S false = 1 := by unfold cmayS; rw [h]; rfl
theorem ok_parts {img : Int} {a : A17} (hi : 0 ≤ img ∧ img ≤ 255) : (objB img a.num && snapB a.newest) = okA a := by
  unfold objB snapB okA
  rw [Bool.eq_iff_iff]
  simp only [Bool.and_eq_true, decide_eq_true_eq]
  omega
theorem ours_bad {S : Str} (hon : S.on = true) {img : Int} {a : A17} (hw : 0 ≤ a.what ∧ a.what ≤ 5) (hb : ¬ (0 ≤ img ∧ img ≤ 255) ∨ mayA a = false) : oursS S img a = (1, S) := by
  have key : ∀ (fine : Bool) (r : Int × Str), fine = false → (if cmayS S fine ≠ 0 then (cmayS S fine, S) else r) = (1, S) := fun fine r hf => by
    rw [hf, cmay_bad hon, if_pos (by decide)]
  have hf : ∀ x : Bool, ((0 ≤ img ∧ img ≤ 255) → (okA a && x) = false) → (objB img a.num && snapB a.newest && x) = false := fun x hx => by
    by_cases hi : 0 ≤ img ∧ img ≤ 255
    · rw [ok_parts hi]; exact hx hi
    · rw [bad_obj hi]; rfl
  have hm : (0 ≤ img ∧ img ≤ 255) → a.what ≠ 5 ∧ restA a (okA a) = false := fun hi => by
    have := hb.resolve_left (fun q => q hi)
    unfold mayA at this
    split at this
    · cases this
    · rename_i h5; exact ⟨h5, this⟩
  unfold oursS
  split
  · rename_i e
    unfold cwriteS
    exact key _ _ (hf _ fun hi => by have := (hm hi).2; unfold restA at this; rwa [if_pos e] at this)
  split
  · rename_i e0 e
    unfold cclearS
    exact key _ _ (hf _ fun hi => by have := (hm hi).2; unfold restA at this; rwa [if_neg e0, if_pos e] at this)
  split
  · rename_i e0 e1 e
    unfold ccutS
    exact key _ _ (hf _ fun hi => by have := (hm hi).2; unfold restA at this; rwa [if_neg e0, if_neg e1, if_pos e] at this)
  split
  · rename_i e0 e1 e2 e
    unfold claySn
    refine key _ _ (hf _ fun hi => ?_)
    have := (hm hi).2
    unfold restA at this
    rw [if_neg e0, if_neg e1, if_neg e2, if_pos e] at this
    rw [← this]
    congr 1
    unfold withinB
    rw [Bool.eq_iff_iff]
    simp only [decide_eq_true_eq]
    omega
  split
  · rename_i e0 e1 e2 e3 e
    unfold cbackS
    refine key _ _ (hf _ fun hi => ?_)
    have := (hm hi).2
    unfold restA at this
    rw [if_neg e0, if_neg e1, if_neg e2, if_neg e3, if_pos e] at this
    rw [← this]
    congr 1
    unfold snapB
    rw [Bool.eq_iff_iff]
    simp only [decide_eq_true_eq, Bool.and_eq_true]
  split
  · rename_i e0 e1 e2 e3 e4 e
    unfold tidyS
    have hi : ¬ (0 ≤ img ∧ img ≤ 255) := fun hi => (hm hi).1 e
    exact key _ _ (bad_obj hi)
  · omega
section
variable {W w : World} {I : Hp} {l : List HP} {p p2 g : Nat} {S T : Str}
set_option maxRecDepth 4000
set_option maxHeartbeats 8000000
/-- From region 22 on: what may not be is refused. -/
theorem images_end {a b : Code} {Q : Exit → Act → World → Prop} {K : Act → World → Prop} (hK : ∀ x y, b.wp Try.prog Q x y → K x y) (hC : (Try.f3).body.bind (fromR 22) = some (.seq a b)) {x0 x2 x3 x4 x6 x8 x9 x10 x11 x12 x13 x14 x15 x16 x17 x18 x19 x20 x21 x22 x23 x24 x25 x26 x27 x28 x29 x30 x31 x32 x33 x34 x35 x36 x37 x38 x39 x40 x41 x42 x43 x44 x45 x46 x47 x48 x49 x50 x51 x52 x53 x54 x55 x56 x57 x58 x59 x60 x61 x62 x63 x64 x65 x66 x67 x68 x69 x70 x71 x72 x73 x74 x75 x76 x77 x78 x79 x80 x81 x82 x83 x84 x85 x86 x87 x88 x89 x90 x91 x92 x93 x94 x95 x96 x97 x98 x99 x100 x101 x102 x103 x104 x105 x106 x107 x108 x109 x110 x111 x112 x113 x114 x115 x116 x117 x118 x119 x120 x121 x122 x123 x124 x125 x126 x127 x128 x129 x130 x131 x132 x133 x134 x135 x136 x137 x138 x139 x140 x141 x142 x143 x144 x145 x146 x147 x148 x149 x150 x151 x152 x153 x154 x155 x156 x157 x158 x159 x160 x161 x162 x163 x164 x165 x166 x167 x168 x169 : Value} (img : Int) (A : A17) {m : Nat}
    (h : St W I w (storeHP p S :: l)) (hk : Keeps S (m + 300)) (hc : Calm17 S) (hI : I g = some (.cells #[.int .i64 A.what, .int .i64 A.num, .int .i64 A.newest, .int .i64 A.off, .int .i64 A.n, .int .i64 A.snap, A.pv, A.mv] 26)) (ha : A.ok I) (hpl : A.p.length ≤ 1000000)
    (hQ : ∀ (y0 y1 y2 y3 y4 y5 y7 y8 y9 y10 y11 y12 y13 y14 y15 y16 y17 y18 y19 y20 y21 y22 y23 y24 y25 y26 y27 y28 y29 y30 y31 y32 y33 y34 y35 y36 y37 y38 y39 y40 y41 y42 y43 y44 y45 y46 y47 y48 y49 y50 y51 y52 y53 y54 y55 y56 y57 y58 y59 y60 y61 y62 y63 y64 y65 y66 y67 y68 y69 y70 y71 y72 y73 y74 y75 y76 y77 y78 y79 y80 y81 y82 y83 y84 y85 y86 y87 y88 y89 y90 y91 y92 y93 y94 y95 y96 y97 y98 y99 y100 y101 y102 y103 y104 y105 y106 y107 y108 y109 y110 y111 y112 y113 y114 y115 y116 y117 y118 y119 y120 y121 y122 y123 y124 y125 y126 y127 y128 y129 y130 y131 y132 y133 y134 y135 y136 y137 y138 y139 y140 y141 y142 y143 y144 y145 y146 y147 y148 y149 y150 y151 y152 y153 y154 y155 y156 y157 y158 y159 y160 y161 y162 y163 y164 y165 y166 y167 y168 y169 : Value) (w' : World), Below W.heap.size W w' → Q .ret ⟨#[y0, y1, y2, y3, y4, y5, .bool true, y7, y8, y9, y10, y11, y12, y13, y14, y15, y16, y17, y18, y19, y20, y21, y22, y23, y24, y25, y26, y27, y28, y29, y30, y31, y32, y33, y34, y35, y36, y37, y38, y39, y40, y41, y42, y43, y44, y45, y46, y47, y48, y49, y50, y51, y52, y53, y54, y55, y56, y57, y58, y59, y60, y61, y62, y63, y64, y65, y66, y67, y68, y69, y70, y71, y72, y73, y74, y75, y76, y77, y78, y79, y80, y81, y82, y83, y84, y85, y86, y87, y88, y89, y90, y91, y92, y93, y94, y95, y96, y97, y98, y99, y100, y101, y102, y103, y104, y105, y106, y107, y108, y109, y110, y111, y112, y113, y114, y115, y116, y117, y118, y119, y120, y121, y122, y123, y124, y125, y126, y127, y128, y129, y130, y131, y132, y133, y134, y135, y136, y137, y138, y139, y140, y141, y142, y143, y144, y145, y146, y147, y148, y149, y150, y151, y152, y153, y154, y155, y156, y157, y158, y159, y160, y161, y162, y163, y164, y165, y166, y167, y168, y169], []⟩ w') :
    a.wp Try.prog (Exit.then K Q) ⟨#[x0, .int .i64 img, x2, x3, x4, .pointer (some ⟨g, 0, none⟩), x6, .pointer (some ⟨p, 0, none⟩), x8, x9, x10, x11, x12, x13, x14, x15, x16, x17, x18, x19, x20, x21, x22, x23, x24, x25, x26, x27, x28, x29, x30, x31, x32, x33, x34, x35, x36, x37, x38, x39, x40, x41, x42, x43, x44, x45, x46, x47, x48, x49, x50, x51, x52, x53, x54, x55, x56, x57, x58, x59, x60, x61, x62, x63, x64, x65, x66, x67, x68, x69, x70, x71, x72, x73, x74, x75, x76, x77, x78, x79, x80, x81, x82, x83, x84, x85, x86, x87, x88, x89, x90, x91, x92, x93, x94, x95, x96, x97, x98, x99, x100, x101, x102, x103, x104, x105, x106, x107, x108, x109, x110, x111, x112, x113, x114, x115, x116, x117, x118, x119, x120, x121, x122, x123, x124, x125, x126, x127, x128, x129, x130, x131, x132, x133, x134, x135, x136, x137, x138, x139, x140, x141, x142, x143, x144, x145, x146, x147, x148, x149, x150, x151, x152, x153, x154, x155, x156, x157, x158, x159, x160, x161, x162, x163, x164, x165, x166, x167, x168, x169], []⟩ w := by
  injection hC with hC
  injection hC with hC1 hC2
  subst hC1 hC2
  have hkl := hc.keys img
  have hdd := deeds_spec h
  obtain ⟨dd, hd⟩ : ∃ d, S.deeds = d := ⟨_, rfl⟩
  rw [hd] at hdd
  obtain ⟨x0, x1, x2, x3, x4, x5, x6, x7⟩ := act_cells h hI
  have hmy := may17_spec A h ha
  have HA := Lib.hid ha
  have HDD := Lib.hid hdd
  have HMY := Lib.hid hmy
  have HQ := Lib.hid hQ
  have H := Lib.hid h
  have HK := Lib.hid hk
  have HC := Lib.hid hc
  have HI := Lib.hid hI
  have HD := Lib.hid hd
  have HKL := Lib.hid hkl
  have HPL := Lib.hid hpl
  clear hQ h hk hc ha hI hd hdd hmy hkl hpl
  by_cases w0 : A.what < 0
  · have d0 : decide (A.what < 0) = true := by simpa using w0
    go_wp2_with fail
    refine HDD.out.mono ?_
    rintro e w2 ⟨rfl, rfl⟩
    go_wp2_with fail
    refine (known17_spec w).mono ?_
    rintro e w9 ⟨rfl, hb9⟩
    have HB := Lib.hid (H.out.below.trans (hb9.mono H.out.below.size))
    clear hb9
    go_wp2_with fail
    exact HQ.out _ _ _ _ _ _ _ _ _ _ _ _ _ _ _ _ _ _ _ _ _ _ _ _ _ _ _ _ _ _ _ _ _ _ _ _ _ _ _ _ _ _ _ _ _ _ _ _ _ _ _ _ _ _ _ _ _ _ _ _ _ _ _ _ _ _ _ _ _ _ _ _ _ _ _ _ _ _ _ _ _ _ _ _ _ _ _ _ _ _ _ _ _ _ _ _ _ _ _ _ _ _ _ _ _ _ _ _ _ _ _ _ _ _ _ _ _ _ _ _ _ _ _ _ _ _ _ _ _ _ _ _ _ _ _ _ _ _ _ _ _ _ _ _ _ _ _ _ _ _ _ _ _ _ _ _ _ _ _ _ _ _ _ _ _ _ _ _ _ _ HB.out
  · have d0 : decide (A.what < 0) = false := by simpa using w0
    by_cases w5 : 5 < A.what
    · have d5 : decide (5 < A.what) = true := by simpa using w5
      go_wp2_with fail
      refine HDD.out.mono ?_
      rintro e w2 ⟨rfl, rfl⟩
      go_wp2_with fail
      refine (known17_spec w).mono ?_
      rintro e w9 ⟨rfl, hb9⟩
      have HB := Lib.hid (H.out.below.trans (hb9.mono H.out.below.size))
      clear hb9
      go_wp2_with fail
      exact HQ.out _ _ _ _ _ _ _ _ _ _ _ _ _ _ _ _ _ _ _ _ _ _ _ _ _ _ _ _ _ _ _ _ _ _ _ _ _ _ _ _ _ _ _ _ _ _ _ _ _ _ _ _ _ _ _ _ _ _ _ _ _ _ _ _ _ _ _ _ _ _ _ _ _ _ _ _ _ _ _ _ _ _ _ _ _ _ _ _ _ _ _ _ _ _ _ _ _ _ _ _ _ _ _ _ _ _ _ _ _ _ _ _ _ _ _ _ _ _ _ _ _ _ _ _ _ _ _ _ _ _ _ _ _ _ _ _ _ _ _ _ _ _ _ _ _ _ _ _ _ _ _ _ _ _ _ _ _ _ _ _ _ _ _ _ _ _ _ _ _ _ HB.out
    · have d5 : decide (5 < A.what) = false := by simpa using w5
      have hth := cthere_spec img 0 0 H.out HK.out.inv
      by_cases i0 : 0 ≤ img
      · have e0 : decide (0 ≤ img) = true := by simpa using i0
        have e0' : decide (img < 0) = false := by rw [decide_eq_false_iff_not]; omega
        by_cases i1 : img ≤ 255
        · have e1 : decide (img ≤ 255) = true := by simpa using i1
          have e1' : decide (255 < img) = false := by rw [decide_eq_false_iff_not]; omega
          clear hth
          cases hmm : mayA A with
          | true =>
            rw [hmm] at HMY
            simp only [A17.val] at HMY
            go_wp2_with fail
            refine HDD.out.mono ?_
            rintro e w2 ⟨rfl, rfl⟩
            go_wp2_with fail
            refine HMY.out.mono ?_
            rintro e w3 ⟨rfl, hb3⟩
            have H3 := Lib.hid (H.out.keep hb3)
            clear hb3
            go_wp2_with fail
            refine (known17_spec w3).mono ?_
            rintro e w9 ⟨rfl, hb9⟩
            have HB := Lib.hid (H3.out.below.trans (hb9.mono H3.out.below.size))
            clear hb9
            go_wp2_with fail
            exact HQ.out _ _ _ _ _ _ _ _ _ _ _ _ _ _ _ _ _ _ _ _ _ _ _ _ _ _ _ _ _ _ _ _ _ _ _ _ _ _ _ _ _ _ _ _ _ _ _ _ _ _ _ _ _ _ _ _ _ _ _ _ _ _ _ _ _ _ _ _ _ _ _ _ _ _ _ _ _ _ _ _ _ _ _ _ _ _ _ _ _ _ _ _ _ _ _ _ _ _ _ _ _ _ _ _ _ _ _ _ _ _ _ _ _ _ _ _ _ _ _ _ _ _ _ _ _ _ _ _ _ _ _ _ _ _ _ _ _ _ _ _ _ _ _ _ _ _ _ _ _ _ _ _ _ _ _ _ _ _ _ _ _ _ _ _ _ _ _ _ _ _ HB.out
          | false =>
            rw [hmm] at HMY
            simp only [A17.val] at HMY
            have HBAD := Lib.hid (ours_bad HC.out.live.on (img := img) (a := A) ⟨by omega, by omega⟩ (.inr hmm))
            go_wp2_with fail
            refine HDD.out.mono ?_
            rintro e w2 ⟨rfl, rfl⟩
            go_wp2_with fail
            refine HMY.out.mono ?_
            rintro e w3 ⟨rfl, hb3⟩
            have HX9 := Lib.hid (H.out.keep hb3)
            have HS9 := Lib.hid (Hp.sub.refl I)
            clear hb3 x0 x1 x2 x3 x4 x5 x6 x7
            have hob := ours17_spec (m := m) img A HX9.out (HK.out.fewer (by have := HKL.out; omega)) (A17.ok_mono HA.out HS9.out) HPL.out
            rw [HBAD.out] at hob
            have HOB := Lib.hid hob
            obtain ⟨x0, x1, x2, x3, x4, x5, x6, x7⟩ := act_cells HX9.out (HS9.out _ _ HI.out)
            simp only [A17.val] at HOB
            clear hob
            go_wp2_with fail
            refine HOB.out.mono ?_
            rintro e w10 ⟨I10, hs10, rfl, h10⟩
            have hdd := deeds_spec h10
            rw [HD.out] at hdd
            have HDD2 := Lib.hid hdd
            have HX10 := Lib.hid h10
            have deq : (dd == dd) = true := by simp
            clear hdd h10
            go_wp2_with fail
            refine HDD2.out.mono ?_
            rintro e w11 ⟨rfl, rfl⟩
            go_wp2_with fail
            refine (known17_spec w10).mono ?_
            rintro e w9 ⟨rfl, hb9⟩
            have HB := Lib.hid (HX10.out.below.trans (hb9.mono HX10.out.below.size))
            clear hb9
            go_wp2_with fail
            exact HQ.out _ _ _ _ _ _ _ _ _ _ _ _ _ _ _ _ _ _ _ _ _ _ _ _ _ _ _ _ _ _ _ _ _ _ _ _ _ _ _ _ _ _ _ _ _ _ _ _ _ _ _ _ _ _ _ _ _ _ _ _ _ _ _ _ _ _ _ _ _ _ _ _ _ _ _ _ _ _ _ _ _ _ _ _ _ _ _ _ _ _ _ _ _ _ _ _ _ _ _ _ _ _ _ _ _ _ _ _ _ _ _ _ _ _ _ _ _ _ _ _ _ _ _ _ _ _ _ _ _ _ _ _ _ _ _ _ _ _ _ _ _ _ _ _ _ _ _ _ _ _ _ _ _ _ _ _ _ _ _ _ _ _ _ _ _ _ _ _ _ _ HB.out
        · have e1 : decide (img ≤ 255) = false := by simpa using i1
          have e1' : decide (255 < img) = true := by rw [decide_eq_true_eq]; omega
          have HBAD := Lib.hid (ours_bad HC.out.live.on (img := img) (a := A) ⟨by omega, by omega⟩ (.inl (by omega)))
          have hbo : objB img 0 = false := bad_obj (by omega)
          rw [show cthereS S img 0 0 = (false, 1) by unfold cthereS; rw [hbo, Bool.false_and, cmay_bad HC.out.live.on, if_pos (by decide)]] at hth
          have HCO := Lib.hid (show ccopiesS S img 0 = ([], 1) by unfold ccopiesS; rw [hbo, cmay_bad HC.out.live.on, if_pos (by decide)])
          have HTH := Lib.hid hth
          clear hth hbo
          go_wp2_with fail
          refine HDD.out.mono ?_
          rintro e w2 ⟨rfl, rfl⟩
          go_wp2_with fail
          refine HTH.out.mono ?_
          rintro e w3 ⟨I3, hs3, rfl, h3⟩
          have hcp := ccopies_spec img 0 h3 HK.out.inv
          rw [HCO.out] at hcp
          have HCP := Lib.hid hcp
          have HS3 := Lib.hid hs3
          clear hcp h3 hs3 x0 x1 x2 x3 x4 x5 x6 x7
          go_wp2_with fail
          refine HCP.out.mono ?_
          rintro e w4 ⟨v4, I4, hs4, rfl, hv4, h4⟩
          obtain ⟨A4, c4, rfl, _⟩ := hv4
          have HX9 := Lib.hid h4
          have HS9 := Lib.hid (HS3.out.trans hs4)
          clear h4 hs4
          have hob := ours17_spec (m := m) img A HX9.out (HK.out.fewer (by have := HKL.out; omega)) (A17.ok_mono HA.out HS9.out) HPL.out
          rw [HBAD.out] at hob
          have HOB := Lib.hid hob
          obtain ⟨x0, x1, x2, x3, x4, x5, x6, x7⟩ := act_cells HX9.out (HS9.out _ _ HI.out)
          simp only [A17.val] at HOB
          clear hob
          go_wp2_with fail
          refine HOB.out.mono ?_
          rintro e w10 ⟨I10, hs10, rfl, h10⟩
          have hdd := deeds_spec h10
          rw [HD.out] at hdd
          have HDD2 := Lib.hid hdd
          have HX10 := Lib.hid h10
          have deq : (dd == dd) = true := by simp
          clear hdd h10
          go_wp2_with fail
          refine HDD2.out.mono ?_
          rintro e w11 ⟨rfl, rfl⟩
          go_wp2_with fail
          refine (known17_spec w10).mono ?_
          rintro e w9 ⟨rfl, hb9⟩
          have HB := Lib.hid (HX10.out.below.trans (hb9.mono HX10.out.below.size))
          clear hb9
          go_wp2_with fail
          exact HQ.out _ _ _ _ _ _ _ _ _ _ _ _ _ _ _ _ _ _ _ _ _ _ _ _ _ _ _ _ _ _ _ _ _ _ _ _ _ _ _ _ _ _ _ _ _ _ _ _ _ _ _ _ _ _ _ _ _ _ _ _ _ _ _ _ _ _ _ _ _ _ _ _ _ _ _ _ _ _ _ _ _ _ _ _ _ _ _ _ _ _ _ _ _ _ _ _ _ _ _ _ _ _ _ _ _ _ _ _ _ _ _ _ _ _ _ _ _ _ _ _ _ _ _ _ _ _ _ _ _ _ _ _ _ _ _ _ _ _ _ _ _ _ _ _ _ _ _ _ _ _ _ _ _ _ _ _ _ _ _ _ _ _ _ _ _ _ _ _ _ _ HB.out
      · have e0 : decide (0 ≤ img) = false := by simpa using i0
        have e0' : decide (img < 0) = true := by rw [decide_eq_true_eq]; omega
        have HBAD := Lib.hid (ours_bad HC.out.live.on (img := img) (a := A) ⟨by omega, by omega⟩ (.inl (by omega)))
        have hbo : objB img 0 = false := bad_obj (by omega)
        rw [show cthereS S img 0 0 = (false, 1) by unfold cthereS; rw [hbo, Bool.false_and, cmay_bad HC.out.live.on, if_pos (by decide)]] at hth
        have HCO := Lib.hid (show ccopiesS S img 0 = ([], 1) by unfold ccopiesS; rw [hbo, cmay_bad HC.out.live.on, if_pos (by decide)])
        have HTH := Lib.hid hth
        clear hth hbo
        go_wp2_with fail
        refine HDD.out.mono ?_
        rintro e w2 ⟨rfl, rfl⟩
        go_wp2_with fail
        refine HTH.out.mono ?_
        rintro e w3 ⟨I3, hs3, rfl, h3⟩
        have hcp := ccopies_spec img 0 h3 HK.out.inv
        rw [HCO.out] at hcp
        have HCP := Lib.hid hcp
        have HS3 := Lib.hid hs3
        clear hcp h3 hs3 x0 x1 x2 x3 x4 x5 x6 x7
        go_wp2_with fail
        refine HCP.out.mono ?_
        rintro e w4 ⟨v4, I4, hs4, rfl, hv4, h4⟩
        obtain ⟨A4, c4, rfl, _⟩ := hv4
        have HX9 := Lib.hid h4
        have HS9 := Lib.hid (HS3.out.trans hs4)
        clear h4 hs4
        have hob := ours17_spec (m := m) img A HX9.out (HK.out.fewer (by have := HKL.out; omega)) (A17.ok_mono HA.out HS9.out) HPL.out
        rw [HBAD.out] at hob
        have HOB := Lib.hid hob
        obtain ⟨x0, x1, x2, x3, x4, x5, x6, x7⟩ := act_cells HX9.out (HS9.out _ _ HI.out)
        simp only [A17.val] at HOB
        clear hob
        go_wp2_with fail
        refine HOB.out.mono ?_
        rintro e w10 ⟨I10, hs10, rfl, h10⟩
        have hdd := deeds_spec h10
        rw [HD.out] at hdd
        have HDD2 := Lib.hid hdd
        have HX10 := Lib.hid h10
        have deq : (dd == dd) = true := by simp
        clear hdd h10
        go_wp2_with fail
        refine HDD2.out.mono ?_
        rintro e w11 ⟨rfl, rfl⟩
        go_wp2_with fail
        refine (known17_spec w10).mono ?_
        rintro e w9 ⟨rfl, hb9⟩
        have HB := Lib.hid (HX10.out.below.trans (hb9.mono HX10.out.below.size))
        clear hb9
        go_wp2_with fail
        exact HQ.out _ _ _ _ _ _ _ _ _ _ _ _ _ _ _ _ _ _ _ _ _ _ _ _ _ _ _ _ _ _ _ _ _ _ _ _ _ _ _ _ _ _ _ _ _ _ _ _ _ _ _ _ _ _ _ _ _ _ _ _ _ _ _ _ _ _ _ _ _ _ _ _ _ _ _ _ _ _ _ _ _ _ _ _ _ _ _ _ _ _ _ _ _ _ _ _ _ _ _ _ _ _ _ _ _ _ _ _ _ _ _ _ _ _ _ _ _ _ _ _ _ _ _ _ _ _ _ _ _ _ _ _ _ _ _ _ _ _ _ _ _ _ _ _ _ _ _ _ _ _ _ _ _ _ _ _ _ _ _ _ _ _ _ _ _ _ _ _ _ _ HB.out
end
section
variable {W w : World} {I : Hp} {l : List HP} {p p2 g : Nat} {S T : Str}
set_option maxRecDepth 4000
set_option maxHeartbeats 8000000
/-- Region 15: an object at each snapshot. -/
theorem images_inner {a b : Code} {Q : Exit → Act → World → Prop} {K : Act → World → Prop} (hK : ∀ x y, b.wp Try.prog Q x y → K x y) (hC : (Try.f3).body.bind (fromR 15) = some (.seq a b)) {x0 x2 x3 x4 x6 x9 x10 x12 x13 x14 x15 x16 x17 x18 x19 x20 x21 x22 x23 x24 x25 x26 x27 x28 x29 x30 x31 x32 x33 x34 x35 x36 x37 x38 x39 x40 x41 x42 x43 x44 x45 x46 x47 x48 x49 x50 x51 x52 x53 x54 x55 x56 x57 x58 x59 x60 x61 x62 x63 x64 x65 x66 x67 x68 x69 x70 x71 x72 x73 x74 x75 x76 x77 x78 x79 x80 x81 x82 x83 x84 x85 x86 x87 x88 x89 x90 x91 x92 x93 x94 x95 x96 x97 x98 x99 x100 x101 x102 x103 x104 x105 x106 x107 x108 x109 x110 x111 x112 x113 x114 x115 x116 x117 x118 x119 x120 x121 x122 x123 x124 x125 x126 x127 x128 x129 x130 x131 x132 x133 x134 x135 x136 x137 x138 x139 x140 x141 x142 x143 x144 x145 x146 x147 x148 x149 x150 x151 x152 x153 x154 x155 x156 x157 x158 x159 x160 x161 x162 x163 x164 x165 x166 x167 x168 x169 : Value} {img : Value} {g5 : Nat} (i : Nat) (hi4 : i < 4)
    (h : St W I w (storeHP p S :: storeHP p2 T :: l)) (hS : Calm17 S) (hT : Calm17 T) {m m2 : Nat} (hkS : Inv S m) (hkT : Inv T m2) (hs : SameImg 0 S T)
    (hQ : ∀ (y6 y12 y13 y14 y15 y16 y78 y79 y80 y81 y82 y83 y84 y85 y86 y87 y88 y89 y90 y91 y92 y93 y94 y95 y96 y97 y98 y99 y100 y101 y102 y103 y104 y105 y106 y107 y108 : Value) (I' : Hp) (w' : World), I.sub I' → St W I' w' (storeHP p S :: storeHP p2 T :: l) → Q .normal ⟨#[x0, img, x2, x3, x4, .pointer (some ⟨g5, 0, none⟩), y6, .pointer (some ⟨p, 0, none⟩), .pointer (some ⟨p2, 0, none⟩), x9, x10, .int .i64 i, y12, y13, y14, y15, y16, x17, x18, x19, x20, x21, x22, x23, x24, x25, x26, x27, x28, x29, x30, x31, x32, x33, x34, x35, x36, x37, x38, x39, x40, x41, x42, x43, x44, x45, x46, x47, x48, x49, x50, x51, x52, x53, x54, x55, x56, x57, x58, x59, x60, x61, x62, x63, x64, x65, x66, x67, x68, x69, x70, x71, x72, x73, x74, x75, x76, x77, y78, y79, y80, y81, y82, y83, y84, y85, y86, y87, y88, y89, y90, y91, y92, y93, y94, y95, y96, y97, y98, y99, y100, y101, y102, y103, y104, y105, y106, y107, y108, x109, x110, x111, x112, x113, x114, x115, x116, x117, x118, x119, x120, x121, x122, x123, x124, x125, x126, x127, x128, x129, x130, x131, x132, x133, x134, x135, x136, x137, x138, x139, x140, x141, x142, x143, x144, x145, x146, x147, x148, x149, x150, x151, x152, x153, x154, x155, x156, x157, x158, x159, x160, x161, x162, x163, x164, x165, x166, x167, x168, x169], []⟩ w') :
    a.wp Try.prog (Exit.then K Q) ⟨#[x0, img, x2, x3, x4, .pointer (some ⟨g5, 0, none⟩), x6, .pointer (some ⟨p, 0, none⟩), .pointer (some ⟨p2, 0, none⟩), x9, x10, .int .i64 i, x12, x13, x14, x15, x16, x17, x18, x19, x20, x21, x22, x23, x24, x25, x26, x27, x28, x29, x30, x31, x32, x33, x34, x35, x36, x37, x38, x39, x40, x41, x42, x43, x44, x45, x46, x47, x48, x49, x50, x51, x52, x53, x54, x55, x56, x57, x58, x59, x60, x61, x62, x63, x64, x65, x66, x67, x68, x69, x70, x71, x72, x73, x74, x75, x76, x77, x78, x79, x80, x81, x82, x83, x84, x85, x86, x87, x88, x89, x90, x91, x92, x93, x94, x95, x96, x97, x98, x99, x100, x101, x102, x103, x104, x105, x106, x107, x108, x109, x110, x111, x112, x113, x114, x115, x116, x117, x118, x119, x120, x121, x122, x123, x124, x125, x126, x127, x128, x129, x130, x131, x132, x133, x134, x135, x136, x137, x138, x139, x140, x141, x142, x143, x144, x145, x146, x147, x148, x149, x150, x151, x152, x153, x154, x155, x156, x157, x158, x159, x160, x161, x162, x163, x164, x165, x166, x167, x168, x169], []⟩ w := by
  injection hC with hC
  injection hC with hC1 hC2
  subst hC1 hC2
  have hrd : ∀ j : Nat, j ≤ 16 → creadS T 0 i j 0 64 = creadS S 0 i j 0 64 ∧ (creadS S 0 i j 0 64).2 = 0 := fun j hj => by
    have hm : (objB 0 i && snapB j && withinB 0 64) = true := by
      unfold objB snapB withinB
      simp only [Bool.and_eq_true, decide_eq_true_eq]
      omega
    rw [read_view hS.live U17_ok hm, read_view hT.live U17_ok hm, hs.view, keys_same hS.live.inv.keys hT.live.inv.keys hs]
    exact ⟨rfl, rfl⟩
  have HRD := Lib.hid hrd
  have HQ := Lib.hid hQ
  have H := Lib.hid h
  have HKS := Lib.hid hkS
  have HKT := Lib.hid hkT
  clear hQ h hS hT hs hrd hkS hkT
  go_wp2_with fail
  go_loopw [12] (fun a12 wr => ∃ (j : Nat) (I1 : Hp), a12 = .int .i64 j ∧ j ≤ 17 ∧ I.sub I1 ∧ St W I1 wr (storeHP p S :: storeHP p2 T :: l)) (fun a12 _ => 17 - (intOf a12).toNat)
  case atStart => exact ⟨0, I, rfl, by omega, Hp.sub.refl _, H.out⟩
  case round =>
    obtain ⟨j, I1, rfl, hj, hI1, hst⟩ := hrel
    by_cases hlt : j ≤ 16
    · have dj : decide ((j : Int) ≤ 16) = true := by rw [decide_eq_true_eq]; omega
      obtain ⟨hr1, hr0⟩ := HRD.out j hlt
      have hc := cread_spec 0 i j 0 64 hst HKS.out
      obtain ⟨⟨bs, er⟩, hrs⟩ : ∃ r, creadS S 0 i j 0 64 = r := ⟨_, rfl⟩
      rw [hrs] at hc hr1 hr0
      simp only at hr0
      subst hr0
      have HC := Lib.hid hc
      have HR1 := Lib.hid hr1
      have HI1 := Lib.hid hI1
      clear hc hr1 hrs hst hI1
      go_wp2_with fail
      refine HC.out.mono ?_
      rintro e w3 ⟨v3, I3, hs3, rfl, hb3, h3⟩
      have HB3 := Lib.hid hb3
      obtain ⟨A3, c3, rfl, _⟩ := hb3
      have hc := cread_spec 0 i j 0 64 (h3.pull 1 _ rfl) HKT.out
      rw [HR1.out] at hc
      have HC2 := Lib.hid hc
      have HS3 := Lib.hid (HI1.out.trans hs3)
      clear hc h3 hs3 HC
      go_wp2_with fail
      refine HC2.out.mono ?_
      rintro e w4 ⟨v4, I4, hs4, rfl, hb4, h4⟩
      have HB4 := Lib.hid hb4
      obtain ⟨A4, c4, rfl, _⟩ := hb4
      have hst1 := src_string (bytes_src h4 ((bytesIP _ _).mono hs4 HB3.out))
      have hst2 := src_string (bytes_src h4 HB4.out)
      have hss : (strOfNums bs != strOfNums bs) = false := by
        show (!(strOfNums bs == strOfNums bs)) = false
        rw [(MapKept.bytes_beq _ _).2 rfl]
        rfl
      have H4 := Lib.hid (h4.pull 1 _ rfl)
      have HS4 := Lib.hid (HS3.out.trans hs4)
      clear h4 hs4 HC2
      go_wp2_with fail
      go_roundw
      case rel => exact ⟨j + 1, I4, by go_num, by omega, HS4.out, H4.out⟩
      case measure => simp [intOf]; omega
    · obtain rfl : j = 17 := by omega
      have dj : decide (((17 : Nat) : Int) ≤ 16) = false := rfl
      have H9 := Lib.hid hst
      have HI9 := Lib.hid hI1
      clear hst hI1
      go_wp2_with fail
      exact HQ.out _ _ _ _ _ _ _ _ _ _ _ _ _ _ _ _ _ _ _ _ _ _ _ _ _ _ _ _ _ _ _ _ _ _ _ _ _ I1 _ HI9.out H9.out
/-- Region 12: all objects at each snapshot. -/
theorem images_reads {a b : Code} {Q : Exit → Act → World → Prop} {K : Act → World → Prop} (hK : ∀ x y, b.wp Try.prog Q x y → K x y) (hC : (Try.f3).body.bind (fromR 12) = some (.seq a b)) {x0 x2 x3 x4 x6 x9 x10 x11 x12 x13 x14 x15 x16 x17 x18 x19 x20 x21 x22 x23 x24 x25 x26 x27 x28 x29 x30 x31 x32 x33 x34 x35 x36 x37 x38 x39 x40 x41 x42 x43 x44 x45 x46 x47 x48 x49 x50 x51 x52 x53 x54 x55 x56 x57 x58 x59 x60 x61 x62 x63 x64 x65 x66 x67 x68 x69 x70 x71 x72 x73 x74 x75 x76 x77 x78 x79 x80 x81 x82 x83 x84 x85 x86 x87 x88 x89 x90 x91 x92 x93 x94 x95 x96 x97 x98 x99 x100 x101 x102 x103 x104 x105 x106 x107 x108 x109 x110 x111 x112 x113 x114 x115 x116 x117 x118 x119 x120 x121 x122 x123 x124 x125 x126 x127 x128 x129 x130 x131 x132 x133 x134 x135 x136 x137 x138 x139 x140 x141 x142 x143 x144 x145 x146 x147 x148 x149 x150 x151 x152 x153 x154 x155 x156 x157 x158 x159 x160 x161 x162 x163 x164 x165 x166 x167 x168 x169 : Value} {img : Value} {g5 : Nat}
    (h : St W I w (storeHP p S :: storeHP p2 T :: l)) (hS : Calm17 S) (hT : Calm17 T) {m m2 : Nat} (hkS : Inv S m) (hkT : Inv T m2) (hs : SameImg 0 S T)
    (hQ : ∀ (y0 y2 y3 y4 y6 y9 y10 y11 y12 y13 y14 y15 y16 y17 y18 y19 y20 y21 y22 y23 y24 y25 y26 y27 y28 y29 y30 y31 y32 y33 y34 y35 y36 y37 y38 y39 y40 y41 y42 y43 y44 y45 y46 y47 y48 y49 y50 y51 y52 y53 y54 y55 y56 y57 y58 y59 y60 y61 y62 y63 y64 y65 y66 y67 y68 y69 y70 y71 y72 y73 y74 y75 y76 y77 y78 y79 y80 y81 y82 y83 y84 y85 y86 y87 y88 y89 y90 y91 y92 y93 y94 y95 y96 y97 y98 y99 y100 y101 y102 y103 y104 y105 y106 y107 y108 y109 y110 y111 y112 y113 y114 y115 y116 y117 y118 y119 y120 y121 y122 y123 y124 y125 y126 y127 y128 y129 y130 y131 y132 y133 y134 y135 y136 y137 y138 y139 y140 y141 y142 y143 y144 y145 y146 y147 y148 y149 y150 y151 y152 y153 y154 y155 y156 y157 y158 y159 y160 y161 y162 y163 y164 y165 y166 y167 y168 y169 : Value) (I' : Hp) (w' : World), I.sub I' → St W I' w' (storeHP p S :: storeHP p2 T :: l) → Q .normal ⟨#[y0, img, y2, y3, y4, .pointer (some ⟨g5, 0, none⟩), y6, .pointer (some ⟨p, 0, none⟩), .pointer (some ⟨p2, 0, none⟩), y9, y10, y11, y12, y13, y14, y15, y16, y17, y18, y19, y20, y21, y22, y23, y24, y25, y26, y27, y28, y29, y30, y31, y32, y33, y34, y35, y36, y37, y38, y39, y40, y41, y42, y43, y44, y45, y46, y47, y48, y49, y50, y51, y52, y53, y54, y55, y56, y57, y58, y59, y60, y61, y62, y63, y64, y65, y66, y67, y68, y69, y70, y71, y72, y73, y74, y75, y76, y77, y78, y79, y80, y81, y82, y83, y84, y85, y86, y87, y88, y89, y90, y91, y92, y93, y94, y95, y96, y97, y98, y99, y100, y101, y102, y103, y104, y105, y106, y107, y108, y109, y110, y111, y112, y113, y114, y115, y116, y117, y118, y119, y120, y121, y122, y123, y124, y125, y126, y127, y128, y129, y130, y131, y132, y133, y134, y135, y136, y137, y138, y139, y140, y141, y142, y143, y144, y145, y146, y147, y148, y149, y150, y151, y152, y153, y154, y155, y156, y157, y158, y159, y160, y161, y162, y163, y164, y165, y166, y167, y168, y169], []⟩ w') :
    a.wp Try.prog (Exit.then K Q) ⟨#[x0, img, x2, x3, x4, .pointer (some ⟨g5, 0, none⟩), x6, .pointer (some ⟨p, 0, none⟩), .pointer (some ⟨p2, 0, none⟩), x9, x10, x11, x12, x13, x14, x15, x16, x17, x18, x19, x20, x21, x22, x23, x24, x25, x26, x27, x28, x29, x30, x31, x32, x33, x34, x35, x36, x37, x38, x39, x40, x41, x42, x43, x44, x45, x46, x47, x48, x49, x50, x51, x52, x53, x54, x55, x56, x57, x58, x59, x60, x61, x62, x63, x64, x65, x66, x67, x68, x69, x70, x71, x72, x73, x74, x75, x76, x77, x78, x79, x80, x81, x82, x83, x84, x85, x86, x87, x88, x89, x90, x91, x92, x93, x94, x95, x96, x97, x98, x99, x100, x101, x102, x103, x104, x105, x106, x107, x108, x109, x110, x111, x112, x113, x114, x115, x116, x117, x118, x119, x120, x121, x122, x123, x124, x125, x126, x127, x128, x129, x130, x131, x132, x133, x134, x135, x136, x137, x138, x139, x140, x141, x142, x143, x144, x145, x146, x147, x148, x149, x150, x151, x152, x153, x154, x155, x156, x157, x158, x159, x160, x161, x162, x163, x164, x165, x166, x167, x168, x169], []⟩ w := by
  injection hC with hC
  injection hC with hC1 hC2
  subst hC1 hC2
  have HQ := Lib.hid hQ
  have H := Lib.hid h
  have HS := Lib.hid hS
  have HT := Lib.hid hT
  have HKS := Lib.hid hkS
  have HKT := Lib.hid hkT
  have HSM := Lib.hid hs
  clear hQ h hS hT hs hkS hkT
  go_wp2_with fail
  go_loopw [11] (fun a11 wr => ∃ (i : Nat) (I1 : Hp), a11 = .int .i64 i ∧ i ≤ 4 ∧ I.sub I1 ∧ St W I1 wr (storeHP p S :: storeHP p2 T :: l)) (fun a11 _ => 4 - (intOf a11).toNat)
  case atStart => exact ⟨0, I, rfl, by omega, Hp.sub.refl _, H.out⟩
  case round =>
    obtain ⟨i, I1, rfl, hi, hI1, hst⟩ := hrel
    by_cases hlt : i < 4
    · have HST := Lib.hid hst
      have HI1 := Lib.hid hI1
      clear hst hI1
      go_upto_region 15 with fail
      refine images_inner (by assumption) (by kernel_rfl) i hlt HST.out HS.out HT.out HKS.out HKT.out HSM.out ?_
      intro y6 y12 y13 y14 y15 y16 y78 y79 y80 y81 y82 y83 y84 y85 y86 y87 y88 y89 y90 y91 y92 y93 y94 y95 y96 y97 y98 y99 y100 y101 y102 y103 y104 y105 y106 y107 y108 I3 w3 hs3 h3
      have H3 := Lib.hid h3
      have HS3 := Lib.hid (HI1.out.trans hs3)
      clear h3 hs3
      go_wp2_with fail
      go_roundw
      case rel => exact ⟨i + 1, I3, by go_num, by omega, HS3.out, H3.out⟩
      case measure => simp [intOf]; omega
    · obtain rfl : i = 4 := by omega
      have H9 := Lib.hid hst
      have HI9 := Lib.hid hI1
      clear hst hI1
      go_wp2_with fail
      exact HQ.out _ _ _ _ _ _ _ _ _ _ _ _ _ _ _ _ _ _ _ _ _ _ _ _ _ _ _ _ _ _ _ _ _ _ _ _ _ _ _ _ _ _ _ _ _ _ _ _ _ _ _ _ _ _ _ _ _ _ _ _ _ _ _ _ _ _ _ _ _ _ _ _ _ _ _ _ _ _ _ _ _ _ _ _ _ _ _ _ _ _ _ _ _ _ _ _ _ _ _ _ _ _ _ _ _ _ _ _ _ _ _ _ _ _ _ _ _ _ _ _ _ _ _ _ _ _ _ _ _ _ _ _ _ _ _ _ _ _ _ _ _ _ _ _ _ _ _ _ _ _ _ _ _ _ _ _ _ _ _ _ _ _ _ _ _ _ I1 _ HI9.out H9.out
end
set_option maxRecDepth 4000
set_option maxHeartbeats 8000000
theorem images_walk (v0 : Value) (ls : List A17) (img : Int) (A : A17) (W : World) (h1 : RowI W.hp 8 v0 ls.length (ls.flatMap A17.vals)) (hok : ∀ a ∈ ls, a.ok W.hp) (hn : ls.length ≤ maxLen) (hA : A.ok W.hp) :
    Calls Try.prog 3 #[v0, .int .i64 img, A.val] W fun e w' => e = .returned (.bool true) ∧ Below W.heap.size W w' := by
  obtain ⟨a0, a1, a2, a3, a4, a5, ap, apv, ams, amv⟩ := A
  have HAK := Lib.hid hA
  have hap := hA.1
  have ham := hA.2.1
  obtain ⟨Ap, cp, hpv, _, hcp1, hcm, _⟩ := hap
  obtain ⟨Am, cm, hmv, _, hcm1, hcm2, _⟩ := ham
  simp only at hpv hmv hcp1 hcm1
  subst hpv hmv
  unfold maxLen at hn hcm hcm2
  have hn1 : (ls.length : Int) ≤ 9223372036854775807 := by omega
  have hn2 : (ap.length : Int) ≤ 9223372036854775807 := by omega
  have hn3 : (ams.length : Int) ≤ 9223372036854775807 := by omega
  obtain ⟨I0, hs0, hI0, h0⟩ := ((St.init W).alloc (.cells #[.int .i64 a0, .int .i64 a1, .int .i64 a2, .int .i64 a3, .int .i64 a4, .int .i64 a5, .slice Ap ap.length cp, .slice Am ams.length cm] 26)).freeze
  have hfs := few17_spec v0 ls 30 _ (RowI.mono (hs0.trans h0.imm) h1) (fun a ha => A17.ok_mono (hok a ha) (hs0.trans h0.imm)) (by unfold maxLen; omega)
  obtain ⟨x0, x1, x2, x3, x4, x5, x6, x7⟩ := act_cells h0 hI0
  have H1 := Lib.hid h1
  have HOK := Lib.hid hok
  have H0 := Lib.hid h0
  have HI0 := Lib.hid hI0
  have HS0 := Lib.hid hs0
  obtain ⟨A1, c1, rfl, _⟩ := h1
  simp only [A17.val]
  clear hok h0 hs0 hA
  cases hfw : few17 ls 30 with
  | false =>
    rw [hfw] at hfs
    have HFS := Lib.hid hfs
    clear hfs
    go_enter Try.func3, Try.ntmps3
    go_wp2_with fail
    refine HFS.out.mono ?_
    rintro e w1 ⟨rfl, rfl⟩
    go_wp2_with fail
    refine (known17_spec _).mono ?_
    rintro e w9 ⟨rfl, hb9⟩
    have HB := Lib.hid (H0.out.below.trans (hb9.mono H0.out.below.size))
    clear hb9
    go_wp2_with fail
    go_ret
    exact ⟨rfl, HB.out⟩
  | true =>
    rw [hfw] at hfs
    have HFS := Lib.hid hfs
    clear hfs
    have hl30 : ls.length ≤ 30 := by
      unfold few17 at hfw
      simp only [Bool.and_eq_true, decide_eq_true_eq] at hfw
      omega
    clear hfw
    by_cases hp100 : 100 < ap.length
    · have d1 : decide (100 < (ap.length : Int)) = true := by rw [decide_eq_true_eq]; omega
      go_enter Try.func3, Try.ntmps3
      go_wp2_with fail
      refine HFS.out.mono ?_
      rintro e w1 ⟨rfl, rfl⟩
      go_wp2_with fail
      refine (known17_spec _).mono ?_
      rintro e w9 ⟨rfl, hb9⟩
      have HB := Lib.hid (H0.out.below.trans (hb9.mono H0.out.below.size))
      clear hb9
      go_wp2_with fail
      go_ret
      exact ⟨rfl, HB.out⟩
    · have d1 : decide (100 < (ap.length : Int)) = false := by rw [decide_eq_false_iff_not]; omega
      by_cases hm20 : 20 < ams.length
      · have d2 : decide (20 < (ams.length : Int)) = true := by rw [decide_eq_true_eq]; omega
        go_enter Try.func3, Try.ntmps3
        go_wp2_with fail
        refine HFS.out.mono ?_
        rintro e w1 ⟨rfl, rfl⟩
        go_wp2_with fail
        refine (known17_spec _).mono ?_
        rintro e w9 ⟨rfl, hb9⟩
        have HB := Lib.hid (H0.out.below.trans (hb9.mono H0.out.below.size))
        clear hb9
        go_wp2_with fail
        go_ret
        exact ⟨rfl, HB.out⟩
      · have d2 : decide (20 < (ams.length : Int)) = false := by rw [decide_eq_false_iff_not]; omega
        obtain ⟨g5, hg5⟩ : ∃ g, W.heap.size = g := ⟨_, rfl⟩
        go_enter Try.func3, Try.ntmps3
        go_wp2_with fail
        refine HFS.out.mono ?_
        rintro e w1 ⟨rfl, rfl⟩
        go_wp2_with fail
        refine (new_spec 1048576 H0.out).mono ?_
        rintro e w2 ⟨p, rfl, h2⟩
        have H2 := Lib.hid h2
        clear h2
        go_wp2_with fail
        refine (new_spec 1048576 H2.out).mono ?_
        rintro e w3 ⟨p2, rfl, h3⟩
        have H3 := Lib.hid (h3.pull 1 _ rfl)
        clear h3 H2 HFS x0 x1 x2 x3 x4 x5 x6 x7
        rw [hg5] at HI0
        go_wp2_with fail
        go_loopw [9] (fun a9 wr => ∃ (i : Nat) (S T : Str) (I1 : Hp), a9 = .int .i64 i ∧ i ≤ ls.length ∧ Calm17 S ∧ Calm17 T ∧ Keeps S (90000 - 300 * i) ∧ Keeps T (90000 - 300 * i) ∧ SameImg 0 S T ∧ I0.sub I1 ∧ St W I1 wr (storeHP p S :: storeHP p2 T :: [])) (fun a9 _ => ls.length - (intOf a9).toNat)
        case atStart => exact ⟨0, newS 1048576, newS 1048576, I0, rfl, Nat.zero_le _, Calm17.new, Calm17.new, (keeps_new _).fewer (by omega), (keeps_new _).fewer (by omega), fun _ _ _ => rfl, Hp.sub.refl _, H3.out⟩
        case round =>
          obtain ⟨i, S, T, I1, rfl, hi, hcS, hcT, hkS, hkT, hsm, hI1, hst⟩ := hrel
          by_cases hlt : i < ls.length
          · obtain ⟨a, ha⟩ : ∃ a, ls[i]? = some a := ⟨_, List.getElem?_eq_getElem hlt⟩
            obtain ⟨b, off, e1, hc⟩ := rowk_cell (i := i) H1.out (HS0.out.trans hI1) hst (fun _ => rfl) ha
            simp only [Value.slice.injEq, and_true] at e1
            subst e1
            have hoka := A17.ok_mono (HOK.out a (List.mem_of_getElem? ha)) (HS0.out.trans hI1)
            have y0 := hc 0 (by omega)
            have y1 := hc 1 (by omega)
            have y2 := hc 2 (by omega)
            have y3 := hc 3 (by omega)
            have y4 := hc 4 (by omega)
            have y5 := hc 5 (by omega)
            have y6 := hc 6 (by omega)
            have y7 := hc 7 (by omega)
            have hml := mild_spec a hst hoka
            obtain ⟨hmok, hmpl⟩ := mild_ok hoka
            have hfi0 : a.mild.what = 5 ∨ Fine U17 0 a.mild := .inr (mild_fine ⟨by omega, by omega⟩ a)
            have hfi1 : a.mild.what = 5 ∨ Fine U17 1 a.mild := .inr (mild_fine ⟨by omega, by omega⟩ a)
            obtain ⟨B, hB⟩ : ∃ B, a.mild = B := ⟨_, rfl⟩
            rw [hB] at hml hmok hmpl hfi0 hfi1
            obtain ⟨Bp, bcp, hbpv, _⟩ := hoka.1
            obtain ⟨Bm, bcm, hbmv, _⟩ := hoka.2.1
            have hmpv := hmok.1
            have hmmv := hmok.2.1
            obtain ⟨Cp, ccp, hcpv, _⟩ := hmpv
            obtain ⟨Cm, ccm, hcmv, _⟩ := hmmv
            obtain ⟨b0, b1, b2, b3, b4, b5, bp, bpv, bms, bmv⟩ := a
            obtain ⟨m0, m1, m2, m3, m4, m5, mp, mpv, mms, mmv⟩ := B
            simp only at hbpv hbmv hcpv hcmv hmpl
            subst hbpv hbmv hcpv hcmv
            simp only [A17.vals, List.getElem?_cons_succ, List.getElem?_cons_zero, Nat.add_zero] at y0 y1 y2 y3 y4 y5 y6 y7
            simp only [A17.val] at hml
            have HML := Lib.hid hml
            have HMOK := Lib.hid hmok
            have HF0 := Lib.hid hfi0
            have HF1 := Lib.hid hfi1
            have HST := Lib.hid hst
            have HCS := Lib.hid hcS
            have HCT := Lib.hid hcT
            have HKS := Lib.hid hkS
            have HKT := Lib.hid hkT
            have HSM := Lib.hid hsm
            have HI1 := Lib.hid hI1
            clear hc ha hoka hml hmok hfi0 hfi1 hst hcS hcT hkS hkT hsm hI1 hB
            go_wp2_with fail
            refine HML.out.mono ?_
            rintro e w5 ⟨rfl, hb5⟩
            obtain ⟨I6, hs6, hI6, h6⟩ := ((HST.out.keep hb5).alloc (.cells #[.int .i64 m0, .int .i64 m1, .int .i64 m2, .int .i64 m3, .int .i64 m4, .int .i64 m5, .slice Cp mp.length ccp, .slice Cm mms.length ccm] 26)).freeze
            obtain ⟨z0, z1, z2, z3, z4, z5, z6, z7⟩ := act_cells h6 hI6
            have hand : bits .and .i64 (i : Int) 1 = (i : Int) % 2 := i64_and1 _
            have hmo6 := A17.ok_mono HMOK.out hs6
            have HMO6 := Lib.hid hmo6
            have H6 := Lib.hid h6
            have HI6 := Lib.hid hI6
            have HS6 := Lib.hid (HI1.out.trans hs6)
            clear hb5 h6 hI6 hs6 hmo6 y0 y1 y2 y3 y4 y5 y6 y7 HML HST
            by_cases hev : (i : Int) % 2 = 0
            · rw [hev] at hand
              obtain ⟨hr1, hr2, hr3⟩ := HCS.out.done (img := 0) (a := ⟨m0, m1, m2, m3, m4, m5, mp, .slice Cp mp.length ccp, mms, .slice Cm mms.length ccm⟩) ⟨by omega, by omega⟩ HF0.out
              obtain ⟨ht1, ht2, ht3⟩ := HCT.out.done (img := 0) (a := ⟨m0, m1, m2, m3, m4, m5, mp, .slice Cp mp.length ccp, mms, .slice Cm mms.length ccm⟩) ⟨by omega, by omega⟩ HF0.out
              have hks : Keeps S (89700 - 300 * i + 16 + 2 * (keysTold S ⟨4, 0⟩).length) := HKS.out.fewer (by have := HCS.out.keys 0; omega)
              have hkt : Keeps T (89700 - 300 * i + 16 + 2 * (keysTold T ⟨4, 0⟩).length) := HKT.out.fewer (by have := HCT.out.keys 0; omega)
              have hks2 := oursS_keeps (a := ⟨m0, m1, m2, m3, m4, m5, mp, .slice Cp mp.length ccp, mms, .slice Cm mms.length ccm⟩) hks
              have hkt2 := oursS_keeps (a := ⟨m0, m1, m2, m3, m4, m5, mp, .slice Cp mp.length ccp, mms, .slice Cm mms.length ccm⟩) hkt
              have hob := ours17_spec 0 ⟨m0, m1, m2, m3, m4, m5, mp, .slice Cp mp.length ccp, mms, .slice Cm mms.length ccm⟩ H6.out hks HMO6.out (by simp only; omega)
              obtain ⟨r1, hre1⟩ : ∃ r, oursS S 0 ⟨m0, m1, m2, m3, m4, m5, mp, .slice Cp mp.length ccp, mms, .slice Cm mms.length ccm⟩ = r := ⟨_, rfl⟩
              obtain ⟨r2, hre2⟩ : ∃ r, oursS T 0 ⟨m0, m1, m2, m3, m4, m5, mp, .slice Cp mp.length ccp, mms, .slice Cm mms.length ccm⟩ = r := ⟨_, rfl⟩
              have hpl : oursP (cview S 0) (keysAt S ⟨4, 0⟩) 0 ⟨m0, m1, m2, m3, m4, m5, mp, .slice Cp mp.length ccp, mms, .slice Cm mms.length ccm⟩ = oursP (cview T 0) (keysAt T ⟨4, 0⟩) 0 ⟨m0, m1, m2, m3, m4, m5, mp, .slice Cp mp.length ccp, mms, .slice Cm mms.length ccm⟩ := by
                rw [HSM.out.view, keys_same HCS.out.live.inv.keys HCT.out.live.inv.keys HSM.out]
              rw [hre1] at hr1 hr2 hr3 hks2 hob
              rw [hre2] at ht1 ht2 ht3 hkt2
              have HRE2 := Lib.hid hre2
              obtain ⟨e1, S1⟩ := r1
              obtain ⟨e2, T1⟩ := r2
              simp only at hr1 ht1
              subst hr1 ht1
              have hsm2 : SameImg 0 S1 T1 := fun k hk4 hk0 => by
                have q1 := congrFun hr3 k
                have q2 := congrFun ht3 k
                unfold viewOf at q1 q2
                simp only at q1 q2
                rw [q1, q2, hpl]
                by_cases hk : k.kind = 4
                · exact viewExec_pair (ours_img _ _ _ _) (ours_kind _ _ _ _) (fun k' h1 h2 => HSM.out k' h1 h2) k hk4 hk0
                · exact absurd hk4 hk
              simp only [A17.val] at hob
              have HOB := Lib.hid hob
              have HKT0 := Lib.hid hkt
              have HS1 := Lib.hid hr2
              have HT1 := Lib.hid ht2
              have HKS2 := Lib.hid hks2
              have HKT2 := Lib.hid hkt2
              have HSM2 := Lib.hid hsm2
              clear hob hkt hr2 ht2 hks2 hkt2 hsm2 hr3 ht3 hre1 hre2 hks hpl
              go_wp2_with fail
              refine HOB.out.mono ?_
              rintro e w7 ⟨I7, hs7, rfl, h7⟩
              obtain ⟨z0, z1, z2, z3, z4, z5, z6, z7⟩ := act_cells h7 (hs7 _ _ HI6.out)
              have hob := ours17_spec 0 ⟨m0, m1, m2, m3, m4, m5, mp, .slice Cp mp.length ccp, mms, .slice Cm mms.length ccm⟩ (h7.pull 1 _ rfl) HKT0.out (A17.ok_mono HMO6.out hs7) (by simp only; omega)
              rw [HRE2.out] at hob
              simp only [A17.val] at hob
              have HOB2 := Lib.hid hob
              have HS7 := Lib.hid (HS6.out.trans hs7)
              clear hob h7 hs7 HOB
              go_wp2_with fail
              refine HOB2.out.mono ?_
              rintro e w8 ⟨I8, hs8, rfl, h8⟩
              have H8 := Lib.hid (h8.pull 1 _ rfl)
              have HS8 := Lib.hid (HS7.out.trans hs8)
              clear h8 hs8 z0 z1 z2 z3 z4 z5 z6 z7
              go_wp2_with fail
              go_roundw
              case rel => exact ⟨i + 1, S1, T1, I8, by go_num, by omega, HS1.out, HT1.out, HKS2.out.fewer (by omega), HKT2.out.fewer (by omega), HSM2.out, HS8.out, H8.out⟩
              case measure => simp [intOf]; omega
            · have hod : (i : Int) % 2 = 1 := by omega
              rw [hod] at hand
              obtain ⟨hr1, hr2, hr3⟩ := HCS.out.done (img := 1) (a := ⟨m0, m1, m2, m3, m4, m5, mp, .slice Cp mp.length ccp, mms, .slice Cm mms.length ccm⟩) ⟨by omega, by omega⟩ HF1.out
              have hks : Keeps S (89700 - 300 * i + 16 + 2 * (keysTold S ⟨4, 1⟩).length) := HKS.out.fewer (by have := HCS.out.keys 1; omega)
              have hks2 := oursS_keeps (a := ⟨m0, m1, m2, m3, m4, m5, mp, .slice Cp mp.length ccp, mms, .slice Cm mms.length ccm⟩) hks
              have hob := ours17_spec 1 ⟨m0, m1, m2, m3, m4, m5, mp, .slice Cp mp.length ccp, mms, .slice Cm mms.length ccm⟩ H6.out hks HMO6.out (by simp only; omega)
              obtain ⟨r1, hre1⟩ : ∃ r, oursS S 1 ⟨m0, m1, m2, m3, m4, m5, mp, .slice Cp mp.length ccp, mms, .slice Cm mms.length ccm⟩ = r := ⟨_, rfl⟩
              rw [hre1] at hr1 hr2 hr3 hks2 hob
              obtain ⟨e1, S1⟩ := r1
              simp only at hr1
              subst hr1
              have hsm2 : SameImg 0 S1 T := fun k hk4 hk0 => by
                have q1 := congrFun hr3 k
                unfold viewOf at q1
                simp only at q1
                rw [q1, viewExec_other (ours_img _ _ _ _) k (by omega)]
                exact HSM.out k hk4 hk0
              simp only [A17.val] at hob
              have HOB := Lib.hid hob
              have HS1 := Lib.hid hr2
              have HKS2 := Lib.hid hks2
              have HSM2 := Lib.hid hsm2
              clear hob hr2 hks2 hsm2 hr3 hre1 hks
              go_wp2_with fail
              refine HOB.out.mono ?_
              rintro e w7 ⟨I7, hs7, rfl, h7⟩
              have H7 := Lib.hid h7
              have HS7 := Lib.hid (HS6.out.trans hs7)
              clear h7 hs7 HOB z0 z1 z2 z3 z4 z5 z6 z7
              go_wp2_with fail
              go_roundw
              case rel => exact ⟨i + 1, S1, T, I7, by go_num, by omega, HS1.out, HCT.out, HKS2.out.fewer (by omega), HKT.out.fewer (by omega), HSM2.out, HS7.out, H7.out⟩
              case measure => simp [intOf]; omega
          · obtain rfl : i = ls.length := by omega
            have HST := Lib.hid hst
            have HCS := Lib.hid hcS
            have HCT := Lib.hid hcT
            have HKS := Lib.hid hkS
            have HKT := Lib.hid hkT
            have HSM := Lib.hid hsm
            have HI1 := Lib.hid hI1
            clear hst hcS hcT hkS hkT hsm hI1
            go_upto_region 12 with fail
            refine images_reads (by assumption) (by kernel_rfl) HST.out HCS.out HCT.out HKS.out.inv HKT.out.inv HSM.out ?_
            intro y0 y2 y3 y4 y6 y9 y10 y11 y12 y13 y14 y15 y16 y17 y18 y19 y20 y21 y22 y23 y24 y25 y26 y27 y28 y29 y30 y31 y32 y33 y34 y35 y36 y37 y38 y39 y40 y41 y42 y43 y44 y45 y46 y47 y48 y49 y50 y51 y52 y53 y54 y55 y56 y57 y58 y59 y60 y61 y62 y63 y64 y65 y66 y67 y68 y69 y70 y71 y72 y73 y74 y75 y76 y77 y78 y79 y80 y81 y82 y83 y84 y85 y86 y87 y88 y89 y90 y91 y92 y93 y94 y95 y96 y97 y98 y99 y100 y101 y102 y103 y104 y105 y106 y107 y108 y109 y110 y111 y112 y113 y114 y115 y116 y117 y118 y119 y120 y121 y122 y123 y124 y125 y126 y127 y128 y129 y130 y131 y132 y133 y134 y135 y136 y137 y138 y139 y140 y141 y142 y143 y144 y145 y146 y147 y148 y149 y150 y151 y152 y153 y154 y155 y156 y157 y158 y159 y160 y161 y162 y163 y164 y165 y166 y167 y168 y169 I3 w3 hs3 h3
            have H3 := Lib.hid h3
            have HS3 := Lib.hid (HI1.out.trans hs3)
            clear h3 hs3
            go_upto_region 22 with fail
            refine images_end (m := 1000) (by assumption) (by kernel_rfl) img ⟨a0, a1, a2, a3, a4, a5, ap, .slice Ap ap.length cp, ams, .slice Am ams.length cm⟩ H3.out (HKS.out.fewer (by omega)) HCS.out (HS3.out _ _ HI0.out) (A17.ok_mono HAK.out (HS0.out.trans HS3.out)) (by simp only; omega) ?_
            intros
            go_ret
            exact ⟨rfl, by assumption⟩
end Go.Proofs.Ytbepmbcbcklmlaa
