/- hectographlaw3: deed, of two stores that have nothing to do with one another. -/
import Derived.Test.YtagljjhfkhadpaaGreatPlays3
set_option linter.unusedSimpArgs false
set_option linter.unusedVariables false
set_option linter.unusedSectionVars false
namespace Go.Proofs.YtagljjhfkhadpaaGreat
open Go.RowKit
section
variable {W w : World} {I : Hp} {l : List HP} {p q : Nat} {S : Str} {R : RS}
set_option maxRecDepth 4000
set_option maxHeartbeats 8000000
theorem deed7g_spec (a : A3) {m c : Nat} (h0 : a.what = 7) (h : St W I w (storeHP p S :: refHP q R :: l)) (hk : Keeps S m) (hi : RInv R c) (hc : c + 1 ≤ 100000) (ha : a.ok I) (hpl : a.p.length ≤ 60) :
    Calls Tryz.prog 10 #[.pointer (some ⟨p, 0, none⟩), .pointer (some ⟨q, 0, none⟩), a.val] w fun e w' => ∃ (I' : Hp) (b : Bool), I.sub I' ∧ e = .returned (.bool b) ∧ St W I' w' (storeHP p S :: refHP q R :: l) := by
  have hky := akey_spec a
  obtain ⟨a0, a1, a2, a3, a4, ⟨j0, j1, j2, j3⟩, ap, av, an, ak, akv⟩ := a
  simp only at h0
  subst h0
  obtain ⟨hpv, _, _, hkv, _⟩ := ha
  simp only at hpv hkv hpl
  have HPV0 := Lib.hid hpv
  obtain ⟨A1, c1, rfl, _⟩ := hpv
  obtain ⟨A2, c2, rfl, _⟩ := hkv
  obtain ⟨K, hK⟩ : ∃ K, A3.key ⟨7, a1, a2, a3, a4, ⟨j0, j1, j2, j3⟩, ap, .slice A1 ap.length c1, an, ak, .slice A2 ak.length c2⟩ = K := ⟨_, rfl⟩
  rw [hK] at hky
  obtain ⟨I1, hs1, hI1, h1⟩ := (h.alloc (.cells #[.int .i64 7, .int .i64 a1, .int .i64 a2, .int .i64 a3, .bool a4, .int .i64 j0, .int .i64 j1, .int .i64 j2, .int .i64 j3, .slice A1 ap.length c1, .string an, .slice A2 ak.length c2] 34)).freeze
  have H1 := Lib.hid h1
  have HS1 := Lib.hid hs1
  have HI1 := Lib.hid hI1
  have HKEY := Lib.hid hky
  have HK := Lib.hid hk
  have HI := Lib.hid hi
  simp only [A3.val] at HKEY ⊢
  clear h h1 hs1 hI1 hky hk hi hK
  go_enter Tryz.func10, Tryz.ntmps10
  go_wp2_with fail
  refine (HKEY.out _).mono ?_
  rintro e w2 ⟨rfl, hb2⟩
  obtain ⟨k0, k1, k2, k3⟩ := K
  have h2 := H1.out.keep hb2
  obtain ⟨I2, hs2, hI2, h2⟩ := (h2.alloc (.cells #[.int .i64 k0, .int .i64 k1, .int .i64 k2, .int .i64 k3] 30)).freeze
  have e0 : w2.cell? ⟨w.heap.size, 0, none⟩ = some (.int .i64 7) := St.imm_cell (H1.out.keep hb2) HI1.out 0
  have hlt0 := (H1.out.keep hb2).imm_lt HI1.out
  simp only [K4.val]
  go_upto_region 18 with fail
  obtain ⟨g5, hg5⟩ : ∃ x, x = w.heap.size := ⟨_, rfl⟩
  obtain ⟨g7, hg7⟩ : ∃ x, x = w2.heap.size := ⟨_, rfl⟩
  obtain ⟨w3, hw3⟩ : ∃ x, x = w2.alloc (.cells #[.int .i64 k0, .int .i64 k1, .int .i64 k2, .int .i64 k3] 30) := ⟨_, rfl⟩
  rw [← hw3] at h2 ⊢
  rw [← hg7] at hI2 ⊢
  have hI5 := hs2 _ _ HI1.out
  rw [← hg5] at hI5 ⊢
  have HS2 := Lib.hid (HS1.out.trans hs2)
  have HI5 := Lib.hid hI5
  have HI7 := Lib.hid hI2
  have H2 := Lib.hid h2
  clear h2 hs2 hI2 hI5 hg5 hg7 hw3 e0 hlt0 hb2 HKEY H1
  obtain ⟨x0, x1, x2, x3⟩ := imm_cells4 H2.out HI7.out
  have e2 : w3.cell? ⟨g5, 2, none⟩ = some (.int .i64 a2) := St.imm_cell H2.out HI5.out 2
  have e3 : w3.cell? ⟨g5, 3, none⟩ = some (.int .i64 a3) := St.imm_cell H2.out HI5.out 3
  have hsp := read_spec ⟨k0, k1, k2, k3⟩ a2 a3 H2.out HK.out.inv
  simp only [K4.val] at hsp
  have HSP := Lib.hid hsp
  clear hsp
  go_wp2_with fail
  refine HSP.out.mono ?_
  rintro e w4 ⟨hb4, v, rfl, ho⟩
  obtain ⟨A4, c4, rfl⟩ := is_slice ho
  have h4 := H2.out.row_fresh hb4 ho
  have HI54 := HI5
  have HI74 := HI7
  have f0 : w4.cell? ⟨g7, 0, none⟩ = some (.int .i64 k0) := (imm_cells4 h4 HI74.out).1
  have f1 : w4.cell? ⟨g7, 1, none⟩ = some (.int .i64 k1) := (imm_cells4 h4 HI74.out).2.1
  have f2 : w4.cell? ⟨g7, 2, none⟩ = some (.int .i64 k2) := (imm_cells4 h4 HI74.out).2.2.1
  have f3 : w4.cell? ⟨g7, 3, none⟩ = some (.int .i64 k3) := (imm_cells4 h4 HI74.out).2.2.2
  have d2 : w4.cell? ⟨g5, 2, none⟩ = some (.int .i64 a2) := St.imm_cell h4 HI54.out 2
  have d3 : w4.cell? ⟨g5, 3, none⟩ = some (.int .i64 a3) := St.imm_cell h4 HI54.out 3
  have hsq := read3_spec ⟨k0, k1, k2, k3⟩ a2 a3 ((h4.pull 2 _ rfl)) HI.out
  simp only [K4.val] at hsq
  have HSQ := Lib.hid hsq
  clear hsq x0 x1 x2 x3 e2 e3 hb4 ho HSP
  obtain ⟨P, hP⟩ : ∃ P, readS S ⟨k0, k1, k2, k3⟩ a2 a3 = P := ⟨_, rfl⟩
  rw [hP] at HSQ h4 ⊢
  obtain ⟨P2, hP2⟩ : ∃ P2, rread R ⟨k0, k1, k2, k3⟩ a2 a3 = P2 := ⟨_, rfl⟩
  rw [hP2] at HSQ
  have H4 := Lib.hid h4
  clear h4 hP
  go_wp2_with fail
  refine HSQ.out.mono ?_
  rintro e w5 ⟨I5, v5, hs5, rfl, hb5, h5⟩
  obtain ⟨A5, c5, rfl⟩ := BytesI.slice hb5
  have hcv := src_string (xs := P2.1) (bytes_src h5 hb5)
  have hcw := src_string (xs := P.1) ((h5.pull 1 _ rfl).row_src (bytes_one P.1))
  have H5 := Lib.hid h5
  have HS5 := Lib.hid (HS2.out.trans hs5)
  clear hb5 h5 hs5 HSQ f0 f1 f2 f3 d2 d3
  obtain ⟨s1, hs1⟩ : ∃ s, strOfNums P.1 = s := ⟨_, rfl⟩
  obtain ⟨s2, hs2'⟩ : ∃ s, strOfNums P2.1 = s := ⟨_, rfl⟩
  rw [hs1] at hcw
  rw [hs2'] at hcv
  clear hs1 hs2'
  by_cases hss : s1 = s2
  · subst hss
    go_wp2_with fail
    go_ret
    exact ⟨I5, _, HS5.out, rfl, ((H5.out.pull 1 _ rfl).drop.perm (List.Perm.swap _ _ _))⟩
  · have hb1 : (s1 == s2) = false := by rw [bytes_beq']; exact decide_eq_false hss
    have hb2 : (s1.toList == s2.toList) = false := by simp; exact fun q => hss (toList_inj q)
    go_wp2_with fail
    go_ret
    exact ⟨I5, _, HS5.out, rfl, ((H5.out.pull 1 _ rfl).drop.perm (List.Perm.swap _ _ _))⟩
theorem deed8g_spec (a : A3) {m c : Nat} (h0 : a.what = 8) (h : St W I w (storeHP p S :: refHP q R :: l)) (hk : Keeps S m) (hi : RInv R c) (hc : c + 1 ≤ 100000) (ha : a.ok I) (hpl : a.p.length ≤ 60) :
    Calls Tryz.prog 10 #[.pointer (some ⟨p, 0, none⟩), .pointer (some ⟨q, 0, none⟩), a.val] w fun e w' => ∃ (I' : Hp) (b : Bool), I.sub I' ∧ e = .returned (.bool b) ∧ St W I' w' (storeHP p S :: refHP q R :: l) := by
  have hky := akey_spec a
  obtain ⟨a0, a1, a2, a3, a4, ⟨j0, j1, j2, j3⟩, ap, av, an, ak, akv⟩ := a
  simp only at h0
  subst h0
  obtain ⟨hpv, _, _, hkv, _⟩ := ha
  simp only at hpv hkv hpl
  have HPV0 := Lib.hid hpv
  obtain ⟨A1, c1, rfl, _⟩ := hpv
  obtain ⟨A2, c2, rfl, _⟩ := hkv
  obtain ⟨K, hK⟩ : ∃ K, A3.key ⟨8, a1, a2, a3, a4, ⟨j0, j1, j2, j3⟩, ap, .slice A1 ap.length c1, an, ak, .slice A2 ak.length c2⟩ = K := ⟨_, rfl⟩
  rw [hK] at hky
  obtain ⟨I1, hs1, hI1, h1⟩ := (h.alloc (.cells #[.int .i64 8, .int .i64 a1, .int .i64 a2, .int .i64 a3, .bool a4, .int .i64 j0, .int .i64 j1, .int .i64 j2, .int .i64 j3, .slice A1 ap.length c1, .string an, .slice A2 ak.length c2] 34)).freeze
  have H1 := Lib.hid h1
  have HS1 := Lib.hid hs1
  have HI1 := Lib.hid hI1
  have HKEY := Lib.hid hky
  have HK := Lib.hid hk
  have HI := Lib.hid hi
  simp only [A3.val] at HKEY ⊢
  clear h h1 hs1 hI1 hky hk hi hK
  go_enter Tryz.func10, Tryz.ntmps10
  go_wp2_with fail
  refine (HKEY.out _).mono ?_
  rintro e w2 ⟨rfl, hb2⟩
  obtain ⟨k0, k1, k2, k3⟩ := K
  have h2 := H1.out.keep hb2
  obtain ⟨I2, hs2, hI2, h2⟩ := (h2.alloc (.cells #[.int .i64 k0, .int .i64 k1, .int .i64 k2, .int .i64 k3] 30)).freeze
  have e0 : w2.cell? ⟨w.heap.size, 0, none⟩ = some (.int .i64 8) := St.imm_cell (H1.out.keep hb2) HI1.out 0
  have hlt0 := (H1.out.keep hb2).imm_lt HI1.out
  simp only [K4.val]
  go_upto_region 22 with fail
  obtain ⟨g5, hg5⟩ : ∃ x, x = w.heap.size := ⟨_, rfl⟩
  obtain ⟨g7, hg7⟩ : ∃ x, x = w2.heap.size := ⟨_, rfl⟩
  obtain ⟨w3, hw3⟩ : ∃ x, x = w2.alloc (.cells #[.int .i64 k0, .int .i64 k1, .int .i64 k2, .int .i64 k3] 30) := ⟨_, rfl⟩
  rw [← hw3] at h2 ⊢
  rw [← hg7] at hI2 ⊢
  have hI5 := hs2 _ _ HI1.out
  rw [← hg5] at hI5 ⊢
  have HS2 := Lib.hid (HS1.out.trans hs2)
  have HI5 := Lib.hid hI5
  have HI7 := Lib.hid hI2
  have H2 := Lib.hid h2
  clear h2 hs2 hI2 hI5 hg5 hg7 hw3 e0 hlt0 hb2 HKEY H1
  obtain ⟨x0, x1, x2, x3⟩ := imm_cells4 H2.out HI7.out
  have e10 : w3.cell? ⟨g5, 10, none⟩ = some (.string an) := St.imm_cell H2.out HI5.out 10
  have hsp := attr_spec ⟨k0, k1, k2, k3⟩ an H2.out HK.out.inv
  simp only [K4.val] at hsp
  have HSP := Lib.hid hsp
  clear hsp
  go_wp2_with fail
  refine HSP.out.mono ?_
  rintro e w4 ⟨hb4, v, rfl, ho⟩
  obtain ⟨A4, c4, rfl⟩ := is_slice ho
  have h4 := H2.out.row_fresh hb4 ho
  have HI54 := HI5
  have HI74 := HI7
  have f0 : w4.cell? ⟨g7, 0, none⟩ = some (.int .i64 k0) := (imm_cells4 h4 HI74.out).1
  have f1 : w4.cell? ⟨g7, 1, none⟩ = some (.int .i64 k1) := (imm_cells4 h4 HI74.out).2.1
  have f2 : w4.cell? ⟨g7, 2, none⟩ = some (.int .i64 k2) := (imm_cells4 h4 HI74.out).2.2.1
  have f3 : w4.cell? ⟨g7, 3, none⟩ = some (.int .i64 k3) := (imm_cells4 h4 HI74.out).2.2.2
  have d10 : w4.cell? ⟨g5, 10, none⟩ = some (.string an) := St.imm_cell h4 HI54.out 10
  have hsq := attr3_spec ⟨k0, k1, k2, k3⟩ an ((h4.pull 2 _ rfl)) HI.out
  simp only [K4.val] at hsq
  have HSQ := Lib.hid hsq
  clear hsq x0 x1 x2 x3 e10 hb4 ho HSP
  obtain ⟨P, hP⟩ : ∃ P, attrS S ⟨k0, k1, k2, k3⟩ an = P := ⟨_, rfl⟩
  rw [hP] at HSQ h4 ⊢
  obtain ⟨P2, hP2⟩ : ∃ P2, rattr R ⟨k0, k1, k2, k3⟩ an = P2 := ⟨_, rfl⟩
  rw [hP2] at HSQ
  have H4 := Lib.hid h4
  clear h4 hP
  go_wp2_with fail
  refine HSQ.out.mono ?_
  rintro e w5 ⟨I5, v5, hs5, rfl, hb5, h5⟩
  obtain ⟨A5, c5, rfl⟩ := BytesI.slice hb5
  have hcv := src_string (xs := P2.1) (bytes_src h5 hb5)
  have hcw := src_string (xs := P.1) ((h5.pull 1 _ rfl).row_src (bytes_one P.1))
  have H5 := Lib.hid h5
  have HS5 := Lib.hid (HS2.out.trans hs5)
  clear hb5 h5 hs5 HSQ f0 f1 f2 f3 d10
  obtain ⟨s1, hs1⟩ : ∃ s, strOfNums P.1 = s := ⟨_, rfl⟩
  obtain ⟨s2, hs2'⟩ : ∃ s, strOfNums P2.1 = s := ⟨_, rfl⟩
  rw [hs1] at hcw
  rw [hs2'] at hcv
  clear hs1 hs2'
  by_cases hss : s1 = s2
  · subst hss
    go_wp2_with fail
    go_ret
    exact ⟨I5, _, HS5.out, rfl, ((H5.out.pull 1 _ rfl).drop.perm (List.Perm.swap _ _ _))⟩
  · have hb1 : (s1 == s2) = false := by rw [bytes_beq']; exact decide_eq_false hss
    have hb2 : (s1.toList == s2.toList) = false := by simp; exact fun q => hss (toList_inj q)
    go_wp2_with fail
    go_ret
    exact ⟨I5, _, HS5.out, rfl, ((H5.out.pull 1 _ rfl).drop.perm (List.Perm.swap _ _ _))⟩
theorem deed10g_spec (a : A3) {m c : Nat} (h0 : a.what = 10) (h : St W I w (storeHP p S :: refHP q R :: l)) (hk : Keeps S m) (hi : RInv R c) (hc : c + 1 ≤ 100000) (ha : a.ok I) (hpl : a.p.length ≤ 60) :
    Calls Tryz.prog 10 #[.pointer (some ⟨p, 0, none⟩), .pointer (some ⟨q, 0, none⟩), a.val] w fun e w' => ∃ (I' : Hp) (b : Bool), I.sub I' ∧ e = .returned (.bool b) ∧ St W I' w' (storeHP p (powerS S) :: refHP q { R with off := false } :: l) := by
  have hky := akey_spec a
  obtain ⟨a0, a1, a2, a3, a4, ⟨j0, j1, j2, j3⟩, ap, av, an, ak, akv⟩ := a
  simp only at h0
  subst h0
  obtain ⟨hpv, _, _, hkv, _⟩ := ha
  simp only at hpv hkv hpl
  have HPV0 := Lib.hid hpv
  obtain ⟨A1, c1, rfl, _⟩ := hpv
  obtain ⟨A2, c2, rfl, _⟩ := hkv
  obtain ⟨K, hK⟩ : ∃ K, A3.key ⟨10, a1, a2, a3, a4, ⟨j0, j1, j2, j3⟩, ap, .slice A1 ap.length c1, an, ak, .slice A2 ak.length c2⟩ = K := ⟨_, rfl⟩
  rw [hK] at hky
  obtain ⟨I1, hs1, hI1, h1⟩ := (h.alloc (.cells #[.int .i64 10, .int .i64 a1, .int .i64 a2, .int .i64 a3, .bool a4, .int .i64 j0, .int .i64 j1, .int .i64 j2, .int .i64 j3, .slice A1 ap.length c1, .string an, .slice A2 ak.length c2] 34)).freeze
  have H1 := Lib.hid h1
  have HS1 := Lib.hid hs1
  have HI1 := Lib.hid hI1
  have HKEY := Lib.hid hky
  have HK := Lib.hid hk
  have HI := Lib.hid hi
  simp only [A3.val] at HKEY ⊢
  clear h h1 hs1 hI1 hky hk hi hK
  go_enter Tryz.func10, Tryz.ntmps10
  go_wp2_with fail
  refine (HKEY.out _).mono ?_
  rintro e w2 ⟨rfl, hb2⟩
  obtain ⟨k0, k1, k2, k3⟩ := K
  have h2 := H1.out.keep hb2
  obtain ⟨I2, hs2, hI2, h2⟩ := (h2.alloc (.cells #[.int .i64 k0, .int .i64 k1, .int .i64 k2, .int .i64 k3] 30)).freeze
  have e0 : w2.cell? ⟨w.heap.size, 0, none⟩ = some (.int .i64 10) := St.imm_cell (H1.out.keep hb2) HI1.out 0
  have hlt0 := (H1.out.keep hb2).imm_lt HI1.out
  simp only [K4.val]
  go_upto_region 28 with fail
  obtain ⟨g5, hg5⟩ : ∃ x, x = w.heap.size := ⟨_, rfl⟩
  obtain ⟨g7, hg7⟩ : ∃ x, x = w2.heap.size := ⟨_, rfl⟩
  obtain ⟨w3, hw3⟩ : ∃ x, x = w2.alloc (.cells #[.int .i64 k0, .int .i64 k1, .int .i64 k2, .int .i64 k3] 30) := ⟨_, rfl⟩
  rw [← hw3] at h2 ⊢
  rw [← hg7] at hI2 ⊢
  have hI5 := hs2 _ _ HI1.out
  rw [← hg5] at hI5 ⊢
  have HS2 := Lib.hid (HS1.out.trans hs2)
  have HI5 := Lib.hid hI5
  have HI7 := Lib.hid hI2
  have H2 := Lib.hid h2
  clear h2 hs2 hI2 hI5 hg5 hg7 hw3 e0 hlt0 hb2 HKEY H1
  clear HI5 HI7
  have hsp := power_spec H2.out
  have HSP := Lib.hid hsp
  clear hsp
  go_wp2_with fail
  refine HSP.out.mono ?_
  rintro e w4 ⟨rfl, h4⟩
  have hsq := power3_spec (h4.pull 1 _ rfl)
  have HSQ := Lib.hid hsq
  clear hsq h4 HSP
  go_wp2_with fail
  refine HSQ.out.mono ?_
  rintro e w6 ⟨rfl, h6⟩
  have H6 := Lib.hid (h6.pull 1 _ rfl)
  clear h6 HSQ
  go_wp2_with fail
  go_ret
  exact ⟨I2, _, HS2.out, rfl, H6.out⟩
theorem deedG_spec (a : A3) {m c : Nat} (h : St W I w (storeHP p S :: refHP q R :: l)) (hk : Keeps S (m + 2)) (hi : RInv R c) (tn : R.torn ≤ 9223372036854775807) (hc : c + 1 < 2000) (ha : a.ok I) (hpl : a.p.length ≤ 60) (hkl : a.keep.length ≤ 20) :
    Calls Tryz.prog 10 #[.pointer (some ⟨p, 0, none⟩), .pointer (some ⟨q, 0, none⟩), a.val] w fun e w' => ∃ (I' : Hp) (b : Bool), I.sub I' ∧ e = .returned (.bool b) ∧ St W I' w' (storeHP p (stepS S a) :: refHP q (stepR R a) :: l) := by
  have hin : isInt a.n := ha.2.2.2.2.2.2.2.2
  by_cases h7 : 0 ≤ a.what ∧ a.what < 7
  · have e1 : stepS S a = (actS S a).2 := by unfold stepS; rw [if_neg (by omega), if_neg (by omega), if_neg (by omega)]
    have e2 : stepR R a = (actR R a).2 := by unfold stepR; rw [if_neg (by omega), if_neg (by omega), if_neg (by omega), if_pos h7]
    rw [e1, e2]
    refine (deed_spec a h7 h hk hi (by omega) ha hpl (fun w2 I2 l2 _ h2 => burn3_spec h2 hi tn)).mono ?_
    rintro e w' ⟨I', hs, rfl, h2⟩
    exact ⟨I', _, hs, rfl, h2⟩
  · have hno : a.what = 7 ∨ a.what = 8 ∨ a.what = 9 ∨ a.what = 10 ∨ a.what = 11 ∨ (a.what < 0 ∨ 11 < a.what) := by omega
    have eS : a.what ≠ 9 → a.what ≠ 10 → a.what ≠ 11 → stepS S a = S ∧ stepR R a = R := fun n9 n10 n11 => by
      unfold stepS stepR
      rw [if_neg n9, if_neg n10, if_neg n11, if_neg n9, if_neg n10, if_neg n11, if_neg h7, actS_none (by omega)]
      exact ⟨rfl, rfl⟩
    rcases hno with e | e | e | e | e | e
    · obtain ⟨e1, e2⟩ := eS (by omega) (by omega) (by omega)
      rw [e1, e2]
      exact deed7g_spec a e h hk hi (by omega) ha hpl
    · obtain ⟨e1, e2⟩ := eS (by omega) (by omega) (by omega)
      rw [e1, e2]
      exact deed8g_spec a e h hk hi (by omega) ha hpl
    · have e1 : stepS S a = (fallS S a.keep a.n).1 := by unfold stepS; rw [if_pos e]
      have e2 : stepR R a = (rfall R a.keep a.n).1 := by unfold stepR; rw [if_pos e]
      rw [e1, e2]
      refine (deed9_spec a e h hk hi (by omega) ha hpl hkl (by unfold isInt at hin; omega)).mono ?_
      rintro e w' ⟨I', hs, rfl, h2⟩
      exact ⟨I', _, hs, rfl, h2⟩
    · have e1 : stepS S a = powerS S := by unfold stepS; rw [if_neg (by omega), if_pos e]
      have e2 : stepR R a = { R with off := false } := by unfold stepR; rw [if_neg (by omega), if_pos e]
      rw [e1, e2]
      exact deed10g_spec a e h hk hi (by omega) ha hpl
    · have e1 : stepS S a = fuseS S a.off a.keep a.n := by unfold stepS; rw [if_neg (by omega), if_neg (by omega), if_pos e]
      have e2 : stepR R a = rfuse R a.off a.keep a.n := by unfold stepR; rw [if_neg (by omega), if_neg (by omega), if_pos e]
      rw [e1, e2]
      refine (deed11_spec a e h hk hi (by omega) ha hpl hkl).mono ?_
      rintro e w' ⟨I', hs, rfl, h2⟩
      exact ⟨I', _, hs, rfl, h2⟩
    · obtain ⟨e1, e2⟩ := eS (by omega) (by omega) (by omega)
      rw [e1, e2]
      refine (deedN_spec a e h hk hi (by omega) ha hpl).mono ?_
      rintro e w' ⟨I', hs, rfl, h2⟩
      exact ⟨I', _, hs, rfl, h2⟩
end
/-- What two stores keep that have nothing to do with one another. -/
structure KI (S : Str) (R : RS) (m c : Nat) : Prop where
  ks : Keeps S m
  ri : RInv R c
  tn : R.torn ≤ 9223372036854775807
theorem KI.step {S : Str} {R : RS} {m c : Nat} (h : KI S R (m + 2) c) (hc : c + 1 < 2000) (a : A3) (hp : a.p.length ≤ 60) (hk : a.keep.length ≤ 20) (hi : isInt a.off ∧ isInt a.n) : KI (stepS S a) (stepR R a) m (c + 1) := by
  have hin : a.n ≤ 9223372036854775807 := by have := hi.2; unfold isInt at this; omega
  have hio : a.off ≤ 9223372036854775807 := by have := hi.1; unfold isInt at this; omega
  unfold stepS stepR
  by_cases h9 : a.what = 9
  · rw [if_pos h9, if_pos h9]
    exact ⟨(fallS_keeps _ _ h.ks).fewer (by omega), (rfall_inv h.ri _ _).more (by omega) (by omega), by rw [rfall_torn]; exact h.tn⟩
  rw [if_neg h9, if_neg h9]
  by_cases h10 : a.what = 10
  · rw [if_pos h10, if_pos h10]
    exact ⟨(powerS_keeps h.ks).fewer (by omega), (rpower_inv h.ri).more (by omega) (by omega), h.tn⟩
  rw [if_neg h10, if_neg h10]
  by_cases h11 : a.what = 11
  · rw [if_pos h11, if_pos h11]
    exact ⟨(fuseS_keeps h.ks (by omega) hio).fewer (by omega), (rfuse_inv h.ri hio (by omega)).more (by omega) (by omega), hin⟩
  rw [if_neg h11, if_neg h11]
  by_cases h7 : 0 ≤ a.what ∧ a.what < 7
  · rw [if_pos h7]
    exact ⟨actS_keeps h.ks, actR_inv h.ri hp (by omega), by rw [actR_torn]; exact h.tn⟩
  · rw [if_neg h7, actS_none (by omega)]
    exact ⟨h.ks.fewer (by omega), h.ri.more (by omega) (by omega), h.tn⟩
theorem KI.fewer {S : Str} {R : RS} {m n c : Nat} (h : KI S R m c) (hn : n ≤ m) : KI S R n c := ⟨h.ks.fewer hn, h.ri, h.tn⟩
theorem fallS_dead (S : Str) (keep : List Int) (torn : Int) : (fallS S keep torn).1.on = false := by
  unfold fallS
  split
  · rfl
  · rename_i h; simpa using h
theorem rfall_dead (R : RS) (keep : List Int) (torn : Int) : (rfall R keep torn).1.off = true := by
  unfold rfall
  split
  · rename_i h; exact h
  · rfl
end Go.Proofs.YtagljjhfkhadpaaGreat
