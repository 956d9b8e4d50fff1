/- hectographlaw3: deed, acts 7 to 11, and what is no act. -/
import Derived.Test.YtagljjhfkhadpaaGreatDeeds
import Derived.Test.YtagljjhfkhadpaaGreatSame3
import Derived.Test.YtagljjhfkhadpaaGreatStr3
import Derived.Test.YtagljjhfkhadpaaGreatFuseC
set_option linter.unusedSimpArgs false
set_option linter.unusedVariables false
set_option linter.unusedSectionVars false
namespace Go.Proofs.YtagljjhfkhadpaaGreat
open Go.RowKit
section
variable {W w : World} {I : Hp} {l : List HP} {p q : Nat} {S : Str} {R : RS}
set_option maxRecDepth 4000
set_option maxHeartbeats 8000000
theorem deed7_spec (a : A3) {m c : Nat} (h0 : a.what = 7) (h : St W I w (storeHP p S :: refHP q R :: l)) (hk : Keeps S m) (hi : RInv R c) (hc : c + 1 ≤ 100000) (ha : a.ok I) (hpl : a.p.length ≤ 60) (hr : readS S a.key a.off a.n = rread R a.key a.off a.n) :
    Calls Tryz.prog 10 #[.pointer (some ⟨p, 0, none⟩), .pointer (some ⟨q, 0, none⟩), a.val] w fun e w' => ∃ I', I.sub I' ∧ e = .returned (.bool true) ∧ St W I' w' (storeHP p S :: refHP q R :: l) := by
  have hky := akey_spec a
  obtain ⟨a0, a1, a2, a3, a4, ⟨j0, j1, j2, j3⟩, ap, av, an, ak, akv⟩ := a
  simp only at h0
  subst h0
  obtain ⟨hpv, _, _, hkv, _⟩ := ha
  simp only at hpv hkv hpl
  have HPV0 := Lib.hid hpv
  obtain ⟨A1, c1, rfl, _⟩ := hpv
  obtain ⟨A2, c2, rfl, _⟩ := hkv
  obtain ⟨K, hK⟩ : ∃ K, A3.key ⟨7, a1, a2, a3, a4, ⟨j0, j1, j2, j3⟩, ap, .slice A1 ap.length c1, an, ak, .slice A2 ak.length c2⟩ = K := ⟨_, rfl⟩
  simp only at hr
  rw [hK] at hky hr
  obtain ⟨I1, hs1, hI1, h1⟩ := (h.alloc (.cells #[.int .i64 7, .int .i64 a1, .int .i64 a2, .int .i64 a3, .bool a4, .int .i64 j0, .int .i64 j1, .int .i64 j2, .int .i64 j3, .slice A1 ap.length c1, .string an, .slice A2 ak.length c2] 34)).freeze
  have H1 := Lib.hid h1
  have HS1 := Lib.hid hs1
  have HI1 := Lib.hid hI1
  have HKEY := Lib.hid hky
  have HK := Lib.hid hk
  have HI := Lib.hid hi
  have HR := Lib.hid hr
  simp only [A3.val] at HKEY ⊢
  clear h h1 hs1 hI1 hky hk hi hr hK
  go_enter Tryz.func10, Tryz.ntmps10
  go_wp2_with fail
  refine (HKEY.out _).mono ?_
  rintro e w2 ⟨rfl, hb2⟩
  obtain ⟨k0, k1, k2, k3⟩ := K
  have h2 := H1.out.keep hb2
  obtain ⟨I2, hs2, hI2, h2⟩ := (h2.alloc (.cells #[.int .i64 k0, .int .i64 k1, .int .i64 k2, .int .i64 k3] 30)).freeze
  have e0 : w2.cell? ⟨w.heap.size, 0, none⟩ = some (.int .i64 7) := St.imm_cell (H1.out.keep hb2) HI1.out 0
  have hlt0 := (H1.out.keep hb2).imm_lt HI1.out
  simp only [K4.val]
  go_upto_region 18 with fail
  obtain ⟨g5, hg5⟩ : ∃ x, x = w.heap.size := ⟨_, rfl⟩
  obtain ⟨g7, hg7⟩ : ∃ x, x = w2.heap.size := ⟨_, rfl⟩
  obtain ⟨w3, hw3⟩ : ∃ x, x = w2.alloc (.cells #[.int .i64 k0, .int .i64 k1, .int .i64 k2, .int .i64 k3] 30) := ⟨_, rfl⟩
  rw [← hw3] at h2 ⊢
  rw [← hg7] at hI2 ⊢
  have hI5 := hs2 _ _ HI1.out
  rw [← hg5] at hI5 ⊢
  have HS2 := Lib.hid (HS1.out.trans hs2)
  have HI5 := Lib.hid hI5
  have HI7 := Lib.hid hI2
  have H2 := Lib.hid h2
  clear h2 hs2 hI2 hI5 hg5 hg7 hw3 e0 hlt0 hb2 HKEY H1
  obtain ⟨x0, x1, x2, x3⟩ := imm_cells4 H2.out HI7.out
  have e2 : w3.cell? ⟨g5, 2, none⟩ = some (.int .i64 a2) := St.imm_cell H2.out HI5.out 2
  have e3 : w3.cell? ⟨g5, 3, none⟩ = some (.int .i64 a3) := St.imm_cell H2.out HI5.out 3
  have hsp := read_spec ⟨k0, k1, k2, k3⟩ a2 a3 H2.out HK.out.inv
  simp only [K4.val] at hsp
  have HSP := Lib.hid hsp
  clear hsp
  go_wp2_with fail
  refine HSP.out.mono ?_
  rintro e w4 ⟨hb4, v, rfl, ho⟩
  obtain ⟨A4, c4, rfl⟩ := is_slice ho
  have h4 := H2.out.row_fresh hb4 ho
  have HI54 := HI5
  have HI74 := HI7
  have f0 : w4.cell? ⟨g7, 0, none⟩ = some (.int .i64 k0) := (imm_cells4 h4 HI74.out).1
  have f1 : w4.cell? ⟨g7, 1, none⟩ = some (.int .i64 k1) := (imm_cells4 h4 HI74.out).2.1
  have f2 : w4.cell? ⟨g7, 2, none⟩ = some (.int .i64 k2) := (imm_cells4 h4 HI74.out).2.2.1
  have f3 : w4.cell? ⟨g7, 3, none⟩ = some (.int .i64 k3) := (imm_cells4 h4 HI74.out).2.2.2
  have d2 : w4.cell? ⟨g5, 2, none⟩ = some (.int .i64 a2) := St.imm_cell h4 HI54.out 2
  have d3 : w4.cell? ⟨g5, 3, none⟩ = some (.int .i64 a3) := St.imm_cell h4 HI54.out 3
  have hsq := read3_spec ⟨k0, k1, k2, k3⟩ a2 a3 ((h4.pull 2 _ rfl)) HI.out
  rw [← HR.out] at hsq
  simp only [K4.val] at hsq
  have HSQ := Lib.hid hsq
  clear hsq x0 x1 x2 x3 e2 e3 hb4 ho HSP
  obtain ⟨P, hP⟩ : ∃ P, readS S ⟨k0, k1, k2, k3⟩ a2 a3 = P := ⟨_, rfl⟩
  rw [hP] at HSQ h4 ⊢
  have H4 := Lib.hid h4
  clear h4 hP
  go_wp2_with fail
  refine HSQ.out.mono ?_
  rintro e w5 ⟨I5, v5, hs5, rfl, hb5, h5⟩
  obtain ⟨A5, c5, rfl⟩ := BytesI.slice hb5
  have hcv := src_string (bytes_src h5 hb5)
  have hcw := src_string (xs := P.1) ((h5.pull 1 _ rfl).row_src (bytes_one P.1))
  have H5 := Lib.hid h5
  have HS5 := Lib.hid (HS2.out.trans hs5)
  clear hb5 h5 hs5 HSQ f0 f1 f2 f3 d2 d3
  go_wp2_with fail
  go_ret
  refine ⟨I5, HS5.out, rfl, ?_⟩
  exact ((H5.out.pull 1 _ rfl).drop.perm (List.Perm.swap _ _ _))
theorem deed8_spec (a : A3) {m c : Nat} (h0 : a.what = 8) (h : St W I w (storeHP p S :: refHP q R :: l)) (hk : Keeps S m) (hi : RInv R c) (hc : c + 1 ≤ 100000) (ha : a.ok I) (hpl : a.p.length ≤ 60) (hr : attrS S a.key a.name = rattr R a.key a.name) :
    Calls Tryz.prog 10 #[.pointer (some ⟨p, 0, none⟩), .pointer (some ⟨q, 0, none⟩), a.val] w fun e w' => ∃ I', I.sub I' ∧ e = .returned (.bool true) ∧ St W I' w' (storeHP p S :: refHP q R :: l) := by
  have hky := akey_spec a
  obtain ⟨a0, a1, a2, a3, a4, ⟨j0, j1, j2, j3⟩, ap, av, an, ak, akv⟩ := a
  simp only at h0
  subst h0
  obtain ⟨hpv, _, _, hkv, _⟩ := ha
  simp only at hpv hkv hpl
  have HPV0 := Lib.hid hpv
  obtain ⟨A1, c1, rfl, _⟩ := hpv
  obtain ⟨A2, c2, rfl, _⟩ := hkv
  obtain ⟨K, hK⟩ : ∃ K, A3.key ⟨8, a1, a2, a3, a4, ⟨j0, j1, j2, j3⟩, ap, .slice A1 ap.length c1, an, ak, .slice A2 ak.length c2⟩ = K := ⟨_, rfl⟩
  simp only at hr
  rw [hK] at hky hr
  obtain ⟨I1, hs1, hI1, h1⟩ := (h.alloc (.cells #[.int .i64 8, .int .i64 a1, .int .i64 a2, .int .i64 a3, .bool a4, .int .i64 j0, .int .i64 j1, .int .i64 j2, .int .i64 j3, .slice A1 ap.length c1, .string an, .slice A2 ak.length c2] 34)).freeze
  have H1 := Lib.hid h1
  have HS1 := Lib.hid hs1
  have HI1 := Lib.hid hI1
  have HKEY := Lib.hid hky
  have HK := Lib.hid hk
  have HI := Lib.hid hi
  have HR := Lib.hid hr
  simp only [A3.val] at HKEY ⊢
  clear h h1 hs1 hI1 hky hk hi hr hK
  go_enter Tryz.func10, Tryz.ntmps10
  go_wp2_with fail
  refine (HKEY.out _).mono ?_
  rintro e w2 ⟨rfl, hb2⟩
  obtain ⟨k0, k1, k2, k3⟩ := K
  have h2 := H1.out.keep hb2
  obtain ⟨I2, hs2, hI2, h2⟩ := (h2.alloc (.cells #[.int .i64 k0, .int .i64 k1, .int .i64 k2, .int .i64 k3] 30)).freeze
  have e0 : w2.cell? ⟨w.heap.size, 0, none⟩ = some (.int .i64 8) := St.imm_cell (H1.out.keep hb2) HI1.out 0
  have hlt0 := (H1.out.keep hb2).imm_lt HI1.out
  simp only [K4.val]
  go_upto_region 22 with fail
  obtain ⟨g5, hg5⟩ : ∃ x, x = w.heap.size := ⟨_, rfl⟩
  obtain ⟨g7, hg7⟩ : ∃ x, x = w2.heap.size := ⟨_, rfl⟩
  obtain ⟨w3, hw3⟩ : ∃ x, x = w2.alloc (.cells #[.int .i64 k0, .int .i64 k1, .int .i64 k2, .int .i64 k3] 30) := ⟨_, rfl⟩
  rw [← hw3] at h2 ⊢
  rw [← hg7] at hI2 ⊢
  have hI5 := hs2 _ _ HI1.out
  rw [← hg5] at hI5 ⊢
  have HS2 := Lib.hid (HS1.out.trans hs2)
  have HI5 := Lib.hid hI5
  have HI7 := Lib.hid hI2
  have H2 := Lib.hid h2
  clear h2 hs2 hI2 hI5 hg5 hg7 hw3 e0 hlt0 hb2 HKEY H1
  obtain ⟨x0, x1, x2, x3⟩ := imm_cells4 H2.out HI7.out
  have e10 : w3.cell? ⟨g5, 10, none⟩ = some (.string an) := St.imm_cell H2.out HI5.out 10
  have hsp := attr_spec ⟨k0, k1, k2, k3⟩ an H2.out HK.out.inv
  simp only [K4.val] at hsp
  have HSP := Lib.hid hsp
  clear hsp
  go_wp2_with fail
  refine HSP.out.mono ?_
  rintro e w4 ⟨hb4, v, rfl, ho⟩
  obtain ⟨A4, c4, rfl⟩ := is_slice ho
  have h4 := H2.out.row_fresh hb4 ho
  have HI54 := HI5
  have HI74 := HI7
  have f0 : w4.cell? ⟨g7, 0, none⟩ = some (.int .i64 k0) := (imm_cells4 h4 HI74.out).1
  have f1 : w4.cell? ⟨g7, 1, none⟩ = some (.int .i64 k1) := (imm_cells4 h4 HI74.out).2.1
  have f2 : w4.cell? ⟨g7, 2, none⟩ = some (.int .i64 k2) := (imm_cells4 h4 HI74.out).2.2.1
  have f3 : w4.cell? ⟨g7, 3, none⟩ = some (.int .i64 k3) := (imm_cells4 h4 HI74.out).2.2.2
  have d10 : w4.cell? ⟨g5, 10, none⟩ = some (.string an) := St.imm_cell h4 HI54.out 10
  have hsq := attr3_spec ⟨k0, k1, k2, k3⟩ an ((h4.pull 2 _ rfl)) HI.out
  rw [← HR.out] at hsq
  simp only [K4.val] at hsq
  have HSQ := Lib.hid hsq
  clear hsq x0 x1 x2 x3 e10 hb4 ho HSP
  obtain ⟨P, hP⟩ : ∃ P, attrS S ⟨k0, k1, k2, k3⟩ an = P := ⟨_, rfl⟩
  rw [hP] at HSQ h4 ⊢
  have H4 := Lib.hid h4
  clear h4 hP
  go_wp2_with fail
  refine HSQ.out.mono ?_
  rintro e w5 ⟨I5, v5, hs5, rfl, hb5, h5⟩
  obtain ⟨A5, c5, rfl⟩ := BytesI.slice hb5
  have hcv := src_string (bytes_src h5 hb5)
  have hcw := src_string (xs := P.1) ((h5.pull 1 _ rfl).row_src (bytes_one P.1))
  have H5 := Lib.hid h5
  have HS5 := Lib.hid (HS2.out.trans hs5)
  clear hb5 h5 hs5 HSQ f0 f1 f2 f3 d10
  go_wp2_with fail
  go_ret
  refine ⟨I5, HS5.out, rfl, ?_⟩
  exact ((H5.out.pull 1 _ rfl).drop.perm (List.Perm.swap _ _ _))
theorem deed9_spec (a : A3) {m c : Nat} (h0 : a.what = 9) (h : St W I w (storeHP p S :: refHP q R :: l)) (hk : Keeps S m) (hi : RInv R c) (hc : c + 1 ≤ 100000) (ha : a.ok I) (hpl : a.p.length ≤ 60) (hkl : a.keep.length ≤ 20) (htn : a.n ≤ 9223372036854775807) :
    Calls Tryz.prog 10 #[.pointer (some ⟨p, 0, none⟩), .pointer (some ⟨q, 0, none⟩), a.val] w fun e w' => ∃ I', I.sub I' ∧ e = .returned (.bool ((fallS S a.keep a.n).2 == (rfall R a.keep a.n).2)) ∧ St W I' w' (storeHP p (fallS S a.keep a.n).1 :: refHP q (rfall R a.keep a.n).1 :: l) := by
  have hky := akey_spec a
  obtain ⟨a0, a1, a2, a3, a4, ⟨j0, j1, j2, j3⟩, ap, av, an, ak, akv⟩ := a
  simp only at h0
  subst h0
  obtain ⟨hpv, _, _, hkv, _⟩ := ha
  simp only at hpv hkv hpl hkl htn
  have HPV0 := Lib.hid hpv
  have HKV := Lib.hid hkv
  obtain ⟨A1, c1, rfl, _⟩ := hpv
  obtain ⟨A2, c2, rfl, _⟩ := hkv
  obtain ⟨K, hK⟩ : ∃ K, A3.key ⟨9, a1, a2, a3, a4, ⟨j0, j1, j2, j3⟩, ap, .slice A1 ap.length c1, an, ak, .slice A2 ak.length c2⟩ = K := ⟨_, rfl⟩
  rw [hK] at hky
  obtain ⟨I1, hs1, hI1, h1⟩ := (h.alloc (.cells #[.int .i64 9, .int .i64 a1, .int .i64 a2, .int .i64 a3, .bool a4, .int .i64 j0, .int .i64 j1, .int .i64 j2, .int .i64 j3, .slice A1 ap.length c1, .string an, .slice A2 ak.length c2] 34)).freeze
  have H1 := Lib.hid h1
  have HS1 := Lib.hid hs1
  have HI1 := Lib.hid hI1
  have HKEY := Lib.hid hky
  have HK := Lib.hid hk
  have HI := Lib.hid hi
  simp only [A3.val] at HKEY ⊢
  clear h h1 hs1 hI1 hky hk hi hK
  go_enter Tryz.func10, Tryz.ntmps10
  go_wp2_with fail
  refine (HKEY.out _).mono ?_
  rintro e w2 ⟨rfl, hb2⟩
  obtain ⟨k0, k1, k2, k3⟩ := K
  have h2 := H1.out.keep hb2
  obtain ⟨I2, hs2, hI2, h2⟩ := (h2.alloc (.cells #[.int .i64 k0, .int .i64 k1, .int .i64 k2, .int .i64 k3] 30)).freeze
  have e0 : w2.cell? ⟨w.heap.size, 0, none⟩ = some (.int .i64 9) := St.imm_cell (H1.out.keep hb2) HI1.out 0
  have hlt0 := (H1.out.keep hb2).imm_lt HI1.out
  simp only [K4.val]
  go_upto_region 26 with fail
  obtain ⟨g5, hg5⟩ : ∃ x, x = w.heap.size := ⟨_, rfl⟩
  obtain ⟨g7, hg7⟩ : ∃ x, x = w2.heap.size := ⟨_, rfl⟩
  obtain ⟨w3, hw3⟩ : ∃ x, x = w2.alloc (.cells #[.int .i64 k0, .int .i64 k1, .int .i64 k2, .int .i64 k3] 30) := ⟨_, rfl⟩
  rw [← hw3] at h2 ⊢
  rw [← hg7] at hI2 ⊢
  have hI5 := hs2 _ _ HI1.out
  rw [← hg5] at hI5 ⊢
  have HS2 := Lib.hid (HS1.out.trans hs2)
  have HI5 := Lib.hid hI5
  have HI7 := Lib.hid hI2
  have H2 := Lib.hid h2
  clear h2 hs2 hI2 hI5 hg5 hg7 hw3 e0 hlt0 hb2 HKEY H1
  have hsp := fall_spec (.slice A2 ak.length c2) ak a3 H2.out.drew ((intsIP _ _).mono HS2.out HKV.out) (by omega) (fun _ => HK.out.inv.fewer (by omega))
  have HSP := Lib.hid hsp
  clear hsp
  have e3 : w3.drew.cell? ⟨g5, 3, none⟩ = some (.int .i64 a3) := St.imm_cell H2.out.drew HI5.out 3
  have e11 : w3.drew.cell? ⟨g5, 11, none⟩ = some (.slice A2 ak.length c2) := St.imm_cell H2.out.drew HI5.out 11
  refine wp_region_keep (fun w' => w'.cell? ⟨g5, 3, none⟩ = some (.int .i64 a3) ∧ w'.cell? ⟨g5, 11, none⟩ = some (.slice A2 ak.length c2)) [0, 1, 2, 3, 4, 6, 7, 8, 9, 10] [5] [11, 12, 13] (by kernel_rfl) (by kernel_rfl) (by (exact ⟨e3, e11⟩)) ?_
  simp only [pickL, List.getElem?_cons_zero, List.getElem?_cons_succ]
  repeat (refine wpFirst_step _ (Or.inl ⟨by rfl, by (intro w hSw; (try dsimp only at hSw); go_simp; try with_reducible rfl)⟩) ?_; (try simp only [Act.put, List.setIfInBounds_toArray, List.set_cons_zero, List.set_cons_succ]))
  refine wpFirst_nil ?_
  unfold wpHold
  clear e3 e11
  go_wp2_with fail
  refine HSP.out.mono ?_
  rintro e w4 ⟨I4, hs4, rfl, h4⟩
  have HI54 := hs4 _ _ HI5.out
  have e3 : w4.cell? ⟨g5, 3, none⟩ = some (.int .i64 a3) := St.imm_cell h4 HI54 3
  have e11 : w4.cell? ⟨g5, 11, none⟩ = some (.slice A2 ak.length c2) := St.imm_cell h4 HI54 11
  have hsq := fall3_spec (.slice A2 ak.length c2) ak a3 (h4.pull 1 _ rfl) HI.out ((intsIP _ _).mono (HS2.out.trans hs4) HKV.out) (by omega) htn
  have HSQ := Lib.hid hsq
  have HS4 := Lib.hid (HS2.out.trans hs4)
  clear hsq HSP h4 hs4 HI54
  go_wp2_with fail
  refine holdPost_normal ⟨e3, e11⟩ ?_
  unfold wpHold
  go_wp2_with fail
  refine HSQ.out.mono ?_
  rintro e w6 ⟨I6, hs6, rfl, h6⟩
  have H6 := Lib.hid (h6.pull 1 _ rfl)
  have HS6 := Lib.hid (HS4.out.trans hs6)
  clear h6 hs6 HSQ
  go_wp2_with fail
  refine NoPanic.normal ?_
  go_wp2_with fail
  go_ret
  exact ⟨I6, HS6.out, rfl, H6.out⟩
theorem deed10_spec (a : A3) {m c : Nat} (h0 : a.what = 10) (h : St W I w (storeHP p S :: refHP q R :: l)) (hk : Keeps S m) (hi : RInv R c) (hc : c + 1 ≤ 100000) (ha : a.ok I) (hpl : a.p.length ≤ 60) (hr : R.off = !S.on) :
    Calls Tryz.prog 10 #[.pointer (some ⟨p, 0, none⟩), .pointer (some ⟨q, 0, none⟩), a.val] w fun e w' => ∃ I', I.sub I' ∧ e = .returned (.bool true) ∧ St W I' w' (storeHP p (powerS S) :: refHP q { R with off := false } :: l) := by
  have hky := akey_spec a
  obtain ⟨a0, a1, a2, a3, a4, ⟨j0, j1, j2, j3⟩, ap, av, an, ak, akv⟩ := a
  simp only at h0
  subst h0
  obtain ⟨hpv, _, _, hkv, _⟩ := ha
  simp only at hpv hkv hpl
  have HPV0 := Lib.hid hpv
  obtain ⟨A1, c1, rfl, _⟩ := hpv
  obtain ⟨A2, c2, rfl, _⟩ := hkv
  obtain ⟨K, hK⟩ : ∃ K, A3.key ⟨10, a1, a2, a3, a4, ⟨j0, j1, j2, j3⟩, ap, .slice A1 ap.length c1, an, ak, .slice A2 ak.length c2⟩ = K := ⟨_, rfl⟩
  rw [hK] at hky
  obtain ⟨I1, hs1, hI1, h1⟩ := (h.alloc (.cells #[.int .i64 10, .int .i64 a1, .int .i64 a2, .int .i64 a3, .bool a4, .int .i64 j0, .int .i64 j1, .int .i64 j2, .int .i64 j3, .slice A1 ap.length c1, .string an, .slice A2 ak.length c2] 34)).freeze
  have H1 := Lib.hid h1
  have HS1 := Lib.hid hs1
  have HI1 := Lib.hid hI1
  have HKEY := Lib.hid hky
  have HK := Lib.hid hk
  have HI := Lib.hid hi
  have HR := Lib.hid hr
  simp only [A3.val] at HKEY ⊢
  clear h h1 hs1 hI1 hky hk hi hr hK
  go_enter Tryz.func10, Tryz.ntmps10
  go_wp2_with fail
  refine (HKEY.out _).mono ?_
  rintro e w2 ⟨rfl, hb2⟩
  obtain ⟨k0, k1, k2, k3⟩ := K
  have h2 := H1.out.keep hb2
  obtain ⟨I2, hs2, hI2, h2⟩ := (h2.alloc (.cells #[.int .i64 k0, .int .i64 k1, .int .i64 k2, .int .i64 k3] 30)).freeze
  have e0 : w2.cell? ⟨w.heap.size, 0, none⟩ = some (.int .i64 10) := St.imm_cell (H1.out.keep hb2) HI1.out 0
  have hlt0 := (H1.out.keep hb2).imm_lt HI1.out
  simp only [K4.val]
  go_upto_region 28 with fail
  obtain ⟨g5, hg5⟩ : ∃ x, x = w.heap.size := ⟨_, rfl⟩
  obtain ⟨g7, hg7⟩ : ∃ x, x = w2.heap.size := ⟨_, rfl⟩
  obtain ⟨w3, hw3⟩ : ∃ x, x = w2.alloc (.cells #[.int .i64 k0, .int .i64 k1, .int .i64 k2, .int .i64 k3] 30) := ⟨_, rfl⟩
  rw [← hw3] at h2 ⊢
  rw [← hg7] at hI2 ⊢
  have hI5 := hs2 _ _ HI1.out
  rw [← hg5] at hI5 ⊢
  have HS2 := Lib.hid (HS1.out.trans hs2)
  have HI5 := Lib.hid hI5
  have HI7 := Lib.hid hI2
  have H2 := Lib.hid h2
  clear h2 hs2 hI2 hI5 hg5 hg7 hw3 e0 hlt0 hb2 HKEY H1
  clear HI5 HI7
  have hsp := power_spec H2.out
  have HSP := Lib.hid hsp
  clear hsp
  go_wp2_with fail
  refine HSP.out.mono ?_
  rintro e w4 ⟨rfl, h4⟩
  have hsq := power3_spec (h4.pull 1 _ rfl)
  rw [HR.out] at hsq
  have HSQ := Lib.hid hsq
  clear hsq h4 HSP
  go_wp2_with fail
  refine HSQ.out.mono ?_
  rintro e w6 ⟨rfl, h6⟩
  have H6 := Lib.hid (h6.pull 1 _ rfl)
  clear h6 HSQ
  go_wp2_with fail
  go_ret
  exact ⟨I2, HS2.out, rfl, H6.out⟩
theorem deed11_spec (a : A3) {m c : Nat} (h0 : a.what = 11) (h : St W I w (storeHP p S :: refHP q R :: l)) (hk : Keeps S m) (hi : RInv R c) (hc : c + 1 ≤ 100000) (ha : a.ok I) (hpl : a.p.length ≤ 60) (hkl : a.keep.length ≤ 20) :
    Calls Tryz.prog 10 #[.pointer (some ⟨p, 0, none⟩), .pointer (some ⟨q, 0, none⟩), a.val] w fun e w' => ∃ I', I.sub I' ∧ e = .returned (.bool true) ∧ St W I' w' (storeHP p (fuseS S a.off a.keep a.n) :: refHP q (rfuse R a.off a.keep a.n) :: l) := by
  have hky := akey_spec a
  obtain ⟨a0, a1, a2, a3, a4, ⟨j0, j1, j2, j3⟩, ap, av, an, ak, akv⟩ := a
  simp only at h0
  subst h0
  obtain ⟨hpv, _, _, hkv, _⟩ := ha
  simp only at hpv hkv hpl hkl
  have HPV0 := Lib.hid hpv
  have HKV := Lib.hid hkv
  obtain ⟨A1, c1, rfl, _⟩ := hpv
  obtain ⟨A2, c2, rfl, _⟩ := hkv
  obtain ⟨K, hK⟩ : ∃ K, A3.key ⟨11, a1, a2, a3, a4, ⟨j0, j1, j2, j3⟩, ap, .slice A1 ap.length c1, an, ak, .slice A2 ak.length c2⟩ = K := ⟨_, rfl⟩
  rw [hK] at hky
  obtain ⟨I1, hs1, hI1, h1⟩ := (h.alloc (.cells #[.int .i64 11, .int .i64 a1, .int .i64 a2, .int .i64 a3, .bool a4, .int .i64 j0, .int .i64 j1, .int .i64 j2, .int .i64 j3, .slice A1 ap.length c1, .string an, .slice A2 ak.length c2] 34)).freeze
  have H1 := Lib.hid h1
  have HS1 := Lib.hid hs1
  have HI1 := Lib.hid hI1
  have HKEY := Lib.hid hky
  have HK := Lib.hid hk
  have HI := Lib.hid hi
  simp only [A3.val] at HKEY ⊢
  clear h h1 hs1 hI1 hky hk hi hK
  go_enter Tryz.func10, Tryz.ntmps10
  go_wp2_with fail
  refine (HKEY.out _).mono ?_
  rintro e w2 ⟨rfl, hb2⟩
  obtain ⟨k0, k1, k2, k3⟩ := K
  have h2 := H1.out.keep hb2
  obtain ⟨I2, hs2, hI2, h2⟩ := (h2.alloc (.cells #[.int .i64 k0, .int .i64 k1, .int .i64 k2, .int .i64 k3] 30)).freeze
  have e0 : w2.cell? ⟨w.heap.size, 0, none⟩ = some (.int .i64 11) := St.imm_cell (H1.out.keep hb2) HI1.out 0
  have hlt0 := (H1.out.keep hb2).imm_lt HI1.out
  simp only [K4.val]
  go_upto_region 30 with fail
  obtain ⟨g5, hg5⟩ : ∃ x, x = w.heap.size := ⟨_, rfl⟩
  obtain ⟨g7, hg7⟩ : ∃ x, x = w2.heap.size := ⟨_, rfl⟩
  obtain ⟨w3, hw3⟩ : ∃ x, x = w2.alloc (.cells #[.int .i64 k0, .int .i64 k1, .int .i64 k2, .int .i64 k3] 30) := ⟨_, rfl⟩
  rw [← hw3] at h2 ⊢
  rw [← hg7] at hI2 ⊢
  have hI5 := hs2 _ _ HI1.out
  rw [← hg5] at hI5 ⊢
  have HS2 := Lib.hid (HS1.out.trans hs2)
  have HI5 := Lib.hid hI5
  have HI7 := Lib.hid hI2
  have H2 := Lib.hid h2
  clear h2 hs2 hI2 hI5 hg5 hg7 hw3 e0 hlt0 hb2 HKEY H1
  have e2 : w3.cell? ⟨g5, 2, none⟩ = some (.int .i64 a2) := St.imm_cell H2.out HI5.out 2
  have e3 : w3.cell? ⟨g5, 3, none⟩ = some (.int .i64 a3) := St.imm_cell H2.out HI5.out 3
  have e11 : w3.cell? ⟨g5, 11, none⟩ = some (.slice A2 ak.length c2) := St.imm_cell H2.out HI5.out 11
  have hsp := fuseC_spec a2 (.slice A2 ak.length c2) ak a3 H2.out ((intsIP _ _).mono HS2.out HKV.out) (by omega)
  have HSP := Lib.hid hsp
  clear hsp
  go_wp2_with fail
  refine HSP.out.mono ?_
  rintro e w4 ⟨I4, hs4, rfl, h4⟩
  have HI54 := hs4 _ _ HI5.out
  have d2 : w4.cell? ⟨g5, 2, none⟩ = some (.int .i64 a2) := St.imm_cell h4 HI54 2
  have d3 : w4.cell? ⟨g5, 3, none⟩ = some (.int .i64 a3) := St.imm_cell h4 HI54 3
  have d11 : w4.cell? ⟨g5, 11, none⟩ = some (.slice A2 ak.length c2) := St.imm_cell h4 HI54 11
  have hsq := fuse3_spec a2 (.slice A2 ak.length c2) ak a3 (h4.pull 1 _ rfl) ((intsIP _ _).mono (HS2.out.trans hs4) HKV.out) (by omega)
  have HSQ := Lib.hid hsq
  have HS4 := Lib.hid (HS2.out.trans hs4)
  clear hsq h4 hs4 HSP HI54 e2 e3 e11
  go_wp2_with fail
  refine HSQ.out.mono ?_
  rintro e w6 ⟨I6, hs6, rfl, h6⟩
  have H6 := Lib.hid (h6.pull 1 _ rfl)
  have HS6 := Lib.hid (HS4.out.trans hs6)
  clear h6 hs6 HSQ d2 d3 d11
  go_wp2_with fail
  go_ret
  exact ⟨I6, HS6.out, rfl, H6.out⟩
theorem deedN_spec (a : A3) {m c : Nat} (h0 : a.what < 0 ∨ 11 < a.what) (h : St W I w (storeHP p S :: refHP q R :: l)) (hk : Keeps S m) (hi : RInv R c) (hc : c + 1 ≤ 100000) (ha : a.ok I) (hpl : a.p.length ≤ 60)  :
    Calls Tryz.prog 10 #[.pointer (some ⟨p, 0, none⟩), .pointer (some ⟨q, 0, none⟩), a.val] w fun e w' => ∃ I', I.sub I' ∧ e = .returned (.bool true) ∧ St W I' w' (storeHP p S :: refHP q R :: l) := by
  have hky := akey_spec a
  obtain ⟨a0, a1, a2, a3, a4, ⟨j0, j1, j2, j3⟩, ap, av, an, ak, akv⟩ := a
  simp only at h0
  obtain ⟨hpv, _, _, hkv, _⟩ := ha
  simp only at hpv hkv hpl
  have HPV0 := Lib.hid hpv
  obtain ⟨A1, c1, rfl, _⟩ := hpv
  obtain ⟨A2, c2, rfl, _⟩ := hkv
  obtain ⟨K, hK⟩ : ∃ K, A3.key ⟨a0, a1, a2, a3, a4, ⟨j0, j1, j2, j3⟩, ap, .slice A1 ap.length c1, an, ak, .slice A2 ak.length c2⟩ = K := ⟨_, rfl⟩
  rw [hK] at hky
  obtain ⟨I1, hs1, hI1, h1⟩ := (h.alloc (.cells #[.int .i64 a0, .int .i64 a1, .int .i64 a2, .int .i64 a3, .bool a4, .int .i64 j0, .int .i64 j1, .int .i64 j2, .int .i64 j3, .slice A1 ap.length c1, .string an, .slice A2 ak.length c2] 34)).freeze
  have H1 := Lib.hid h1
  have HS1 := Lib.hid hs1
  have HI1 := Lib.hid hI1
  have HKEY := Lib.hid hky
  have HK := Lib.hid hk
  have HI := Lib.hid hi
  simp only [A3.val] at HKEY ⊢
  clear h h1 hs1 hI1 hky hk hi hK
  go_enter Tryz.func10, Tryz.ntmps10
  go_wp2_with fail
  refine (HKEY.out _).mono ?_
  rintro e w2 ⟨rfl, hb2⟩
  obtain ⟨k0, k1, k2, k3⟩ := K
  have h2 := H1.out.keep hb2
  obtain ⟨I2, hs2, hI2, h2⟩ := (h2.alloc (.cells #[.int .i64 k0, .int .i64 k1, .int .i64 k2, .int .i64 k3] 30)).freeze
  have e0 : w2.cell? ⟨w.heap.size, 0, none⟩ = some (.int .i64 a0) := St.imm_cell (H1.out.keep hb2) HI1.out 0
  have hlt0 := (H1.out.keep hb2).imm_lt HI1.out
  simp only [K4.val]
  have n0 : ¬ a0 = 0 := by omega
  have n1 : ¬ a0 = 1 := by omega
  have n2 : ¬ a0 = 2 := by omega
  have n3 : ¬ a0 = 3 := by omega
  have n4 : ¬ a0 = 4 := by omega
  have n5 : ¬ a0 = 5 := by omega
  have n6 : ¬ a0 = 6 := by omega
  have n7 : ¬ a0 = 7 := by omega
  have n8 : ¬ a0 = 8 := by omega
  have n9 : ¬ a0 = 9 := by omega
  have n10 : ¬ a0 = 10 := by omega
  have n11 : ¬ a0 = 11 := by omega
  clear h0
  go_upto_region 32 with fail
  obtain ⟨g5, hg5⟩ : ∃ x, x = w.heap.size := ⟨_, rfl⟩
  obtain ⟨g7, hg7⟩ : ∃ x, x = w2.heap.size := ⟨_, rfl⟩
  obtain ⟨w3, hw3⟩ : ∃ x, x = w2.alloc (.cells #[.int .i64 k0, .int .i64 k1, .int .i64 k2, .int .i64 k3] 30) := ⟨_, rfl⟩
  rw [← hw3] at h2 ⊢
  rw [← hg7] at hI2 ⊢
  have hI5 := hs2 _ _ HI1.out
  rw [← hg5] at hI5 ⊢
  have HS2 := Lib.hid (HS1.out.trans hs2)
  have HI5 := Lib.hid hI5
  have HI7 := Lib.hid hI2
  have H2 := Lib.hid h2
  clear h2 hs2 hI2 hI5 hg5 hg7 hw3 e0 hlt0 hb2 HKEY H1
  clear HI5 HI7
  go_wp2_with fail
  go_ret
  exact ⟨I2, HS2.out, rfl, H2.out⟩
end
end Go.Proofs.YtagljjhfkhadpaaGreat
