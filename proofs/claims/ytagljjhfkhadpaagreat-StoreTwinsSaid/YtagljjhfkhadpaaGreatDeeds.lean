/- hectographlaw3: deed, one act of both stores. One act of both stores, acts 0 to 6, in one; what it keeps. -/
import Derived.Test.YtagljjhfkhadpaaGreatActs3
import Derived.Test.YtagljjhfkhadpaaGreatRefDo
/- hectographlaw3: deed, one act of both stores. -/
set_option linter.unusedSimpArgs false
set_option linter.unusedVariables false
set_option linter.unusedSectionVars false
namespace Go.Proofs.YtagljjhfkhadpaaGreat
open Go.RowKit
/-- The act, done by the store and by the document's. -/
def actS (S : Str) (a : A3) : Int × Str :=
  if a.what = 0 then makeS S a.key else if a.what = 1 then writeS S a.key a.off a.p else if a.what = 2 then appendS S a.key a.p else if a.what = 3 then trimS S a.key a.n
  else if a.what = 4 then dropS S a.key else if a.what = 5 then setS S a.key a.name a.p else if a.what = 6 then barrierS S else (0, S)
def actD (a : A3) : RD :=
  if a.what = 0 then ⟨1, 0, ⟨#[]⟩, []⟩ else if a.what = 1 then ⟨2, a.off, ⟨#[]⟩, a.p⟩ else if a.what = 2 then ⟨6, 0, ⟨#[]⟩, a.p⟩ else if a.what = 3 then ⟨3, a.n, ⟨#[]⟩, []⟩
  else if a.what = 4 then ⟨4, 0, ⟨#[]⟩, []⟩ else ⟨5, 0, a.name, a.p⟩
def actR (R : RS) (a : A3) : Int × RS := if a.what = 6 then rbarrier R else rdo R a.key (actD a)
section
variable {W w : World} {I : Hp} {l : List HP} {p q : Nat} {S : Str} {R : RS}
set_option maxRecDepth 4000
set_option maxHeartbeats 8000000
theorem deed0_spec (a : A3) {m c : Nat} (h0 : a.what = 0) (h : St W I w (storeHP p S :: refHP q R :: l)) (hk : Keeps S m) (hi : RInv R c) (hc : c + 1 ≤ 100000) (ha : a.ok I) (hpl : a.p.length ≤ 60)
    (hb : ∀ (w2 : World) (I2 : Hp) (l2 : List HP), I.sub I2 → St W I2 w2 (refHP q R :: l2) → Calls Tryz.prog 65 #[.pointer (some ⟨q, 0, none⟩)] w2 fun e w' => ∃ I', I2.sub I' ∧ e = .returned (.bool (rburn R).1) ∧ St W I' w' (refHP q (rburn R).2 :: l2)) :
    Calls Tryz.prog 10 #[.pointer (some ⟨p, 0, none⟩), .pointer (some ⟨q, 0, none⟩), a.val] w fun e w' => ∃ I', I.sub I' ∧ e = .returned (.bool ((actS S a).1 == (actR R a).1)) ∧ St W I' w' (storeHP p (actS S a).2 :: refHP q (actR R a).2 :: l) := by
  have hky := akey_spec a
  obtain ⟨a0, a1, a2, a3, a4, ⟨j0, j1, j2, j3⟩, ap, av, an, ak, akv⟩ := a
  simp only at h0
  subst h0
  obtain ⟨hpv, _, _, hkv, _⟩ := ha
  simp only at hpv hkv hpl
  have HPV0 := Lib.hid hpv
  obtain ⟨A1, c1, rfl, _⟩ := hpv
  obtain ⟨A2, c2, rfl, _⟩ := hkv
  obtain ⟨K, hK⟩ : ∃ K, A3.key ⟨0, a1, a2, a3, a4, ⟨j0, j1, j2, j3⟩, ap, .slice A1 ap.length c1, an, ak, .slice A2 ak.length c2⟩ = K := ⟨_, rfl⟩
  rw [hK] at hky
  have HX := Lib.hid (show actS S ⟨0, a1, a2, a3, a4, ⟨j0, j1, j2, j3⟩, ap, .slice A1 ap.length c1, an, ak, .slice A2 ak.length c2⟩ = makeS S K by rw [← hK]; rfl)
  have HY := Lib.hid (show actR R ⟨0, a1, a2, a3, a4, ⟨j0, j1, j2, j3⟩, ap, .slice A1 ap.length c1, an, ak, .slice A2 ak.length c2⟩ = rdo R K ⟨1, 0, ⟨#[]⟩, []⟩ by rw [← hK]; rfl)
  obtain ⟨I1, hs1, hI1, h1⟩ := (h.alloc (.cells #[.int .i64 0, .int .i64 a1, .int .i64 a2, .int .i64 a3, .bool a4, .int .i64 j0, .int .i64 j1, .int .i64 j2, .int .i64 j3, .slice A1 ap.length c1, .string an, .slice A2 ak.length c2] 34)).freeze
  have H1 := Lib.hid h1
  have HS1 := Lib.hid hs1
  have HI1 := Lib.hid hI1
  have HKEY := Lib.hid hky
  have HK := Lib.hid hk
  have HI := Lib.hid hi
  have HB := Lib.hid hb
  simp only [A3.val] at HKEY ⊢
  clear h h1 hs1 hI1 hky hk hi hb hK
  go_enter Tryz.func10, Tryz.ntmps10
  go_wp2_with fail
  refine (HKEY.out _).mono ?_
  rintro e w2 ⟨rfl, hb2⟩
  obtain ⟨k0, k1, k2, k3⟩ := K
  have h2 := H1.out.keep hb2
  obtain ⟨I2, hs2, hI2, h2⟩ := (h2.alloc (.cells #[.int .i64 k0, .int .i64 k1, .int .i64 k2, .int .i64 k3] 30)).freeze
  have e0 : w2.cell? ⟨w.heap.size, 0, none⟩ = some (.int .i64 0) := St.imm_cell (H1.out.keep hb2) HI1.out 0
  have hlt0 := (H1.out.keep hb2).imm_lt HI1.out
  simp only [K4.val]
  go_upto_region 4 with fail
  obtain ⟨g5, hg5⟩ : ∃ x, x = w.heap.size := ⟨_, rfl⟩
  obtain ⟨g7, hg7⟩ : ∃ x, x = w2.heap.size := ⟨_, rfl⟩
  obtain ⟨w3, hw3⟩ : ∃ x, x = w2.alloc (.cells #[.int .i64 k0, .int .i64 k1, .int .i64 k2, .int .i64 k3] 30) := ⟨_, rfl⟩
  rw [← hw3] at h2 ⊢
  rw [← hg7] at hI2 ⊢
  have hI5 := hs2 _ _ HI1.out
  rw [← hg5] at hI5 ⊢
  have HS2 := Lib.hid (HS1.out.trans hs2)
  have HI5 := Lib.hid hI5
  have HI7 := Lib.hid hI2
  have H2 := Lib.hid h2.drew
  clear h2 hs2 hI2 hI5 hg5 hg7 hw3 e0 hlt0 hb2 HKEY H1
  obtain ⟨x0, x1, x2, x3⟩ := imm_cells4 H2.out HI7.out
  have hsp := make_spec ⟨k0, k1, k2, k3⟩ H2.out HK.out
  simp only [K4.val] at hsp
  have HSP := Lib.hid hsp
  clear hsp
  refine wp_region_keep (fun w' => w'.cell? ⟨g7, 0, none⟩ = some (.int .i64 k0) ∧ w'.cell? ⟨g7, 1, none⟩ = some (.int .i64 k1) ∧ w'.cell? ⟨g7, 2, none⟩ = some (.int .i64 k2) ∧ w'.cell? ⟨g7, 3, none⟩ = some (.int .i64 k3)) [0, 1, 3, 4, 5] [2] [6, 7, 8] (by kernel_rfl) (by kernel_rfl) (by (exact ⟨x0, x1, x2, x3⟩)) ?_
  simp only [pickL, List.getElem?_cons_zero, List.getElem?_cons_succ]
  repeat (refine wpFirst_step _ (Or.inl ⟨by rfl, by (intro w hSw; (try dsimp only at hSw); go_simp; try with_reducible rfl)⟩) ?_; (try simp only [Act.put, List.setIfInBounds_toArray, List.set_cons_zero, List.set_cons_succ]))
  refine wpFirst_nil ?_
  unfold wpHold
  clear x0 x1 x2 x3
  go_wp2_with fail
  refine HSP.out.mono ?_
  rintro e w4 ⟨I4, hs4, rfl, h4⟩
  have HI54 := hs4 _ _ HI5.out
  have HI74 := hs4 _ _ HI7.out
  obtain ⟨x0, x1, x2, x3⟩ := imm_cells4 h4 HI74
  have hdo := do3_spec ⟨k0, k1, k2, k3⟩ ⟨1, 0, ⟨#[]⟩, []⟩ (.slice none 0 0) (h4.pull 1 _ rfl) HI.out hc (bytes_nil _) ⟨by simp, .inr (show (0 : Nat) ≤ 20 by decide), .inr (.inr (.inr rfl))⟩ (fun w5 I5 l5 hs h => HB.out w5 I5 l5 ((HS2.out.trans hs4).trans hs) h)
  simp only [K4.val] at hdo
  have HDO := Lib.hid hdo
  have HS4 := Lib.hid (HS2.out.trans hs4)
  clear hdo HSP h4 hs4 HI54 HI74
  go_wp2_with fail
  refine holdPost_normal ⟨x0, x1, x2, x3⟩ ?_
  unfold wpHold
  go_wp2_with fail
  refine HDO.out.mono ?_
  rintro e w6 ⟨I6, hs6, rfl, h6⟩
  have H6 := Lib.hid (h6.pull 1 _ rfl)
  have HS6 := Lib.hid (HS4.out.trans hs6)
  clear h6 hs6 HDO
  go_wp2_with fail
  refine NoPanic.normal ?_
  go_wp2_with fail
  go_ret
  rw [HX.out, HY.out]
  exact ⟨I6, HS6.out, rfl, H6.out⟩
theorem deed1_spec (a : A3) {m c : Nat} (h0 : a.what = 1) (h : St W I w (storeHP p S :: refHP q R :: l)) (hk : Keeps S m) (hi : RInv R c) (hc : c + 1 ≤ 100000) (ha : a.ok I) (hpl : a.p.length ≤ 60)
    (hb : ∀ (w2 : World) (I2 : Hp) (l2 : List HP), I.sub I2 → St W I2 w2 (refHP q R :: l2) → Calls Tryz.prog 65 #[.pointer (some ⟨q, 0, none⟩)] w2 fun e w' => ∃ I', I2.sub I' ∧ e = .returned (.bool (rburn R).1) ∧ St W I' w' (refHP q (rburn R).2 :: l2)) :
    Calls Tryz.prog 10 #[.pointer (some ⟨p, 0, none⟩), .pointer (some ⟨q, 0, none⟩), a.val] w fun e w' => ∃ I', I.sub I' ∧ e = .returned (.bool ((actS S a).1 == (actR R a).1)) ∧ St W I' w' (storeHP p (actS S a).2 :: refHP q (actR R a).2 :: l) := by
  have hky := akey_spec a
  obtain ⟨a0, a1, a2, a3, a4, ⟨j0, j1, j2, j3⟩, ap, av, an, ak, akv⟩ := a
  simp only at h0
  subst h0
  obtain ⟨hpv, _, _, hkv, _⟩ := ha
  simp only at hpv hkv hpl
  have HPV0 := Lib.hid hpv
  obtain ⟨A1, c1, rfl, _⟩ := hpv
  obtain ⟨A2, c2, rfl, _⟩ := hkv
  obtain ⟨K, hK⟩ : ∃ K, A3.key ⟨1, a1, a2, a3, a4, ⟨j0, j1, j2, j3⟩, ap, .slice A1 ap.length c1, an, ak, .slice A2 ak.length c2⟩ = K := ⟨_, rfl⟩
  rw [hK] at hky
  have HX := Lib.hid (show actS S ⟨1, a1, a2, a3, a4, ⟨j0, j1, j2, j3⟩, ap, .slice A1 ap.length c1, an, ak, .slice A2 ak.length c2⟩ = writeS S K a2 ap by rw [← hK]; rfl)
  have HY := Lib.hid (show actR R ⟨1, a1, a2, a3, a4, ⟨j0, j1, j2, j3⟩, ap, .slice A1 ap.length c1, an, ak, .slice A2 ak.length c2⟩ = rdo R K ⟨2, a2, ⟨#[]⟩, ap⟩ by rw [← hK]; rfl)
  obtain ⟨I1, hs1, hI1, h1⟩ := (h.alloc (.cells #[.int .i64 1, .int .i64 a1, .int .i64 a2, .int .i64 a3, .bool a4, .int .i64 j0, .int .i64 j1, .int .i64 j2, .int .i64 j3, .slice A1 ap.length c1, .string an, .slice A2 ak.length c2] 34)).freeze
  have H1 := Lib.hid h1
  have HS1 := Lib.hid hs1
  have HI1 := Lib.hid hI1
  have HKEY := Lib.hid hky
  have HK := Lib.hid hk
  have HI := Lib.hid hi
  have HB := Lib.hid hb
  simp only [A3.val] at HKEY ⊢
  clear h h1 hs1 hI1 hky hk hi hb hK
  go_enter Tryz.func10, Tryz.ntmps10
  go_wp2_with fail
  refine (HKEY.out _).mono ?_
  rintro e w2 ⟨rfl, hb2⟩
  obtain ⟨k0, k1, k2, k3⟩ := K
  have h2 := H1.out.keep hb2
  obtain ⟨I2, hs2, hI2, h2⟩ := (h2.alloc (.cells #[.int .i64 k0, .int .i64 k1, .int .i64 k2, .int .i64 k3] 30)).freeze
  have e0 : w2.cell? ⟨w.heap.size, 0, none⟩ = some (.int .i64 1) := St.imm_cell (H1.out.keep hb2) HI1.out 0
  have hlt0 := (H1.out.keep hb2).imm_lt HI1.out
  simp only [K4.val]
  go_upto_region 6 with fail
  obtain ⟨g5, hg5⟩ : ∃ x, x = w.heap.size := ⟨_, rfl⟩
  obtain ⟨g7, hg7⟩ : ∃ x, x = w2.heap.size := ⟨_, rfl⟩
  obtain ⟨w3, hw3⟩ : ∃ x, x = w2.alloc (.cells #[.int .i64 k0, .int .i64 k1, .int .i64 k2, .int .i64 k3] 30) := ⟨_, rfl⟩
  rw [← hw3] at h2 ⊢
  rw [← hg7] at hI2 ⊢
  have hI5 := hs2 _ _ HI1.out
  rw [← hg5] at hI5 ⊢
  have HS2 := Lib.hid (HS1.out.trans hs2)
  have HI5 := Lib.hid hI5
  have HI7 := Lib.hid hI2
  have H2 := Lib.hid h2.drew
  clear h2 hs2 hI2 hI5 hg5 hg7 hw3 e0 hlt0 hb2 HKEY H1
  obtain ⟨x0, x1, x2, x3⟩ := imm_cells4 H2.out HI7.out
  have e2 : w3.drew.cell? ⟨g5, 2, none⟩ = some (.int .i64 a2) := St.imm_cell H2.out HI5.out 2
  have e9 : w3.drew.cell? ⟨g5, 9, none⟩ = some (.slice A1 ap.length c1) := St.imm_cell H2.out HI5.out 9
  have hsp := write_spec ⟨k0, k1, k2, k3⟩ a2 _ ap H2.out HK.out (bytes_src H2.out ((bytesIP _ _).mono HS2.out HPV0.out)) (by omega)
  simp only [K4.val] at hsp
  have HSP := Lib.hid hsp
  clear hsp
  refine wp_region_keep (fun w' => w'.cell? ⟨g7, 0, none⟩ = some (.int .i64 k0) ∧ w'.cell? ⟨g7, 1, none⟩ = some (.int .i64 k1) ∧ w'.cell? ⟨g7, 2, none⟩ = some (.int .i64 k2) ∧ w'.cell? ⟨g7, 3, none⟩ = some (.int .i64 k3) ∧ w'.cell? ⟨g5, 2, none⟩ = some (.int .i64 a2) ∧ w'.cell? ⟨g5, 9, none⟩ = some (.slice A1 ap.length c1)) [0, 1, 2, 3, 4, 5, 7, 8, 9, 10, 11, 12, 13] [6] [14, 15, 16] (by kernel_rfl) (by kernel_rfl) (by (exact ⟨x0, x1, x2, x3, e2, e9⟩)) ?_
  simp only [pickL, List.getElem?_cons_zero, List.getElem?_cons_succ]
  repeat (refine wpFirst_step _ (Or.inl ⟨by rfl, by (intro w hSw; (try dsimp only at hSw); go_simp; try with_reducible rfl)⟩) ?_; (try simp only [Act.put, List.setIfInBounds_toArray, List.set_cons_zero, List.set_cons_succ]))
  refine wpFirst_nil ?_
  unfold wpHold
  clear x0 x1 x2 x3 e2 e9
  go_wp2_with fail
  refine HSP.out.mono ?_
  rintro e w4 ⟨I4, hs4, rfl, h4⟩
  have HI54 := hs4 _ _ HI5.out
  have HI74 := hs4 _ _ HI7.out
  obtain ⟨x0, x1, x2, x3⟩ := imm_cells4 h4 HI74
  have e2 : w4.cell? ⟨g5, 2, none⟩ = some (.int .i64 a2) := St.imm_cell h4 HI54 2
  have e9 : w4.cell? ⟨g5, 9, none⟩ = some (.slice A1 ap.length c1) := St.imm_cell h4 HI54 9
  have hdo := do3_spec ⟨k0, k1, k2, k3⟩ ⟨2, a2, ⟨#[]⟩, ap⟩ (.slice A1 ap.length c1) (h4.pull 1 _ rfl) HI.out hc ((bytesIP _ _).mono (HS2.out.trans hs4) HPV0.out) ⟨by simp only; omega, .inr (show (0 : Nat) ≤ 20 by decide), .inl rfl⟩ (fun w5 I5 l5 hs h => HB.out w5 I5 l5 ((HS2.out.trans hs4).trans hs) h)
  simp only [K4.val] at hdo
  have HDO := Lib.hid hdo
  have HS4 := Lib.hid (HS2.out.trans hs4)
  clear hdo HSP h4 hs4 HI54 HI74
  go_wp2_with fail
  refine holdPost_normal ⟨x0, x1, x2, x3, e2, e9⟩ ?_
  unfold wpHold
  go_wp2_with fail
  refine HDO.out.mono ?_
  rintro e w6 ⟨I6, hs6, rfl, h6⟩
  have H6 := Lib.hid (h6.pull 1 _ rfl)
  have HS6 := Lib.hid (HS4.out.trans hs6)
  clear h6 hs6 HDO
  go_wp2_with fail
  refine NoPanic.normal ?_
  go_wp2_with fail
  go_ret
  rw [HX.out, HY.out]
  exact ⟨I6, HS6.out, rfl, H6.out⟩
theorem deed2_spec (a : A3) {m c : Nat} (h0 : a.what = 2) (h : St W I w (storeHP p S :: refHP q R :: l)) (hk : Keeps S m) (hi : RInv R c) (hc : c + 1 ≤ 100000) (ha : a.ok I) (hpl : a.p.length ≤ 60)
    (hb : ∀ (w2 : World) (I2 : Hp) (l2 : List HP), I.sub I2 → St W I2 w2 (refHP q R :: l2) → Calls Tryz.prog 65 #[.pointer (some ⟨q, 0, none⟩)] w2 fun e w' => ∃ I', I2.sub I' ∧ e = .returned (.bool (rburn R).1) ∧ St W I' w' (refHP q (rburn R).2 :: l2)) :
    Calls Tryz.prog 10 #[.pointer (some ⟨p, 0, none⟩), .pointer (some ⟨q, 0, none⟩), a.val] w fun e w' => ∃ I', I.sub I' ∧ e = .returned (.bool ((actS S a).1 == (actR R a).1)) ∧ St W I' w' (storeHP p (actS S a).2 :: refHP q (actR R a).2 :: l) := by
  have hky := akey_spec a
  obtain ⟨a0, a1, a2, a3, a4, ⟨j0, j1, j2, j3⟩, ap, av, an, ak, akv⟩ := a
  simp only at h0
  subst h0
  obtain ⟨hpv, _, _, hkv, _⟩ := ha
  simp only at hpv hkv hpl
  have HPV0 := Lib.hid hpv
  obtain ⟨A1, c1, rfl, _⟩ := hpv
  obtain ⟨A2, c2, rfl, _⟩ := hkv
  obtain ⟨K, hK⟩ : ∃ K, A3.key ⟨2, a1, a2, a3, a4, ⟨j0, j1, j2, j3⟩, ap, .slice A1 ap.length c1, an, ak, .slice A2 ak.length c2⟩ = K := ⟨_, rfl⟩
  rw [hK] at hky
  have HX := Lib.hid (show actS S ⟨2, a1, a2, a3, a4, ⟨j0, j1, j2, j3⟩, ap, .slice A1 ap.length c1, an, ak, .slice A2 ak.length c2⟩ = appendS S K ap by rw [← hK]; rfl)
  have HY := Lib.hid (show actR R ⟨2, a1, a2, a3, a4, ⟨j0, j1, j2, j3⟩, ap, .slice A1 ap.length c1, an, ak, .slice A2 ak.length c2⟩ = rdo R K ⟨6, 0, ⟨#[]⟩, ap⟩ by rw [← hK]; rfl)
  obtain ⟨I1, hs1, hI1, h1⟩ := (h.alloc (.cells #[.int .i64 2, .int .i64 a1, .int .i64 a2, .int .i64 a3, .bool a4, .int .i64 j0, .int .i64 j1, .int .i64 j2, .int .i64 j3, .slice A1 ap.length c1, .string an, .slice A2 ak.length c2] 34)).freeze
  have H1 := Lib.hid h1
  have HS1 := Lib.hid hs1
  have HI1 := Lib.hid hI1
  have HKEY := Lib.hid hky
  have HK := Lib.hid hk
  have HI := Lib.hid hi
  have HB := Lib.hid hb
  simp only [A3.val] at HKEY ⊢
  clear h h1 hs1 hI1 hky hk hi hb hK
  go_enter Tryz.func10, Tryz.ntmps10
  go_wp2_with fail
  refine (HKEY.out _).mono ?_
  rintro e w2 ⟨rfl, hb2⟩
  obtain ⟨k0, k1, k2, k3⟩ := K
  have h2 := H1.out.keep hb2
  obtain ⟨I2, hs2, hI2, h2⟩ := (h2.alloc (.cells #[.int .i64 k0, .int .i64 k1, .int .i64 k2, .int .i64 k3] 30)).freeze
  have e0 : w2.cell? ⟨w.heap.size, 0, none⟩ = some (.int .i64 2) := St.imm_cell (H1.out.keep hb2) HI1.out 0
  have hlt0 := (H1.out.keep hb2).imm_lt HI1.out
  simp only [K4.val]
  go_upto_region 8 with fail
  obtain ⟨g5, hg5⟩ : ∃ x, x = w.heap.size := ⟨_, rfl⟩
  obtain ⟨g7, hg7⟩ : ∃ x, x = w2.heap.size := ⟨_, rfl⟩
  obtain ⟨w3, hw3⟩ : ∃ x, x = w2.alloc (.cells #[.int .i64 k0, .int .i64 k1, .int .i64 k2, .int .i64 k3] 30) := ⟨_, rfl⟩
  rw [← hw3] at h2 ⊢
  rw [← hg7] at hI2 ⊢
  have hI5 := hs2 _ _ HI1.out
  rw [← hg5] at hI5 ⊢
  have HS2 := Lib.hid (HS1.out.trans hs2)
  have HI5 := Lib.hid hI5
  have HI7 := Lib.hid hI2
  have H2 := Lib.hid h2.drew
  clear h2 hs2 hI2 hI5 hg5 hg7 hw3 e0 hlt0 hb2 HKEY H1
  obtain ⟨x0, x1, x2, x3⟩ := imm_cells4 H2.out HI7.out
  have e9 : w3.drew.cell? ⟨g5, 9, none⟩ = some (.slice A1 ap.length c1) := St.imm_cell H2.out HI5.out 9
  have hsp := append_spec ⟨k0, k1, k2, k3⟩ _ ap H2.out HK.out (bytes_src H2.out ((bytesIP _ _).mono HS2.out HPV0.out)) (by omega)
  simp only [K4.val] at hsp
  have HSP := Lib.hid hsp
  clear hsp
  refine wp_region_keep (fun w' => w'.cell? ⟨g7, 0, none⟩ = some (.int .i64 k0) ∧ w'.cell? ⟨g7, 1, none⟩ = some (.int .i64 k1) ∧ w'.cell? ⟨g7, 2, none⟩ = some (.int .i64 k2) ∧ w'.cell? ⟨g7, 3, none⟩ = some (.int .i64 k3) ∧ w'.cell? ⟨g5, 9, none⟩ = some (.slice A1 ap.length c1)) [0, 1, 2, 3, 5, 6, 7, 8, 9] [4] [10, 11, 12] (by kernel_rfl) (by kernel_rfl) (by (exact ⟨x0, x1, x2, x3, e9⟩)) ?_
  simp only [pickL, List.getElem?_cons_zero, List.getElem?_cons_succ]
  repeat (refine wpFirst_step _ (Or.inl ⟨by rfl, by (intro w hSw; (try dsimp only at hSw); go_simp; try with_reducible rfl)⟩) ?_; (try simp only [Act.put, List.setIfInBounds_toArray, List.set_cons_zero, List.set_cons_succ]))
  refine wpFirst_nil ?_
  unfold wpHold
  clear x0 x1 x2 x3 e9
  go_wp2_with fail
  refine HSP.out.mono ?_
  rintro e w4 ⟨I4, hs4, rfl, h4⟩
  have HI54 := hs4 _ _ HI5.out
  have HI74 := hs4 _ _ HI7.out
  obtain ⟨x0, x1, x2, x3⟩ := imm_cells4 h4 HI74
  have e9 : w4.cell? ⟨g5, 9, none⟩ = some (.slice A1 ap.length c1) := St.imm_cell h4 HI54 9
  have hdo := do3_spec ⟨k0, k1, k2, k3⟩ ⟨6, 0, ⟨#[]⟩, ap⟩ (.slice A1 ap.length c1) (h4.pull 1 _ rfl) HI.out hc ((bytesIP _ _).mono (HS2.out.trans hs4) HPV0.out) ⟨by simp only; omega, .inr (show (0 : Nat) ≤ 20 by decide), .inr (.inr (.inl rfl))⟩ (fun w5 I5 l5 hs h => HB.out w5 I5 l5 ((HS2.out.trans hs4).trans hs) h)
  simp only [K4.val] at hdo
  have HDO := Lib.hid hdo
  have HS4 := Lib.hid (HS2.out.trans hs4)
  clear hdo HSP h4 hs4 HI54 HI74
  go_wp2_with fail
  refine holdPost_normal ⟨x0, x1, x2, x3, e9⟩ ?_
  unfold wpHold
  go_wp2_with fail
  refine HDO.out.mono ?_
  rintro e w6 ⟨I6, hs6, rfl, h6⟩
  have H6 := Lib.hid (h6.pull 1 _ rfl)
  have HS6 := Lib.hid (HS4.out.trans hs6)
  clear h6 hs6 HDO
  go_wp2_with fail
  refine NoPanic.normal ?_
  go_wp2_with fail
  go_ret
  rw [HX.out, HY.out]
  exact ⟨I6, HS6.out, rfl, H6.out⟩
theorem deed3_spec (a : A3) {m c : Nat} (h0 : a.what = 3) (h : St W I w (storeHP p S :: refHP q R :: l)) (hk : Keeps S m) (hi : RInv R c) (hc : c + 1 ≤ 100000) (ha : a.ok I) (hpl : a.p.length ≤ 60)
    (hb : ∀ (w2 : World) (I2 : Hp) (l2 : List HP), I.sub I2 → St W I2 w2 (refHP q R :: l2) → Calls Tryz.prog 65 #[.pointer (some ⟨q, 0, none⟩)] w2 fun e w' => ∃ I', I2.sub I' ∧ e = .returned (.bool (rburn R).1) ∧ St W I' w' (refHP q (rburn R).2 :: l2)) :
    Calls Tryz.prog 10 #[.pointer (some ⟨p, 0, none⟩), .pointer (some ⟨q, 0, none⟩), a.val] w fun e w' => ∃ I', I.sub I' ∧ e = .returned (.bool ((actS S a).1 == (actR R a).1)) ∧ St W I' w' (storeHP p (actS S a).2 :: refHP q (actR R a).2 :: l) := by
  have hky := akey_spec a
  obtain ⟨a0, a1, a2, a3, a4, ⟨j0, j1, j2, j3⟩, ap, av, an, ak, akv⟩ := a
  simp only at h0
  subst h0
  obtain ⟨hpv, _, _, hkv, _⟩ := ha
  simp only at hpv hkv hpl
  have HPV0 := Lib.hid hpv
  obtain ⟨A1, c1, rfl, _⟩ := hpv
  obtain ⟨A2, c2, rfl, _⟩ := hkv
  obtain ⟨K, hK⟩ : ∃ K, A3.key ⟨3, a1, a2, a3, a4, ⟨j0, j1, j2, j3⟩, ap, .slice A1 ap.length c1, an, ak, .slice A2 ak.length c2⟩ = K := ⟨_, rfl⟩
  rw [hK] at hky
  have HX := Lib.hid (show actS S ⟨3, a1, a2, a3, a4, ⟨j0, j1, j2, j3⟩, ap, .slice A1 ap.length c1, an, ak, .slice A2 ak.length c2⟩ = trimS S K a3 by rw [← hK]; rfl)
  have HY := Lib.hid (show actR R ⟨3, a1, a2, a3, a4, ⟨j0, j1, j2, j3⟩, ap, .slice A1 ap.length c1, an, ak, .slice A2 ak.length c2⟩ = rdo R K ⟨3, a3, ⟨#[]⟩, []⟩ by rw [← hK]; rfl)
  obtain ⟨I1, hs1, hI1, h1⟩ := (h.alloc (.cells #[.int .i64 3, .int .i64 a1, .int .i64 a2, .int .i64 a3, .bool a4, .int .i64 j0, .int .i64 j1, .int .i64 j2, .int .i64 j3, .slice A1 ap.length c1, .string an, .slice A2 ak.length c2] 34)).freeze
  have H1 := Lib.hid h1
  have HS1 := Lib.hid hs1
  have HI1 := Lib.hid hI1
  have HKEY := Lib.hid hky
  have HK := Lib.hid hk
  have HI := Lib.hid hi
  have HB := Lib.hid hb
  simp only [A3.val] at HKEY ⊢
  clear h h1 hs1 hI1 hky hk hi hb hK
  go_enter Tryz.func10, Tryz.ntmps10
  go_wp2_with fail
  refine (HKEY.out _).mono ?_
  rintro e w2 ⟨rfl, hb2⟩
  obtain ⟨k0, k1, k2, k3⟩ := K
  have h2 := H1.out.keep hb2
  obtain ⟨I2, hs2, hI2, h2⟩ := (h2.alloc (.cells #[.int .i64 k0, .int .i64 k1, .int .i64 k2, .int .i64 k3] 30)).freeze
  have e0 : w2.cell? ⟨w.heap.size, 0, none⟩ = some (.int .i64 3) := St.imm_cell (H1.out.keep hb2) HI1.out 0
  have hlt0 := (H1.out.keep hb2).imm_lt HI1.out
  simp only [K4.val]
  go_upto_region 10 with fail
  obtain ⟨g5, hg5⟩ : ∃ x, x = w.heap.size := ⟨_, rfl⟩
  obtain ⟨g7, hg7⟩ : ∃ x, x = w2.heap.size := ⟨_, rfl⟩
  obtain ⟨w3, hw3⟩ : ∃ x, x = w2.alloc (.cells #[.int .i64 k0, .int .i64 k1, .int .i64 k2, .int .i64 k3] 30) := ⟨_, rfl⟩
  rw [← hw3] at h2 ⊢
  rw [← hg7] at hI2 ⊢
  have hI5 := hs2 _ _ HI1.out
  rw [← hg5] at hI5 ⊢
  have HS2 := Lib.hid (HS1.out.trans hs2)
  have HI5 := Lib.hid hI5
  have HI7 := Lib.hid hI2
  have H2 := Lib.hid h2.drew
  clear h2 hs2 hI2 hI5 hg5 hg7 hw3 e0 hlt0 hb2 HKEY H1
  obtain ⟨x0, x1, x2, x3⟩ := imm_cells4 H2.out HI7.out
  have e3 : w3.drew.cell? ⟨g5, 3, none⟩ = some (.int .i64 a3) := St.imm_cell H2.out HI5.out 3
  have hsp := trim_spec ⟨k0, k1, k2, k3⟩ a3 H2.out HK.out
  simp only [K4.val] at hsp
  have HSP := Lib.hid hsp
  clear hsp
  refine wp_region_keep (fun w' => w'.cell? ⟨g7, 0, none⟩ = some (.int .i64 k0) ∧ w'.cell? ⟨g7, 1, none⟩ = some (.int .i64 k1) ∧ w'.cell? ⟨g7, 2, none⟩ = some (.int .i64 k2) ∧ w'.cell? ⟨g7, 3, none⟩ = some (.int .i64 k3) ∧ w'.cell? ⟨g5, 3, none⟩ = some (.int .i64 a3)) [0, 1, 2, 3, 5, 6, 7, 8, 9] [4] [10, 11, 12] (by kernel_rfl) (by kernel_rfl) (by (exact ⟨x0, x1, x2, x3, e3⟩)) ?_
  simp only [pickL, List.getElem?_cons_zero, List.getElem?_cons_succ]
  repeat (refine wpFirst_step _ (Or.inl ⟨by rfl, by (intro w hSw; (try dsimp only at hSw); go_simp; try with_reducible rfl)⟩) ?_; (try simp only [Act.put, List.setIfInBounds_toArray, List.set_cons_zero, List.set_cons_succ]))
  refine wpFirst_nil ?_
  unfold wpHold
  clear x0 x1 x2 x3 e3
  go_wp2_with fail
  refine HSP.out.mono ?_
  rintro e w4 ⟨I4, hs4, rfl, h4⟩
  have HI54 := hs4 _ _ HI5.out
  have HI74 := hs4 _ _ HI7.out
  obtain ⟨x0, x1, x2, x3⟩ := imm_cells4 h4 HI74
  have e3 : w4.cell? ⟨g5, 3, none⟩ = some (.int .i64 a3) := St.imm_cell h4 HI54 3
  have hdo := do3_spec ⟨k0, k1, k2, k3⟩ ⟨3, a3, ⟨#[]⟩, []⟩ (.slice none 0 0) (h4.pull 1 _ rfl) HI.out hc (bytes_nil _) ⟨by simp, .inr (show (0 : Nat) ≤ 20 by decide), .inr (.inl rfl)⟩ (fun w5 I5 l5 hs h => HB.out w5 I5 l5 ((HS2.out.trans hs4).trans hs) h)
  simp only [K4.val] at hdo
  have HDO := Lib.hid hdo
  have HS4 := Lib.hid (HS2.out.trans hs4)
  clear hdo HSP h4 hs4 HI54 HI74
  go_wp2_with fail
  refine holdPost_normal ⟨x0, x1, x2, x3, e3⟩ ?_
  unfold wpHold
  go_wp2_with fail
  refine HDO.out.mono ?_
  rintro e w6 ⟨I6, hs6, rfl, h6⟩
  have H6 := Lib.hid (h6.pull 1 _ rfl)
  have HS6 := Lib.hid (HS4.out.trans hs6)
  clear h6 hs6 HDO
  go_wp2_with fail
  refine NoPanic.normal ?_
  go_wp2_with fail
  go_ret
  rw [HX.out, HY.out]
  exact ⟨I6, HS6.out, rfl, H6.out⟩
theorem deed4_spec (a : A3) {m c : Nat} (h0 : a.what = 4) (h : St W I w (storeHP p S :: refHP q R :: l)) (hk : Keeps S m) (hi : RInv R c) (hc : c + 1 ≤ 100000) (ha : a.ok I) (hpl : a.p.length ≤ 60)
    (hb : ∀ (w2 : World) (I2 : Hp) (l2 : List HP), I.sub I2 → St W I2 w2 (refHP q R :: l2) → Calls Tryz.prog 65 #[.pointer (some ⟨q, 0, none⟩)] w2 fun e w' => ∃ I', I2.sub I' ∧ e = .returned (.bool (rburn R).1) ∧ St W I' w' (refHP q (rburn R).2 :: l2)) :
    Calls Tryz.prog 10 #[.pointer (some ⟨p, 0, none⟩), .pointer (some ⟨q, 0, none⟩), a.val] w fun e w' => ∃ I', I.sub I' ∧ e = .returned (.bool ((actS S a).1 == (actR R a).1)) ∧ St W I' w' (storeHP p (actS S a).2 :: refHP q (actR R a).2 :: l) := by
  have hky := akey_spec a
  obtain ⟨a0, a1, a2, a3, a4, ⟨j0, j1, j2, j3⟩, ap, av, an, ak, akv⟩ := a
  simp only at h0
  subst h0
  obtain ⟨hpv, _, _, hkv, _⟩ := ha
  simp only at hpv hkv hpl
  have HPV0 := Lib.hid hpv
  obtain ⟨A1, c1, rfl, _⟩ := hpv
  obtain ⟨A2, c2, rfl, _⟩ := hkv
  obtain ⟨K, hK⟩ : ∃ K, A3.key ⟨4, a1, a2, a3, a4, ⟨j0, j1, j2, j3⟩, ap, .slice A1 ap.length c1, an, ak, .slice A2 ak.length c2⟩ = K := ⟨_, rfl⟩
  rw [hK] at hky
  have HX := Lib.hid (show actS S ⟨4, a1, a2, a3, a4, ⟨j0, j1, j2, j3⟩, ap, .slice A1 ap.length c1, an, ak, .slice A2 ak.length c2⟩ = dropS S K by rw [← hK]; rfl)
  have HY := Lib.hid (show actR R ⟨4, a1, a2, a3, a4, ⟨j0, j1, j2, j3⟩, ap, .slice A1 ap.length c1, an, ak, .slice A2 ak.length c2⟩ = rdo R K ⟨4, 0, ⟨#[]⟩, []⟩ by rw [← hK]; rfl)
  obtain ⟨I1, hs1, hI1, h1⟩ := (h.alloc (.cells #[.int .i64 4, .int .i64 a1, .int .i64 a2, .int .i64 a3, .bool a4, .int .i64 j0, .int .i64 j1, .int .i64 j2, .int .i64 j3, .slice A1 ap.length c1, .string an, .slice A2 ak.length c2] 34)).freeze
  have H1 := Lib.hid h1
  have HS1 := Lib.hid hs1
  have HI1 := Lib.hid hI1
  have HKEY := Lib.hid hky
  have HK := Lib.hid hk
  have HI := Lib.hid hi
  have HB := Lib.hid hb
  simp only [A3.val] at HKEY ⊢
  clear h h1 hs1 hI1 hky hk hi hb hK
  go_enter Tryz.func10, Tryz.ntmps10
  go_wp2_with fail
  refine (HKEY.out _).mono ?_
  rintro e w2 ⟨rfl, hb2⟩
  obtain ⟨k0, k1, k2, k3⟩ := K
  have h2 := H1.out.keep hb2
  obtain ⟨I2, hs2, hI2, h2⟩ := (h2.alloc (.cells #[.int .i64 k0, .int .i64 k1, .int .i64 k2, .int .i64 k3] 30)).freeze
  have e0 : w2.cell? ⟨w.heap.size, 0, none⟩ = some (.int .i64 4) := St.imm_cell (H1.out.keep hb2) HI1.out 0
  have hlt0 := (H1.out.keep hb2).imm_lt HI1.out
  simp only [K4.val]
  go_upto_region 12 with fail
  obtain ⟨g5, hg5⟩ : ∃ x, x = w.heap.size := ⟨_, rfl⟩
  obtain ⟨g7, hg7⟩ : ∃ x, x = w2.heap.size := ⟨_, rfl⟩
  obtain ⟨w3, hw3⟩ : ∃ x, x = w2.alloc (.cells #[.int .i64 k0, .int .i64 k1, .int .i64 k2, .int .i64 k3] 30) := ⟨_, rfl⟩
  rw [← hw3] at h2 ⊢
  rw [← hg7] at hI2 ⊢
  have hI5 := hs2 _ _ HI1.out
  rw [← hg5] at hI5 ⊢
  have HS2 := Lib.hid (HS1.out.trans hs2)
  have HI5 := Lib.hid hI5
  have HI7 := Lib.hid hI2
  have H2 := Lib.hid h2.drew
  clear h2 hs2 hI2 hI5 hg5 hg7 hw3 e0 hlt0 hb2 HKEY H1
  obtain ⟨x0, x1, x2, x3⟩ := imm_cells4 H2.out HI7.out
  have hsp := drop_spec ⟨k0, k1, k2, k3⟩ H2.out HK.out
  simp only [K4.val] at hsp
  have HSP := Lib.hid hsp
  clear hsp
  refine wp_region_keep (fun w' => w'.cell? ⟨g7, 0, none⟩ = some (.int .i64 k0) ∧ w'.cell? ⟨g7, 1, none⟩ = some (.int .i64 k1) ∧ w'.cell? ⟨g7, 2, none⟩ = some (.int .i64 k2) ∧ w'.cell? ⟨g7, 3, none⟩ = some (.int .i64 k3)) [0, 1, 3, 4, 5] [2] [6, 7, 8] (by kernel_rfl) (by kernel_rfl) (by (exact ⟨x0, x1, x2, x3⟩)) ?_
  simp only [pickL, List.getElem?_cons_zero, List.getElem?_cons_succ]
  repeat (refine wpFirst_step _ (Or.inl ⟨by rfl, by (intro w hSw; (try dsimp only at hSw); go_simp; try with_reducible rfl)⟩) ?_; (try simp only [Act.put, List.setIfInBounds_toArray, List.set_cons_zero, List.set_cons_succ]))
  refine wpFirst_nil ?_
  unfold wpHold
  clear x0 x1 x2 x3
  go_wp2_with fail
  refine HSP.out.mono ?_
  rintro e w4 ⟨I4, hs4, rfl, h4⟩
  have HI54 := hs4 _ _ HI5.out
  have HI74 := hs4 _ _ HI7.out
  obtain ⟨x0, x1, x2, x3⟩ := imm_cells4 h4 HI74
  have hdo := do3_spec ⟨k0, k1, k2, k3⟩ ⟨4, 0, ⟨#[]⟩, []⟩ (.slice none 0 0) (h4.pull 1 _ rfl) HI.out hc (bytes_nil _) ⟨by simp, .inr (show (0 : Nat) ≤ 20 by decide), .inr (.inr (.inr rfl))⟩ (fun w5 I5 l5 hs h => HB.out w5 I5 l5 ((HS2.out.trans hs4).trans hs) h)
  simp only [K4.val] at hdo
  have HDO := Lib.hid hdo
  have HS4 := Lib.hid (HS2.out.trans hs4)
  clear hdo HSP h4 hs4 HI54 HI74
  go_wp2_with fail
  refine holdPost_normal ⟨x0, x1, x2, x3⟩ ?_
  unfold wpHold
  go_wp2_with fail
  refine HDO.out.mono ?_
  rintro e w6 ⟨I6, hs6, rfl, h6⟩
  have H6 := Lib.hid (h6.pull 1 _ rfl)
  have HS6 := Lib.hid (HS4.out.trans hs6)
  clear h6 hs6 HDO
  go_wp2_with fail
  refine NoPanic.normal ?_
  go_wp2_with fail
  go_ret
  rw [HX.out, HY.out]
  exact ⟨I6, HS6.out, rfl, H6.out⟩
theorem deed5_spec (a : A3) {m c : Nat} (h0 : a.what = 5) (h : St W I w (storeHP p S :: refHP q R :: l)) (hk : Keeps S m) (hi : RInv R c) (hc : c + 1 ≤ 100000) (ha : a.ok I) (hpl : a.p.length ≤ 60)
    (hb : ∀ (w2 : World) (I2 : Hp) (l2 : List HP), I.sub I2 → St W I2 w2 (refHP q R :: l2) → Calls Tryz.prog 65 #[.pointer (some ⟨q, 0, none⟩)] w2 fun e w' => ∃ I', I2.sub I' ∧ e = .returned (.bool (rburn R).1) ∧ St W I' w' (refHP q (rburn R).2 :: l2)) :
    Calls Tryz.prog 10 #[.pointer (some ⟨p, 0, none⟩), .pointer (some ⟨q, 0, none⟩), a.val] w fun e w' => ∃ I', I.sub I' ∧ e = .returned (.bool ((actS S a).1 == (actR R a).1)) ∧ St W I' w' (storeHP p (actS S a).2 :: refHP q (actR R a).2 :: l) := by
  have hky := akey_spec a
  obtain ⟨a0, a1, a2, a3, a4, ⟨j0, j1, j2, j3⟩, ap, av, an, ak, akv⟩ := a
  simp only at h0
  subst h0
  obtain ⟨hpv, _, _, hkv, _⟩ := ha
  simp only at hpv hkv hpl
  have HPV0 := Lib.hid hpv
  obtain ⟨A1, c1, rfl, _⟩ := hpv
  obtain ⟨A2, c2, rfl, _⟩ := hkv
  obtain ⟨K, hK⟩ : ∃ K, A3.key ⟨5, a1, a2, a3, a4, ⟨j0, j1, j2, j3⟩, ap, .slice A1 ap.length c1, an, ak, .slice A2 ak.length c2⟩ = K := ⟨_, rfl⟩
  rw [hK] at hky
  have HX := Lib.hid (show actS S ⟨5, a1, a2, a3, a4, ⟨j0, j1, j2, j3⟩, ap, .slice A1 ap.length c1, an, ak, .slice A2 ak.length c2⟩ = setS S K an ap by rw [← hK]; rfl)
  have HY := Lib.hid (show actR R ⟨5, a1, a2, a3, a4, ⟨j0, j1, j2, j3⟩, ap, .slice A1 ap.length c1, an, ak, .slice A2 ak.length c2⟩ = rdo R K ⟨5, 0, an, ap⟩ by rw [← hK]; rfl)
  obtain ⟨I1, hs1, hI1, h1⟩ := (h.alloc (.cells #[.int .i64 5, .int .i64 a1, .int .i64 a2, .int .i64 a3, .bool a4, .int .i64 j0, .int .i64 j1, .int .i64 j2, .int .i64 j3, .slice A1 ap.length c1, .string an, .slice A2 ak.length c2] 34)).freeze
  have H1 := Lib.hid h1
  have HS1 := Lib.hid hs1
  have HI1 := Lib.hid hI1
  have HKEY := Lib.hid hky
  have HK := Lib.hid hk
  have HI := Lib.hid hi
  have HB := Lib.hid hb
  simp only [A3.val] at HKEY ⊢
  clear h h1 hs1 hI1 hky hk hi hb hK
  go_enter Tryz.func10, Tryz.ntmps10
  go_wp2_with fail
  refine (HKEY.out _).mono ?_
  rintro e w2 ⟨rfl, hb2⟩
  obtain ⟨k0, k1, k2, k3⟩ := K
  have h2 := H1.out.keep hb2
  obtain ⟨I2, hs2, hI2, h2⟩ := (h2.alloc (.cells #[.int .i64 k0, .int .i64 k1, .int .i64 k2, .int .i64 k3] 30)).freeze
  have e0 : w2.cell? ⟨w.heap.size, 0, none⟩ = some (.int .i64 5) := St.imm_cell (H1.out.keep hb2) HI1.out 0
  have hlt0 := (H1.out.keep hb2).imm_lt HI1.out
  simp only [K4.val]
  go_upto_region 14 with fail
  obtain ⟨g5, hg5⟩ : ∃ x, x = w.heap.size := ⟨_, rfl⟩
  obtain ⟨g7, hg7⟩ : ∃ x, x = w2.heap.size := ⟨_, rfl⟩
  obtain ⟨w3, hw3⟩ : ∃ x, x = w2.alloc (.cells #[.int .i64 k0, .int .i64 k1, .int .i64 k2, .int .i64 k3] 30) := ⟨_, rfl⟩
  rw [← hw3] at h2 ⊢
  rw [← hg7] at hI2 ⊢
  have hI5 := hs2 _ _ HI1.out
  rw [← hg5] at hI5 ⊢
  have HS2 := Lib.hid (HS1.out.trans hs2)
  have HI5 := Lib.hid hI5
  have HI7 := Lib.hid hI2
  have H2 := Lib.hid h2.drew
  clear h2 hs2 hI2 hI5 hg5 hg7 hw3 e0 hlt0 hb2 HKEY H1
  obtain ⟨x0, x1, x2, x3⟩ := imm_cells4 H2.out HI7.out
  have e9 : w3.drew.cell? ⟨g5, 9, none⟩ = some (.slice A1 ap.length c1) := St.imm_cell H2.out HI5.out 9
  have e10 : w3.drew.cell? ⟨g5, 10, none⟩ = some (.string an) := St.imm_cell H2.out HI5.out 10
  have hsp := set_spec ⟨k0, k1, k2, k3⟩ an _ ap H2.out HK.out (bytes_src H2.out ((bytesIP _ _).mono HS2.out HPV0.out)) (by omega)
  simp only [K4.val] at hsp
  have HSP := Lib.hid hsp
  clear hsp
  refine wp_region_keep (fun w' => w'.cell? ⟨g7, 0, none⟩ = some (.int .i64 k0) ∧ w'.cell? ⟨g7, 1, none⟩ = some (.int .i64 k1) ∧ w'.cell? ⟨g7, 2, none⟩ = some (.int .i64 k2) ∧ w'.cell? ⟨g7, 3, none⟩ = some (.int .i64 k3) ∧ w'.cell? ⟨g5, 9, none⟩ = some (.slice A1 ap.length c1) ∧ w'.cell? ⟨g5, 10, none⟩ = some (.string an)) [0, 1, 2, 3, 4, 5, 7, 8, 9, 10, 11, 12, 13] [6] [14, 15, 16] (by kernel_rfl) (by kernel_rfl) (by (exact ⟨x0, x1, x2, x3, e9, e10⟩)) ?_
  simp only [pickL, List.getElem?_cons_zero, List.getElem?_cons_succ]
  repeat (refine wpFirst_step _ (Or.inl ⟨by rfl, by (intro w hSw; (try dsimp only at hSw); go_simp; try with_reducible rfl)⟩) ?_; (try simp only [Act.put, List.setIfInBounds_toArray, List.set_cons_zero, List.set_cons_succ]))
  refine wpFirst_nil ?_
  unfold wpHold
  clear x0 x1 x2 x3 e9 e10
  go_wp2_with fail
  refine HSP.out.mono ?_
  rintro e w4 ⟨I4, hs4, rfl, h4⟩
  have HI54 := hs4 _ _ HI5.out
  have HI74 := hs4 _ _ HI7.out
  obtain ⟨x0, x1, x2, x3⟩ := imm_cells4 h4 HI74
  have e9 : w4.cell? ⟨g5, 9, none⟩ = some (.slice A1 ap.length c1) := St.imm_cell h4 HI54 9
  have e10 : w4.cell? ⟨g5, 10, none⟩ = some (.string an) := St.imm_cell h4 HI54 10
  have hdo := do3_spec ⟨k0, k1, k2, k3⟩ ⟨5, 0, an, ap⟩ (.slice A1 ap.length c1) (h4.pull 1 _ rfl) HI.out hc ((bytesIP _ _).mono (HS2.out.trans hs4) HPV0.out) ⟨by simp only; omega, .inl rfl, .inr (.inr (.inr rfl))⟩ (fun w5 I5 l5 hs h => HB.out w5 I5 l5 ((HS2.out.trans hs4).trans hs) h)
  simp only [K4.val] at hdo
  have HDO := Lib.hid hdo
  have HS4 := Lib.hid (HS2.out.trans hs4)
  clear hdo HSP h4 hs4 HI54 HI74
  go_wp2_with fail
  refine holdPost_normal ⟨x0, x1, x2, x3, e9, e10⟩ ?_
  unfold wpHold
  go_wp2_with fail
  refine HDO.out.mono ?_
  rintro e w6 ⟨I6, hs6, rfl, h6⟩
  have H6 := Lib.hid (h6.pull 1 _ rfl)
  have HS6 := Lib.hid (HS4.out.trans hs6)
  clear h6 hs6 HDO
  go_wp2_with fail
  refine NoPanic.normal ?_
  go_wp2_with fail
  go_ret
  rw [HX.out, HY.out]
  exact ⟨I6, HS6.out, rfl, H6.out⟩
theorem deed6_spec (a : A3) {m c : Nat} (h0 : a.what = 6) (h : St W I w (storeHP p S :: refHP q R :: l)) (hk : Keeps S m) (hi : RInv R c) (hc : c + 1 ≤ 100000) (ha : a.ok I) (hpl : a.p.length ≤ 60)
    (hb : ∀ (w2 : World) (I2 : Hp) (l2 : List HP), I.sub I2 → St W I2 w2 (refHP q R :: l2) → Calls Tryz.prog 65 #[.pointer (some ⟨q, 0, none⟩)] w2 fun e w' => ∃ I', I2.sub I' ∧ e = .returned (.bool (rburn R).1) ∧ St W I' w' (refHP q (rburn R).2 :: l2)) :
    Calls Tryz.prog 10 #[.pointer (some ⟨p, 0, none⟩), .pointer (some ⟨q, 0, none⟩), a.val] w fun e w' => ∃ I', I.sub I' ∧ e = .returned (.bool ((actS S a).1 == (actR R a).1)) ∧ St W I' w' (storeHP p (actS S a).2 :: refHP q (actR R a).2 :: l) := by
  have hky := akey_spec a
  obtain ⟨a0, a1, a2, a3, a4, ⟨j0, j1, j2, j3⟩, ap, av, an, ak, akv⟩ := a
  simp only at h0
  subst h0
  obtain ⟨hpv, _, _, hkv, _⟩ := ha
  simp only at hpv hkv hpl
  have HPV0 := Lib.hid hpv
  obtain ⟨A1, c1, rfl, _⟩ := hpv
  obtain ⟨A2, c2, rfl, _⟩ := hkv
  obtain ⟨K, hK⟩ : ∃ K, A3.key ⟨6, a1, a2, a3, a4, ⟨j0, j1, j2, j3⟩, ap, .slice A1 ap.length c1, an, ak, .slice A2 ak.length c2⟩ = K := ⟨_, rfl⟩
  rw [hK] at hky
  have HX := Lib.hid (show actS S ⟨6, a1, a2, a3, a4, ⟨j0, j1, j2, j3⟩, ap, .slice A1 ap.length c1, an, ak, .slice A2 ak.length c2⟩ = barrierS S by rfl)
  have HY := Lib.hid (show actR R ⟨6, a1, a2, a3, a4, ⟨j0, j1, j2, j3⟩, ap, .slice A1 ap.length c1, an, ak, .slice A2 ak.length c2⟩ = rbarrier R by rfl)
  obtain ⟨I1, hs1, hI1, h1⟩ := (h.alloc (.cells #[.int .i64 6, .int .i64 a1, .int .i64 a2, .int .i64 a3, .bool a4, .int .i64 j0, .int .i64 j1, .int .i64 j2, .int .i64 j3, .slice A1 ap.length c1, .string an, .slice A2 ak.length c2] 34)).freeze
  have H1 := Lib.hid h1
  have HS1 := Lib.hid hs1
  have HI1 := Lib.hid hI1
  have HKEY := Lib.hid hky
  have HK := Lib.hid hk
  have HI := Lib.hid hi
  have HB := Lib.hid hb
  simp only [A3.val] at HKEY ⊢
  clear h h1 hs1 hI1 hky hk hi hb hK
  go_enter Tryz.func10, Tryz.ntmps10
  go_wp2_with fail
  refine (HKEY.out _).mono ?_
  rintro e w2 ⟨rfl, hb2⟩
  obtain ⟨k0, k1, k2, k3⟩ := K
  have h2 := H1.out.keep hb2
  obtain ⟨I2, hs2, hI2, h2⟩ := (h2.alloc (.cells #[.int .i64 k0, .int .i64 k1, .int .i64 k2, .int .i64 k3] 30)).freeze
  have e0 : w2.cell? ⟨w.heap.size, 0, none⟩ = some (.int .i64 6) := St.imm_cell (H1.out.keep hb2) HI1.out 0
  have hlt0 := (H1.out.keep hb2).imm_lt HI1.out
  simp only [K4.val]
  go_upto_region 16 with fail
  obtain ⟨g5, hg5⟩ : ∃ x, x = w.heap.size := ⟨_, rfl⟩
  obtain ⟨g7, hg7⟩ : ∃ x, x = w2.heap.size := ⟨_, rfl⟩
  obtain ⟨w3, hw3⟩ : ∃ x, x = w2.alloc (.cells #[.int .i64 k0, .int .i64 k1, .int .i64 k2, .int .i64 k3] 30) := ⟨_, rfl⟩
  rw [← hw3] at h2 ⊢
  rw [← hg7] at hI2 ⊢
  have hI5 := hs2 _ _ HI1.out
  rw [← hg5] at hI5 ⊢
  have HS2 := Lib.hid (HS1.out.trans hs2)
  have HI5 := Lib.hid hI5
  have HI7 := Lib.hid hI2
  have H2 := Lib.hid h2
  clear h2 hs2 hI2 hI5 hg5 hg7 hw3 e0 hlt0 hb2 HKEY H1
  clear HI5 HI7
  have hsp := barrier_spec H2.out HK.out
  have HSP := Lib.hid hsp
  clear hsp
  go_wp2_with fail
  refine HSP.out.mono ?_
  rintro e w4 ⟨I4, hs4, rfl, h4⟩
  have h5 := h4.pull 1 _ rfl
  have hbar := bar3_spec h5 HI.out (rburn_inv HI.out) rburn_same (HB.out _ _ _ (HS2.out.trans hs4) h5)
  have HBAR := Lib.hid hbar
  have HS4 := Lib.hid (HS2.out.trans hs4)
  clear hbar HSP h4 h5 hs4
  go_wp2_with fail
  refine HBAR.out.mono ?_
  rintro e w6 ⟨I6, hs6, rfl, h6⟩
  have H6 := Lib.hid (h6.pull 1 _ rfl)
  have HS6 := Lib.hid (HS4.out.trans hs6)
  clear h6 hs6 HBAR
  go_wp2_with fail
  go_ret
  rw [HX.out, HY.out]
  exact ⟨I6, HS6.out, rfl, H6.out⟩
end
end Go.Proofs.YtagljjhfkhadpaaGreat
/- One act of both stores, acts 0 to 6, in one; what it keeps. -/
namespace Go.Proofs.YtagljjhfkhadpaaGreat
open Go.RowKit
theorem actS_keeps {S : Str} {a : A3} {m : Nat} (h : Keeps S (m + 2)) : Keeps (actS S a).2 m := by
  unfold actS
  repeat' split
  · exact makeS_keeps h
  · exact writeS_keeps h
  · exact appendS_keeps h
  · exact trimS_keeps h
  · exact dropS_keeps h
  · exact setS_keeps h
  · exact barrierS_keeps (h.fewer (by omega))
  · exact h.fewer (by omega)
theorem actD_may (a : A3) (hp : a.p.length ≤ 60) : (actD a).may := by
  have z : (⟨#[]⟩ : ByteArray).size ≤ 20 := show (0 : Nat) ≤ 20 by decide
  unfold actD
  repeat' split
  · exact ⟨by simp, .inr z, .inr (.inr (.inr rfl))⟩
  · exact ⟨by simp only; omega, .inr z, .inl rfl⟩
  · exact ⟨by simp only; omega, .inr z, .inr (.inr (.inl rfl))⟩
  · exact ⟨by simp, .inr z, .inr (.inl rfl)⟩
  · exact ⟨by simp, .inr z, .inr (.inr (.inr rfl))⟩
  · exact ⟨by simp only; omega, .inl rfl, .inr (.inr (.inr rfl))⟩
theorem actR_inv {R : RS} {a : A3} {c : Nat} (h : RInv R c) (hp : a.p.length ≤ 60) (hc : c + 1 ≤ 100000) : RInv (actR R a).2 (c + 1) := by
  unfold actR
  split
  · exact (rbarrier_inv h).more (by omega) hc
  · exact rdo_inv h _ (actD_may a hp) hc
theorem rburn_calm {R : RS} (h : R.fused = false) : rburn R = (false, R) := by simp [rburn, h]
theorem actR_calm {R : RS} {a : A3} (h : R.fused = false) : (actR R a).2.fused = false ∧ (actR R a).2.off = R.off := by
  unfold actR
  split
  · unfold rbarrier
    rw [rburn_calm h]
    split
    · exact ⟨h, rfl⟩
    · simp [h]
  · unfold rdo
    rw [rburn_calm h]
    split
    · exact ⟨h, rfl⟩
    · simp [h]
section
variable {W w : World} {I : Hp} {l : List HP} {p q : Nat} {S : Str} {R : RS}
theorem deed_spec (a : A3) {m c : Nat} (h0 : 0 ≤ a.what ∧ a.what < 7) (h : St W I w (storeHP p S :: refHP q R :: l)) (hk : Keeps S m) (hi : RInv R c) (hc : c + 1 ≤ 100000) (ha : a.ok I) (hpl : a.p.length ≤ 60)
    (hb : ∀ (w2 : World) (I2 : Hp) (l2 : List HP), I.sub I2 → St W I2 w2 (refHP q R :: l2) → Calls Tryz.prog 65 #[.pointer (some ⟨q, 0, none⟩)] w2 fun e w' => ∃ I', I2.sub I' ∧ e = .returned (.bool (rburn R).1) ∧ St W I' w' (refHP q (rburn R).2 :: l2)) :
    Calls Tryz.prog 10 #[.pointer (some ⟨p, 0, none⟩), .pointer (some ⟨q, 0, none⟩), a.val] w fun e w' => ∃ I', I.sub I' ∧ e = .returned (.bool ((actS S a).1 == (actR R a).1)) ∧ St W I' w' (storeHP p (actS S a).2 :: refHP q (actR R a).2 :: l) := by
  have hc7 : a.what = 0 ∨ a.what = 1 ∨ a.what = 2 ∨ a.what = 3 ∨ a.what = 4 ∨ a.what = 5 ∨ a.what = 6 := by omega
  rcases hc7 with e | e | e | e | e | e | e
  · exact deed0_spec a e h hk hi hc ha hpl hb
  · exact deed1_spec a e h hk hi hc ha hpl hb
  · exact deed2_spec a e h hk hi hc ha hpl hb
  · exact deed3_spec a e h hk hi hc ha hpl hb
  · exact deed4_spec a e h hk hi hc ha hpl hb
  · exact deed5_spec a e h hk hi hc ha hpl hb
  · exact deed6_spec a e h hk hi hc ha hpl hb
/-- Where the document's store isn't fused. -/
theorem deed_calm (a : A3) {m c : Nat} (h0 : 0 ≤ a.what ∧ a.what < 7) (h : St W I w (storeHP p S :: refHP q R :: l)) (hk : Keeps S m) (hi : RInv R c) (hc : c + 1 ≤ 100000) (ha : a.ok I) (hpl : a.p.length ≤ 60) (hf : R.fused = false) :
    Calls Tryz.prog 10 #[.pointer (some ⟨p, 0, none⟩), .pointer (some ⟨q, 0, none⟩), a.val] w fun e w' => ∃ I', I.sub I' ∧ e = .returned (.bool ((actS S a).1 == (actR R a).1)) ∧ St W I' w' (storeHP p (actS S a).2 :: refHP q (actR R a).2 :: l) :=
  deed_spec a h0 h hk hi hc ha hpl fun w2 I2 l2 _ h2 => burn3_calm h2 hf
end
theorem ours_what (a : A3) : 0 ≤ a.ours.what ∧ a.ours.what < 7 := by
  unfold A3.ours
  simp only
  omega
end Go.Proofs.YtagljjhfkhadpaaGreat
