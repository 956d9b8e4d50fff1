/- StorePlays: the law's walk. -/
import Derived.Test.YtagljjhfkhadpaaGreatPlays3
import Derived.Test.YtagljjhfkhadpaaGreatKnown3
import Derived.Test.YtagljjhfkhadpaaGreatTwin
import Derived.Test.YtagljjhfkhadpaaGreatRowsk
set_option linter.unusedSimpArgs false
set_option linter.unusedVariables false
set_option linter.unusedSectionVars false
namespace Go.Proofs.YtagljjhfkhadpaaGreat
open Go.RowKit
section
variable {W w : World} {I : Hp} {p q : Nat} {S : Str} {R : RS}
set_option maxRecDepth 4000
set_option maxHeartbeats 8000000
/-- Region 13 on: an act that both do. -/
theorem plays3_act {a1 b1 : Code} {Q : Exit → Act → World → Prop} {K : Act → World → Prop} (hK : ∀ x y, b1.wp Tryz.prog Q x y → K x y) (hC : (Tryz.f3).body.bind (fromR 13) = some (.seq a1 b1)) {x0 x2 x3 x4 x8 x9 x10 x11 x12 x13 x14 x15 x16 x17 x18 x19 x20 x21 x22 x23 x24 x25 x26 x27 x28 x29 x30 x31 x32 x33 x34 x35 x36 x37 x38 x39 x40 x41 x42 x43 x44 x45 x46 x47 x48 x49 x50 x51 x52 x53 x54 x55 x56 x57 x58 x59 x60 x61 x62 x63 : Value} {b off n c1 i m c : Nat} {b0 b1 b2 b3 j0 j1 j2 j3 : Int} {b4 : Bool} {ap ak : List Int} {an : ByteArray} {Ap Ak : Option Addr} {cp ck : Nat}
    (h : St W I w (storeHP p S :: refHP q R :: [])) (hp : PI S R (m + 2) c) (hc : c + 1 < 2000) (ha : A3.ok I ⟨b0, b1, b2, b3, b4, ⟨j0, j1, j2, j3⟩, ap, .slice Ap ap.length cp, an, ak, .slice Ak ak.length ck⟩) (hpl : ap.length ≤ 60) (hkl : ak.length ≤ 20) (hin : i < n) (hnc : n ≤ c1) (hn : n ≤ 60)
    (hcell : ∀ (w' : World) (I' : Hp) (l : List HP), I.sub I' → St W I' w' l → w'.cell? ⟨b, off + i * 12, none⟩ = some (.int .i64 b0) ∧ w'.cell? ⟨b, off + i * 12 + 1, none⟩ = some (.int .i64 b1) ∧ w'.cell? ⟨b, off + i * 12 + 2, none⟩ = some (.int .i64 b2) ∧ w'.cell? ⟨b, off + i * 12 + 3, none⟩ = some (.int .i64 b3) ∧ w'.cell? ⟨b, off + i * 12 + 4, none⟩ = some (.bool b4) ∧ w'.cell? ⟨b, off + i * 12 + 5, none⟩ = some (.int .i64 j0) ∧ w'.cell? ⟨b, off + i * 12 + 6, none⟩ = some (.int .i64 j1) ∧ w'.cell? ⟨b, off + i * 12 + 7, none⟩ = some (.int .i64 j2) ∧ w'.cell? ⟨b, off + i * 12 + 8, none⟩ = some (.int .i64 j3) ∧ w'.cell? ⟨b, off + i * 12 + 9, none⟩ = some (.slice Ap ap.length cp) ∧ w'.cell? ⟨b, off + i * 12 + 10, none⟩ = some (.string an) ∧ w'.cell? ⟨b, off + i * 12 + 11, none⟩ = some (.slice Ak ak.length ck))
    (hQ : ∀ (y4 y34 y35 y36 y37 y38 y39 y40 y41 y42 y43 y44 y45 y46 y47 y48 y49 y50 y51 y52 y53 y54 y55 y56 y57 y58 y59 y60 y61 y62 : Value) (I' : Hp) (w' : World) (T : Str) (U : RS), I.sub I' → PI T U m (c + 1) → St W I' w' (storeHP p T :: refHP q U :: []) → Q .normal ⟨#[x0, .slice (some ⟨b, off, none⟩) n c1, x2, x3, y4, .pointer (some ⟨p, 0, none⟩), .pointer (some ⟨q, 0, none⟩), .int .i64 i, x8, x9, x10, x11, x12, x13, x14, x15, x16, x17, x18, x19, x20, x21, x22, x23, x24, x25, x26, x27, x28, x29, x30, x31, x32, x33, y34, y35, y36, y37, y38, y39, y40, y41, y42, y43, y44, y45, y46, y47, y48, y49, y50, y51, y52, y53, y54, y55, y56, y57, y58, y59, y60, y61, y62, x63], []⟩ w') :
    a1.wp Tryz.prog (Exit.then K Q) ⟨#[x0, .slice (some ⟨b, off, none⟩) n c1, x2, x3, x4, .pointer (some ⟨p, 0, none⟩), .pointer (some ⟨q, 0, none⟩), .int .i64 i, x8, x9, x10, x11, x12, x13, x14, x15, x16, x17, x18, x19, x20, x21, x22, x23, x24, x25, x26, x27, x28, x29, x30, x31, x32, x33, x34, x35, x36, x37, x38, x39, x40, x41, x42, x43, x44, x45, x46, x47, x48, x49, x50, x51, x52, x53, x54, x55, x56, x57, x58, x59, x60, x61, x62, x63], []⟩ w := by
  injection hC with hC
  injection hC with hC1 hC2
  subst hC1 hC2
  have HQ := Lib.hid hQ
  have hdd := deedA_spec ⟨b0, b1, b2, b3, b4, ⟨j0, j1, j2, j3⟩, ap, .slice Ap ap.length cp, an, ak, .slice Ak ak.length ck⟩ h.drew hp hc ha hpl hkl
  have hst := hp.step hc ⟨b0, b1, b2, b3, b4, ⟨j0, j1, j2, j3⟩, ap, .slice Ap ap.length cp, an, ak, .slice Ak ak.length ck⟩ hpl hkl ⟨ha.2.2.2.2.2.2.2.1, ha.2.2.2.2.2.2.2.2⟩
  obtain ⟨T, hT⟩ : ∃ T, stepS S ⟨b0, b1, b2, b3, b4, ⟨j0, j1, j2, j3⟩, ap, .slice Ap ap.length cp, an, ak, .slice Ak ak.length ck⟩ = T := ⟨_, rfl⟩
  obtain ⟨U, hU⟩ : ∃ U, stepR R ⟨b0, b1, b2, b3, b4, ⟨j0, j1, j2, j3⟩, ap, .slice Ap ap.length cp, an, ak, .slice Ak ak.length ck⟩ = U := ⟨_, rfl⟩
  rw [hT, hU] at hdd hst
  have hky := akey_spec ⟨b0, b1, b2, b3, b4, ⟨j0, j1, j2, j3⟩, ap, .slice Ap ap.length cp, an, ak, .slice Ak ak.length ck⟩
  obtain ⟨⟨k0, k1, k2, k3⟩, hKK⟩ : ∃ K, A3.key ⟨b0, b1, b2, b3, b4, ⟨j0, j1, j2, j3⟩, ap, .slice Ap ap.length cp, an, ak, .slice Ak ak.length ck⟩ = K := ⟨_, rfl⟩
  rw [hKK] at hky
  simp only [A3.val] at hdd hky
  simp only [K4.val] at hky
  have hr1 := right_spec ⟨k0, k1, k2, k3⟩
  have hr2 := right3_spec ⟨k0, k1, k2, k3⟩
  simp only [K4.val] at hr1 hr2
  obtain ⟨ok, hok⟩ : ∃ ok, K4.ok ⟨k0, k1, k2, k3⟩ = ok := ⟨_, rfl⟩
  rw [hok] at hr1 hr2
  have HDD := Lib.hid hdd
  have HPI := Lib.hid hst
  have HKY := Lib.hid hky
  have HR1 := Lib.hid hr1
  have HR2 := Lib.hid hr2
  have HC0 := Lib.hid (hcell _ I _ (Hp.sub.refl _) h.drew)
  have HMK : Hid (∀ (w' : World) (I' : Hp), I.sub I' → St W I' w' (storeHP p T :: refHP q U :: []) → (∃ I', I.sub I' ∧ St W I' w' (storeHP p T :: refHP q U :: [])) ∧ w'.cell? ⟨b, off + i * 12, none⟩ = some (.int .i64 b0) ∧ w'.cell? ⟨b, off + i * 12 + 1, none⟩ = some (.int .i64 b1) ∧ w'.cell? ⟨b, off + i * 12 + 2, none⟩ = some (.int .i64 b2) ∧ w'.cell? ⟨b, off + i * 12 + 3, none⟩ = some (.int .i64 b3) ∧ w'.cell? ⟨b, off + i * 12 + 4, none⟩ = some (.bool b4) ∧ w'.cell? ⟨b, off + i * 12 + 5, none⟩ = some (.int .i64 j0) ∧ w'.cell? ⟨b, off + i * 12 + 6, none⟩ = some (.int .i64 j1) ∧ w'.cell? ⟨b, off + i * 12 + 7, none⟩ = some (.int .i64 j2) ∧ w'.cell? ⟨b, off + i * 12 + 8, none⟩ = some (.int .i64 j3) ∧ w'.cell? ⟨b, off + i * 12 + 9, none⟩ = some (.slice Ap ap.length cp) ∧ w'.cell? ⟨b, off + i * 12 + 10, none⟩ = some (.string an) ∧ w'.cell? ⟨b, off + i * 12 + 11, none⟩ = some (.slice Ak ak.length ck)) := Lib.hid (fun w' I' h1 h2 => ⟨⟨I', h1, h2⟩, hcell w' I' _ h1 h2⟩)
  have hni : (i : Int) < (n : Int) := by omega
  clear h hp ha hcell hQ hdd hst hT hU hky hKK hr1 hr2 hok
  refine wp_region_hd (fun w' => w'.cell? ⟨b, off + i * 12, none⟩ = some (.int .i64 b0) ∧ w'.cell? ⟨b, off + i * 12 + 1, none⟩ = some (.int .i64 b1) ∧ w'.cell? ⟨b, off + i * 12 + 2, none⟩ = some (.int .i64 b2) ∧ w'.cell? ⟨b, off + i * 12 + 3, none⟩ = some (.int .i64 b3) ∧ w'.cell? ⟨b, off + i * 12 + 4, none⟩ = some (.bool b4) ∧ w'.cell? ⟨b, off + i * 12 + 5, none⟩ = some (.int .i64 j0) ∧ w'.cell? ⟨b, off + i * 12 + 6, none⟩ = some (.int .i64 j1) ∧ w'.cell? ⟨b, off + i * 12 + 7, none⟩ = some (.int .i64 j2) ∧ w'.cell? ⟨b, off + i * 12 + 8, none⟩ = some (.int .i64 j3) ∧ w'.cell? ⟨b, off + i * 12 + 9, none⟩ = some (.slice Ap ap.length cp) ∧ w'.cell? ⟨b, off + i * 12 + 10, none⟩ = some (.string an) ∧ w'.cell? ⟨b, off + i * 12 + 11, none⟩ = some (.slice Ak ak.length ck)) (fun w' => (∃ I', I.sub I' ∧ St W I' w' (storeHP p T :: refHP q U :: [])) ∧ w'.cell? ⟨b, off + i * 12, none⟩ = some (.int .i64 b0) ∧ w'.cell? ⟨b, off + i * 12 + 1, none⟩ = some (.int .i64 b1) ∧ w'.cell? ⟨b, off + i * 12 + 2, none⟩ = some (.int .i64 b2) ∧ w'.cell? ⟨b, off + i * 12 + 3, none⟩ = some (.int .i64 b3) ∧ w'.cell? ⟨b, off + i * 12 + 4, none⟩ = some (.bool b4) ∧ w'.cell? ⟨b, off + i * 12 + 5, none⟩ = some (.int .i64 j0) ∧ w'.cell? ⟨b, off + i * 12 + 6, none⟩ = some (.int .i64 j1) ∧ w'.cell? ⟨b, off + i * 12 + 7, none⟩ = some (.int .i64 j2) ∧ w'.cell? ⟨b, off + i * 12 + 8, none⟩ = some (.int .i64 j3) ∧ w'.cell? ⟨b, off + i * 12 + 9, none⟩ = some (.slice Ap ap.length cp) ∧ w'.cell? ⟨b, off + i * 12 + 10, none⟩ = some (.string an) ∧ w'.cell? ⟨b, off + i * 12 + 11, none⟩ = some (.slice Ak ak.length ck)) [0, 1, 2, 3, 4, 5] [6] [7, 8, 9, 10, 11, 12, 13, 14, 15, 16, 17, 18, 19, 20, 21, 22, 23, 24, 25, 26, 27, 28] [] (by kernel_rfl) (by kernel_rfl) (by (exact HC0.out)) ?_
  simp only [pickL, List.getElem?_cons_zero, List.getElem?_cons_succ]
  repeat (refine wpFirst_step _ (Or.inl ⟨by rfl, by (intro w hSw; (try dsimp only at hSw); go_simp; try with_reducible rfl)⟩) ?_; (try simp only [Act.put, List.setIfInBounds_toArray, List.set_cons_zero, List.set_cons_succ]))
  refine wpFirst_nil ?_
  unfold wpHold
  go_wp2_with fail
  refine HDD.out.mono ?_
  rintro e w2 ⟨I2, hs2, rfl, h2⟩
  have hx := HMK.out _ I2 hs2 h2
  have HX := Lib.hid hx
  clear hx h2 hs2 HDD
  go_wp2_with fail
  refine holdPost_normal trivial ?_
  unfold wpHold
  refine ⟨HX.out, ?_⟩
  repeat (first | (refine wpDet_step _ (by rfl) (by (intro w hSw; (try dsimp only at hSw); go_simp; try with_reducible rfl)) ?_; (try simp only [Act.put, List.setIfInBounds_toArray, List.set_cons_zero, List.set_cons_succ])) | (refine wpDet_skip (by rfl) ?_; (try simp only [Act.put, List.setIfInBounds_toArray, List.set_cons_zero, List.set_cons_succ])) | fail)
  refine wpDet_call (.bool true) (11) (#[.pointer (some ⟨p, 0, none⟩), .pointer (some ⟨q, 0, none⟩)]) (by rfl) (by intro w; go_simp; try with_reducible rfl) (by (rintro w1 ⟨⟨I', h1, h2⟩, _⟩; exact (same_spec3 h2 HPI.out).mono (by rintro e w' ⟨I2, h3, rfl, h4⟩; exact ⟨rfl, HMK.out _ I2 (h1.trans h3) h4⟩))) ?_
  (try simp only [Act.put, List.setIfInBounds_toArray, List.set_cons_zero, List.set_cons_succ])
  repeat (first | (refine wpDet_step _ (by rfl) (by (intro w hSw; (try dsimp only at hSw); go_simp; try with_reducible rfl)) ?_; (try simp only [Act.put, List.setIfInBounds_toArray, List.set_cons_zero, List.set_cons_succ])) | (refine wpDet_skip (by rfl) ?_; (try simp only [Act.put, List.setIfInBounds_toArray, List.set_cons_zero, List.set_cons_succ])) | fail)
  refine wpDet_call (.agg #[.int .i64 k0, .int .i64 k1, .int .i64 k2, .int .i64 k3]) (13) (#[.agg #[.int .i64 b0, .int .i64 b1, .int .i64 b2, .int .i64 b3, .bool b4, .int .i64 j0, .int .i64 j1, .int .i64 j2, .int .i64 j3, .slice Ap ap.length cp, .string an, .slice Ak ak.length ck]]) (by rfl) (by intro w; go_simp; try with_reducible rfl) (by (rintro w1 ⟨⟨I', h1, h2⟩, _⟩; exact (HKY.out w1).mono (by rintro e w' ⟨rfl, hb⟩; exact ⟨rfl, HMK.out _ I' h1 (h2.keep hb)⟩))) ?_
  (try simp only [Act.put, List.setIfInBounds_toArray, List.set_cons_zero, List.set_cons_succ])
  repeat (first | (refine wpDet_step _ (by rfl) (by (intro w hSw; (try dsimp only at hSw); go_simp; try with_reducible rfl)) ?_; (try simp only [Act.put, List.setIfInBounds_toArray, List.set_cons_zero, List.set_cons_succ])) | (refine wpDet_skip (by rfl) ?_; (try simp only [Act.put, List.setIfInBounds_toArray, List.set_cons_zero, List.set_cons_succ])) | fail)
  refine wpDet_call (.bool ok) (12) (#[.agg #[.int .i64 k0, .int .i64 k1, .int .i64 k2, .int .i64 k3]]) (by rfl) (by intro w; go_simp; try with_reducible rfl) (by (rintro w1 ⟨⟨I', h1, h2⟩, _⟩; exact (HR1.out w1).mono (by rintro e w' ⟨rfl, hb⟩; exact ⟨rfl, HMK.out _ I' h1 (h2.keep hb)⟩))) ?_
  (try simp only [Act.put, List.setIfInBounds_toArray, List.set_cons_zero, List.set_cons_succ])
  repeat (first | (refine wpDet_step _ (by rfl) (by (intro w hSw; (try dsimp only at hSw); go_simp; try with_reducible rfl)) ?_; (try simp only [Act.put, List.setIfInBounds_toArray, List.set_cons_zero, List.set_cons_succ])) | (refine wpDet_skip (by rfl) ?_; (try simp only [Act.put, List.setIfInBounds_toArray, List.set_cons_zero, List.set_cons_succ])) | fail)
  refine wpDet_call (.agg #[.int .i64 k0, .int .i64 k1, .int .i64 k2, .int .i64 k3]) (13) (#[.agg #[.int .i64 b0, .int .i64 b1, .int .i64 b2, .int .i64 b3, .bool b4, .int .i64 j0, .int .i64 j1, .int .i64 j2, .int .i64 j3, .slice Ap ap.length cp, .string an, .slice Ak ak.length ck]]) (by rfl) (by intro w; go_simp; try with_reducible rfl) (by (rintro w1 ⟨⟨I', h1, h2⟩, _⟩; exact (HKY.out w1).mono (by rintro e w' ⟨rfl, hb⟩; exact ⟨rfl, HMK.out _ I' h1 (h2.keep hb)⟩))) ?_
  (try simp only [Act.put, List.setIfInBounds_toArray, List.set_cons_zero, List.set_cons_succ])
  repeat (first | (refine wpDet_step _ (by rfl) (by (intro w hSw; (try dsimp only at hSw); go_simp; try with_reducible rfl)) ?_; (try simp only [Act.put, List.setIfInBounds_toArray, List.set_cons_zero, List.set_cons_succ])) | (refine wpDet_skip (by rfl) ?_; (try simp only [Act.put, List.setIfInBounds_toArray, List.set_cons_zero, List.set_cons_succ])) | fail)
  refine wpDet_call (.bool ok) (14) (#[.agg #[.int .i64 k0, .int .i64 k1, .int .i64 k2, .int .i64 k3]]) (by rfl) (by intro w; go_simp; try with_reducible rfl) (by (rintro w1 ⟨⟨I', h1, h2⟩, _⟩; exact (HR2.out w1).mono (by rintro e w' ⟨rfl, hb⟩; exact ⟨rfl, HMK.out _ I' h1 (h2.keep hb)⟩))) ?_
  (try simp only [Act.put, List.setIfInBounds_toArray, List.set_cons_zero, List.set_cons_succ])
  repeat (first | (refine wpDet_step _ (by rfl) (by (intro w hSw; (try dsimp only at hSw); go_simp; try with_reducible rfl)) ?_; (try simp only [Act.put, List.setIfInBounds_toArray, List.set_cons_zero, List.set_cons_succ])) | (refine wpDet_skip (by rfl) ?_; (try simp only [Act.put, List.setIfInBounds_toArray, List.set_cons_zero, List.set_cons_succ])) | fail)
  refine wpDet_nil ?_
  rintro w3 ⟨⟨I3, hs3, h3⟩, _⟩
  have H3 := Lib.hid h3
  have HS3 := Lib.hid hs3
  clear h3 hs3 HX HC0
  go_wp2_with fail
  refine NoPanic.normal ?_
  go_wp2_with fail
  exact HQ.out _ _ _ _ _ _ _ _ _ _ _ _ _ _ _ _ _ _ _ _ _ _ _ _ _ _ _ _ _ _ I3 _ T U HS3.out HPI.out H3.out
theorem A3.ok_to {I I' : Hp} {a : A3} (h : a.ok I) (s : I.sub I') : a.ok I' := ⟨(bytesIP _ _).mono s h.1, h.2.1, h.2.2.1, (intsIP _ _).mono s h.2.2.2.1, h.2.2.2.2⟩
theorem few_all3 {ls : List A3} (h : fewA ls = true) : ls.length ≤ 60 ∧ ∀ a ∈ ls, a.p.length ≤ 60 ∧ a.keep.length ≤ 20 := by
  unfold fewA at h
  simp only [Bool.and_eq_true, decide_eq_true_eq, List.all_eq_true] at h
  refine ⟨h.2, fun a ha => ?_⟩
  have := h.1 a ha
  unfold A3.few at this
  rw [decide_eq_true_eq] at this
  omega
theorem PI.fewer {S : Str} {R : RS} {m n c : Nat} (h : PI S R m c) (hn : n ≤ m) : PI S R n c := ⟨h.sr, h.okr, h.ks.fewer hn, h.ri, h.tn⟩
theorem plays3_walk (a0 : Int) (v1 : Value) (ls : List A3) (W : World) (h1 : RowI W.hp 12 v1 ls.length (ls.flatMap A3.vals)) (hok : ∀ a ∈ ls, a.ok W.hp) (hn : ls.length ≤ maxLen) :
    Calls Tryz.prog 3 #[.int .i64 a0, v1] W fun e w' => e = .returned (.bool true) ∧ Below W.heap.size W w' := by
  have hfs := few_spec v1 ls W h1 hok hn
  have H1 := Lib.hid h1
  have HOK := Lib.hid hok
  obtain ⟨A1, c1, rfl, _, hlc, _⟩ := h1
  unfold maxLen at hn
  have hn1 : (ls.length : Int) ≤ 9223372036854775807 := by omega
  clear hok
  cases hfw : fewA ls with
  | false =>
    rw [hfw] at hfs
    have HFS := Lib.hid hfs
    clear hfs
    go_enter Tryz.func3, Tryz.ntmps3
    go_wp2_with fail
    refine HFS.out.mono ?_
    rintro e w1 ⟨rfl, rfl⟩
    go_wp2_with fail
    refine (known3_spec W).mono ?_
    rintro e w1 ⟨rfl, hb⟩
    have HB := Lib.hid hb
    clear hb
    go_wp2_with fail
    go_ret
    exact ⟨rfl, HB.out⟩
  | true =>
    rw [hfw] at hfs
    have HFS := Lib.hid hfs
    obtain ⟨hl60, hp60⟩ := few_all3 hfw
    have HP60 := Lib.hid hp60
    clear hfs hp60 hfw
    go_enter Tryz.func3, Tryz.ntmps3
    go_wp2_with fail
    refine HFS.out.mono ?_
    rintro e w1 ⟨rfl, rfl⟩
    go_wp2_with fail
    refine (new_spec a0 (St.init W)).mono ?_
    rintro e w2 ⟨p0, rfl, h2⟩
    have HN := Lib.hid (new3_spec a0 h2)
    clear h2
    go_wp2_with fail
    refine HN.out.mono ?_
    rintro e w3 ⟨q, rfl, h3⟩
    have H3 := Lib.hid h3
    clear h3 HN
    go_wp2_with fail
    go_loopw [5, 7] (fun a5 a7 wr => ∃ (i p : Nat) (S : Str) (R : RS) (I1 : Hp), a7 = .int .i64 i ∧ a5 = .pointer (some ⟨p, 0, none⟩) ∧ i ≤ ls.length ∧ PI S R (90000 - 2 * i) i ∧ W.hp.sub I1 ∧ St W I1 wr (storeHP p S :: refHP q R :: [])) (fun _ a7 _ => ls.length - (intOf a7).toNat)
    case atStart => exact ⟨0, p0, newS a0, rnew a0, W.hp, rfl, rfl, Nat.zero_le _, PI.new a0, Hp.sub.refl _, H3.out.pull 1 _ rfl⟩
    case round =>
      obtain ⟨i, p, S, R, I1, rfl, rfl, hi, hpi, hI1, hst⟩ := hrel
      by_cases hlt : i < ls.length
      · have d0 : decide ((i : Int) < (ls.length : Int)) = true := by rw [decide_eq_true_eq]; omega
        obtain ⟨a, ha⟩ : ∃ a, ls[i]? = some a := ⟨_, List.getElem?_eq_getElem hlt⟩
        obtain ⟨b, off, e1, hc⟩ := rowk_cell (i := i) H1.out hI1 hst (fun _ => rfl) ha
        simp only [Value.slice.injEq, and_true] at e1
        subst e1
        have hoka := A3.ok_to (HOK.out a (List.mem_of_getElem? ha)) hI1
        obtain ⟨hpl, hkl⟩ := HP60.out a (List.mem_of_getElem? ha)
        have HCE : Hid (∀ (w' : World) (I' : Hp) (l : List HP), I1.sub I' → St W I' w' l → ∀ j, j < 12 → w'.cell? ⟨b, off + i * 12 + j, none⟩ = (A3.vals a)[j]?) := Lib.hid (fun w' I' l hs h => by
          obtain ⟨b', off', e1, hc⟩ := rowk_cell (i := i) H1.out (hI1.trans hs) h (fun _ => rfl) ha
          simp only [Value.slice.injEq, Option.some.injEq, Addr.mk.injEq, and_true, true_and] at e1
          obtain ⟨rfl, rfl⟩ := e1
          exact hc)
        have y0 := hc 0 (by omega)
        obtain ⟨b0, b1, b2, b3, b4, ⟨j0, j1, j2, j3⟩, ap, av, an, ak, akv⟩ := a
        obtain ⟨Ap, cp, e1, _⟩ := hoka.1
        obtain ⟨Ak, ck, e2, _⟩ := hoka.2.2.2.1
        simp only at e1 e2 hpl hkl
        subst e1 e2
        simp only [A3.vals, List.getElem?_cons_succ, List.getElem?_cons_zero, Nat.add_zero] at y0
        have HCL : Hid (∀ (w' : World) (I' : Hp) (l : List HP), I1.sub I' → St W I' w' l → w'.cell? ⟨b, off + i * 12, none⟩ = some (.int .i64 b0) ∧ w'.cell? ⟨b, off + i * 12 + 1, none⟩ = some (.int .i64 b1) ∧ w'.cell? ⟨b, off + i * 12 + 2, none⟩ = some (.int .i64 b2) ∧ w'.cell? ⟨b, off + i * 12 + 3, none⟩ = some (.int .i64 b3) ∧ w'.cell? ⟨b, off + i * 12 + 4, none⟩ = some (.bool b4) ∧ w'.cell? ⟨b, off + i * 12 + 5, none⟩ = some (.int .i64 j0) ∧ w'.cell? ⟨b, off + i * 12 + 6, none⟩ = some (.int .i64 j1) ∧ w'.cell? ⟨b, off + i * 12 + 7, none⟩ = some (.int .i64 j2) ∧ w'.cell? ⟨b, off + i * 12 + 8, none⟩ = some (.int .i64 j3) ∧ w'.cell? ⟨b, off + i * 12 + 9, none⟩ = some (.slice Ap ap.length cp) ∧ w'.cell? ⟨b, off + i * 12 + 10, none⟩ = some (.string an) ∧ w'.cell? ⟨b, off + i * 12 + 11, none⟩ = some (.slice Ak ak.length ck)) := Lib.hid (fun w' I' l hs h => by
          have hc := HCE.out w' I' l hs h
          have z0 := hc 0 (by omega)
          have z1 := hc 1 (by omega)
          have z2 := hc 2 (by omega)
          have z3 := hc 3 (by omega)
          have z4 := hc 4 (by omega)
          have z5 := hc 5 (by omega)
          have z6 := hc 6 (by omega)
          have z7 := hc 7 (by omega)
          have z8 := hc 8 (by omega)
          have z9 := hc 9 (by omega)
          have z10 := hc 10 (by omega)
          have z11 := hc 11 (by omega)
          simp only [A3.vals, List.getElem?_cons_succ, List.getElem?_cons_zero, Nat.add_zero] at z0 z1 z2 z3 z4 z5 z6 z7 z8 z9 z10 z11
          exact ⟨z0, z1, z2, z3, z4, z5, z6, z7, z8, z9, z10, z11⟩)
        have hpi2 : PI S R ((90000 - 2 * (i + 1)) + 2) i := hpi.fewer (by omega)
        have HPI := Lib.hid hpi2
        have HOA := Lib.hid hoka
        have HST := Lib.hid hst
        have HI1 := Lib.hid hI1
        clear hc ha hoka hpi hpi2 hst hI1 HCE
        by_cases h12 : b0 = 12
        · subst h12
          have htw := twin_spec HST.out HPI.out.ks
          have HTW := Lib.hid htw
          clear htw
          go_wp2_with fail
          refine HTW.out.mono ?_
          rintro e w5 ⟨p2, I5, hs5, rfl, h5⟩
          have H5 := Lib.hid ((h5.pull 1 _ rfl).drop)
          have HS5 := Lib.hid hs5
          clear h5 hs5 HTW y0
          go_upto_region 13 with fail
          refine plays3_act (m := 90000 - 2 * (i + 1)) (c := i) (by first | assumption | exact fun _ _ h => h | fail) (by kernel_rfl) H5.out HPI.out (by omega) (A3.ok_to HOA.out HS5.out) hpl hkl hlt hlc hl60 (fun w' I' l hs h => HCL.out w' I' l (HS5.out.trans hs) h) ?_
          intro y4 y34 y35 y36 y37 y38 y39 y40 y41 y42 y43 y44 y45 y46 y47 y48 y49 y50 y51 y52 y53 y54 y55 y56 y57 y58 y59 y60 y61 y62 I8 w8 T U hs8 hpi8 h8
          have H8 := Lib.hid h8
          have HPI8 := Lib.hid hpi8
          have HS8 := Lib.hid ((HI1.out.trans HS5.out).trans hs8)
          clear h8 hpi8 hs8
          go_wp2_with fail
          go_roundw
          case rel => exact ⟨i + 1, p2, T, U, I8, by go_num, rfl, by omega, HPI8.out, HS8.out, H8.out⟩
          case measure => simp [intOf]; omega
        · have n12 : decide (b0 = 12) = false := decide_eq_false h12
          go_upto_region 13 with fail
          refine plays3_act (m := 90000 - 2 * (i + 1)) (c := i) (by first | assumption | exact fun _ _ h => h | fail) (by kernel_rfl) HST.out HPI.out (by omega) HOA.out hpl hkl hlt hlc hl60 HCL.out ?_
          intro y4 y34 y35 y36 y37 y38 y39 y40 y41 y42 y43 y44 y45 y46 y47 y48 y49 y50 y51 y52 y53 y54 y55 y56 y57 y58 y59 y60 y61 y62 I8 w8 T U hs8 hpi8 h8
          have H8 := Lib.hid h8
          have HPI8 := Lib.hid hpi8
          have HS8 := Lib.hid (HI1.out.trans hs8)
          clear h8 hpi8 hs8
          go_wp2_with fail
          go_roundw
          case rel => exact ⟨i + 1, p, T, U, I8, by go_num, rfl, by omega, HPI8.out, HS8.out, H8.out⟩
          case measure => simp [intOf]; omega
      · obtain rfl : i = ls.length := by omega
        have d0 : decide (((ls.length : Nat) : Int) < (ls.length : Int)) = false := by rw [decide_eq_false_iff_not]; omega
        have HST := Lib.hid hst
        clear hst
        go_wp2_with fail
        refine (known3_spec _).mono ?_
        rintro e w9 ⟨rfl, hb9⟩
        have HB := Lib.hid (HST.out.keep hb9)
        clear hb9
        go_wp2_with fail
        go_ret
        exact ⟨rfl, HB.out.below⟩
end
end Go.Proofs.YtagljjhfkhadpaaGreat
