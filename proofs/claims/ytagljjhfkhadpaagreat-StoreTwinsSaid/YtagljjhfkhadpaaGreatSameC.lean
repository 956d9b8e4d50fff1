/- hectographlaw3.same, the whole. -/
import Derived.Test.YtagljjhfkhadpaaGreatSameB
set_option linter.unusedSimpArgs false
set_option linter.unusedVariables false
set_option linter.unusedSectionVars false
namespace Go.Proofs.YtagljjhfkhadpaaGreat
open Go.RowKit
section
variable {W w : World} {I : Hp} {l : List HP} {p q : Nat} {S : Str} {R : RS}
set_option maxRecDepth 4000
set_option maxHeartbeats 8000000
/-- Region 1's two stores tell the same numbers. -/
theorem sameL_spec {m c : Nat} (h : St W I w (storeHP p S :: refHP q R :: l)) (hk : Inv S m) (hi : RInv R c) (hs : SR S R) (ho : OKR R) :
    Calls Tryz.prog 11 #[.pointer (some ⟨p, 0, none⟩), .pointer (some ⟨q, 0, none⟩)] w fun e w' => ∃ I', I.sub I' ∧ e = .returned (.bool true) ∧ St W I' w' (storeHP p S :: refHP q R :: l) := by
  obtain ⟨on, hon⟩ : ∃ b, S.on = b := ⟨_, rfl⟩
  have hof : R.off = !on := by have := hs.on; rw [hon] at this; rw [this]; simp
  have hu := (hs.used_eq hi).1
  have hle := hs.roomy hi
  have hwt : wetL R.l = S.wet := (hs.wet_eq hi).1.symm
  have HMK : Hid (∀ (w' : World) (I' : Hp), I.sub I' → St W I' w' (storeHP p S :: refHP q R :: l) → (∃ I', I.sub I' ∧ St W I' w' (storeHP p S :: refHP q R :: l)) ∧ w'.cell? ⟨q, 1, none⟩ = some (.int .i64 S.deeds) ∧ w'.cell? ⟨q, 3, none⟩ = some (.bool (!on))) := Lib.hid (fun w' I' h1 h2 => by
    obtain ⟨A, cA, vk, _, y1, y2, y3, _⟩ := (h2.pull 1 _ rfl).ref_cells
    exact ⟨⟨I', h1, h2⟩, by rw [y1, hs.count], by rw [y3, hof]⟩)
  have H := Lib.hid h
  have HK := Lib.hid hk
  have HI := Lib.hid hi
  have HS := Lib.hid hs
  have HO := Lib.hid ho
  have HU := Lib.hid hu
  have HLE := Lib.hid hle
  have HWT := Lib.hid hwt
  have HON := Lib.hid hon
  have HOF := Lib.hid hof
  clear h hk hi hs ho hu hle hwt hon hof
  go_enter Tryz.func11, Tryz.ntmps11
  go_upto_region 1 with fail
  refine wp_region_det (fun w' => (∃ I', I.sub I' ∧ St W I' w' (storeHP p S :: refHP q R :: l)) ∧ w'.cell? ⟨q, 1, none⟩ = some (.int .i64 S.deeds) ∧ w'.cell? ⟨q, 3, none⟩ = some (.bool (!on))) [0, 1, 2, 3, 4, 5, 6, 7, 8, 9, 10, 11, 12, 13, 14, 15, 16, 17, 18, 19, 20, 21, 22, 23, 24, 25, 26, 27, 28, 29, 30, 31, 32, 33, 34, 35, 36] [] (by kernel_rfl) (by kernel_rfl) (by (exact HMK.out _ I (Hp.sub.refl _) H.out.drew)) ?_
  simp only [pickL, List.getElem?_cons_zero, List.getElem?_cons_succ]
  repeat (first | (refine wpDet_step _ (by rfl) (by (intro w hSw; (try dsimp only at hSw); go_simp; try with_reducible rfl)) ?_; (try simp only [Act.put, List.setIfInBounds_toArray, List.set_cons_zero, List.set_cons_succ])) | (refine wpDet_skip (by rfl) ?_; (try simp only [Act.put, List.setIfInBounds_toArray, List.set_cons_zero, List.set_cons_succ])) | fail)
  refine wpDet_call (.int .i64 S.used) (40) (#[.pointer (some ⟨p, 0, none⟩)]) (by rfl) (by intro w; go_simp; try with_reducible rfl) (by (rintro w1 ⟨⟨I', h1, h2⟩, _, _⟩; exact (used_spec h2).mono (by rintro e w' ⟨rfl, rfl⟩; exact ⟨rfl, HMK.out _ I' h1 h2⟩))) ?_
  (try simp only [Act.put, List.setIfInBounds_toArray, List.set_cons_zero, List.set_cons_succ])
  repeat (first | (refine wpDet_step _ (by rfl) (by (intro w hSw; (try dsimp only at hSw); go_simp; try with_reducible rfl)) ?_; (try simp only [Act.put, List.setIfInBounds_toArray, List.set_cons_zero, List.set_cons_succ])) | (refine wpDet_skip (by rfl) ?_; (try simp only [Act.put, List.setIfInBounds_toArray, List.set_cons_zero, List.set_cons_succ])) | fail)
  refine wpDet_call (.int .i64 S.used) (41) (#[.pointer (some ⟨q, 0, none⟩)]) (by rfl) (by intro w; go_simp; try with_reducible rfl) (by (rintro w1 ⟨⟨I', h1, h2⟩, _, _⟩; exact (used3_spec (h2.pull 1 _ rfl) HI.out).mono (by rintro e w' ⟨I2, h3, rfl, h4⟩; exact ⟨by rw [HU.out], HMK.out _ I2 (h1.trans h3) (h4.pull 1 _ rfl)⟩))) ?_
  (try simp only [Act.put, List.setIfInBounds_toArray, List.set_cons_zero, List.set_cons_succ])
  repeat (first | (refine wpDet_step _ (by rfl) (by (intro w hSw; (try dsimp only at hSw); go_simp; try with_reducible rfl)) ?_; (try simp only [Act.put, List.setIfInBounds_toArray, List.set_cons_zero, List.set_cons_succ])) | (refine wpDet_skip (by rfl) ?_; (try simp only [Act.put, List.setIfInBounds_toArray, List.set_cons_zero, List.set_cons_succ])) | fail)
  refine wpDet_call (.int .i64 (roomS S)) (42) (#[.pointer (some ⟨p, 0, none⟩)]) (by rfl) (by intro w; go_simp; try with_reducible rfl) (by (rintro w1 ⟨⟨I', h1, h2⟩, _, _⟩; exact (left_of h2).mono (by rintro e w' ⟨rfl, hb⟩; exact ⟨rfl, HMK.out _ I' h1 (h2.keep hb)⟩))) ?_
  (try simp only [Act.put, List.setIfInBounds_toArray, List.set_cons_zero, List.set_cons_succ])
  repeat (first | (refine wpDet_step _ (by rfl) (by (intro w hSw; (try dsimp only at hSw); go_simp; try with_reducible rfl)) ?_; (try simp only [Act.put, List.setIfInBounds_toArray, List.set_cons_zero, List.set_cons_succ])) | (refine wpDet_skip (by rfl) ?_; (try simp only [Act.put, List.setIfInBounds_toArray, List.set_cons_zero, List.set_cons_succ])) | fail)
  refine wpDet_call (.int .i64 (roomS S)) (43) (#[.pointer (some ⟨q, 0, none⟩)]) (by rfl) (by intro w; go_simp; try with_reducible rfl) (by (rintro w1 ⟨⟨I', h1, h2⟩, _, _⟩; exact (left3_spec (h2.pull 1 _ rfl) HI.out).mono (by rintro e w' ⟨I2, h3, rfl, h4⟩; exact ⟨by rw [HLE.out], HMK.out _ I2 (h1.trans h3) (h4.pull 1 _ rfl)⟩))) ?_
  (try simp only [Act.put, List.setIfInBounds_toArray, List.set_cons_zero, List.set_cons_succ])
  repeat (first | (refine wpDet_step _ (by rfl) (by (intro w hSw; (try dsimp only at hSw); go_simp; try with_reducible rfl)) ?_; (try simp only [Act.put, List.setIfInBounds_toArray, List.set_cons_zero, List.set_cons_succ])) | (refine wpDet_skip (by rfl) ?_; (try simp only [Act.put, List.setIfInBounds_toArray, List.set_cons_zero, List.set_cons_succ])) | fail)
  refine wpDet_call (.int .i64 S.wet) (44) (#[.pointer (some ⟨p, 0, none⟩)]) (by rfl) (by intro w; go_simp; try with_reducible rfl) (by (rintro w1 ⟨⟨I', h1, h2⟩, _, _⟩; exact (wet_spec h2).mono (by rintro e w' ⟨rfl, rfl⟩; exact ⟨rfl, HMK.out _ I' h1 h2⟩))) ?_
  (try simp only [Act.put, List.setIfInBounds_toArray, List.set_cons_zero, List.set_cons_succ])
  repeat (first | (refine wpDet_step _ (by rfl) (by (intro w hSw; (try dsimp only at hSw); go_simp; try with_reducible rfl)) ?_; (try simp only [Act.put, List.setIfInBounds_toArray, List.set_cons_zero, List.set_cons_succ])) | (refine wpDet_skip (by rfl) ?_; (try simp only [Act.put, List.setIfInBounds_toArray, List.set_cons_zero, List.set_cons_succ])) | fail)
  refine wpDet_call (.int .i64 S.wet) (45) (#[.pointer (some ⟨q, 0, none⟩)]) (by rfl) (by intro w; go_simp; try with_reducible rfl) (by (rintro w1 ⟨⟨I', h1, h2⟩, _, _⟩; exact (wet3_spec (h2.pull 1 _ rfl) HI.out).mono (by rintro e w' ⟨rfl, rfl⟩; exact ⟨by rw [HWT.out], HMK.out _ I' h1 h2⟩))) ?_
  (try simp only [Act.put, List.setIfInBounds_toArray, List.set_cons_zero, List.set_cons_succ])
  repeat (first | (refine wpDet_step _ (by rfl) (by (intro w hSw; (try dsimp only at hSw); go_simp; try with_reducible rfl)) ?_; (try simp only [Act.put, List.setIfInBounds_toArray, List.set_cons_zero, List.set_cons_succ])) | (refine wpDet_skip (by rfl) ?_; (try simp only [Act.put, List.setIfInBounds_toArray, List.set_cons_zero, List.set_cons_succ])) | fail)
  refine wpDet_call (.int .i64 S.deeds) (46) (#[.pointer (some ⟨p, 0, none⟩)]) (by rfl) (by intro w; go_simp; try with_reducible rfl) (by (rintro w1 ⟨⟨I', h1, h2⟩, _, _⟩; exact (deeds_spec h2).mono (by rintro e w' ⟨rfl, rfl⟩; exact ⟨rfl, HMK.out _ I' h1 h2⟩))) ?_
  (try simp only [Act.put, List.setIfInBounds_toArray, List.set_cons_zero, List.set_cons_succ])
  repeat (first | (refine wpDet_step _ (by rfl) (by (intro w hSw; (try dsimp only at hSw); go_simp; try with_reducible rfl)) ?_; (try simp only [Act.put, List.setIfInBounds_toArray, List.set_cons_zero, List.set_cons_succ])) | (refine wpDet_skip (by rfl) ?_; (try simp only [Act.put, List.setIfInBounds_toArray, List.set_cons_zero, List.set_cons_succ])) | fail)
  refine wpDet_call (.bool on) (22) (#[.pointer (some ⟨p, 0, none⟩)]) (by rfl) (by intro w; go_simp; try with_reducible rfl) (by (rintro w1 ⟨⟨I', h1, h2⟩, _, _⟩; exact (on_spec h2).mono (by rintro e w' ⟨rfl, rfl⟩; exact ⟨by rw [HON.out], HMK.out _ I' h1 h2⟩))) ?_
  (try simp only [Act.put, List.setIfInBounds_toArray, List.set_cons_zero, List.set_cons_succ])
  repeat (first | (refine wpDet_step _ (by rfl) (by (intro w hSw; (try dsimp only at hSw); go_simp; try with_reducible rfl)) ?_; (try simp only [Act.put, List.setIfInBounds_toArray, List.set_cons_zero, List.set_cons_succ])) | (refine wpDet_skip (by rfl) ?_; (try simp only [Act.put, List.setIfInBounds_toArray, List.set_cons_zero, List.set_cons_succ])) | fail)
  refine wpDet_nil ?_
  rintro w2 ⟨⟨I2, hs2, h2⟩, _, _⟩
  have H2 := Lib.hid h2
  have HS2 := Lib.hid hs2
  clear h2 hs2
  have hxx : (on == !on) = false := by cases on <;> rfl
  go_wp2_with fail
  refine NoPanic.normal ?_
  clear hxx
  go_wp2_with fail
  go_loopw [5] (fun a5 wr => ∃ (n : Nat) (I3 : Hp), a5 = .int .i64 n ∧ n ≤ 8 ∧ I.sub I3 ∧ St W I3 wr (storeHP p S :: refHP q R :: l)) (fun a5 _ => 8 - (intOf a5).toNat)
  case atStart => exact ⟨0, I2, rfl, by omega, HS2.out, H2.out⟩
  case round =>
    obtain ⟨n, I3, rfl, hn, hs3, hst⟩ := hrel
    by_cases hlt : n < 8
    · have d0 : decide ((n : Int) < 8) = true := by rw [decide_eq_true_eq]; omega
      have hky := akey_spec ⟨0, n, 0, 0, false, ⟨0, 0, 0, 0⟩, [], .slice none 0 0, ⟨#[]⟩, [], .slice none 0 0⟩
      obtain ⟨⟨k0, k1, k2, k3⟩, hK⟩ : ∃ K, A3.key ⟨0, n, 0, 0, false, ⟨0, 0, 0, 0⟩, [], .slice none 0 0, ⟨#[]⟩, [], .slice none 0 0⟩ = K := ⟨_, rfl⟩
      rw [hK] at hky
      simp only [A3.val] at hky
      have HKEY := Lib.hid hky
      have HST := Lib.hid hst
      have HS3 := Lib.hid hs3
      clear hky hK hst hs3
      go_wp2_with fail
      refine (HKEY.out _).mono ?_
      rintro e w4 ⟨rfl, hb4⟩
      obtain ⟨g6, hg6⟩ : ∃ x, x = w4.heap.size := ⟨_, rfl⟩
      obtain ⟨I4, hs4, hI4, h4⟩ := ((HST.out.keep hb4).alloc_at (.cells #[.int .i64 k0, .int .i64 k1, .int .i64 k2, .int .i64 k3] 30) hg6).freeze
      obtain ⟨w5, hw5⟩ : ∃ x, x = w4.alloc (.cells #[.int .i64 k0, .int .i64 k1, .int .i64 k2, .int .i64 k3] 30) := ⟨_, rfl⟩
      rw [← hw5] at h4
      have H4 := Lib.hid h4
      have HI4 := Lib.hid hI4
      have HS4 := Lib.hid (HS3.out.trans hs4)
      have HW5 := Lib.hid hw5
      have HG6 := Lib.hid hg6
      clear h4 hI4 hs4 hw5 hg6 hb4 HST HKEY
      simp only [K4.val]
      go_upto_region 7 with fail
      rw [← HW5.out, ← HG6.out]
      have htd := HS.out.told k0 k1
      have hky := keys_of k0 k1 H4.out.drew (by have := HK.out.many ⟨k0, k1⟩; omega)
      rw [htd] at hky
      obtain ⟨ks, hks⟩ : ∃ ks, rkeys R k0 k1 = ks := ⟨_, rfl⟩
      have hlen : ks.length ≤ 1000000 := by
        rw [← hks, ← htd]
        have := HK.out.many ⟨k0, k1⟩
        unfold keysTold
        split
        · omega
        · simp
      have HTL : Hid (∀ k ∈ ks, ∃ t : TS, k.ok = true ∧ whyS S k = 0 ∧ readS S k 0 1048576 = (t.b, 0) ∧ rread R k 0 1048576 = (t.b, 0) ∧ lenAt S k = (t.b.length : Int)) := Lib.hid (fun k hk => by
        rw [← hks] at hk
        cases hoff : R.off with
        | true => unfold rkeys at hk; rw [hoff] at hk; cases hk
        | false => exact HS.out.tells HO.out hoff HK.out hk)
      rw [hks] at hky
      have HKY := Lib.hid hky
      have HKS := Lib.hid hks
      have x0 := (imm_cells4 H4.out.drew HI4.out).1
      have x1 := (imm_cells4 H4.out.drew HI4.out).2.1
      clear hky hks htd HW5 HG6
      refine wp_region_keep (fun w' => w'.cell? ⟨g6, 0, none⟩ = some (.int .i64 k0) ∧ w'.cell? ⟨g6, 1, none⟩ = some (.int .i64 k1)) [0, 1, 2, 3, 4, 6, 7, 8, 9, 10] [5] [11, 12, 13] (by kernel_rfl) (by kernel_rfl) (by (exact ⟨x0, x1⟩)) ?_
      simp only [pickL, List.getElem?_cons_zero, List.getElem?_cons_succ]
      repeat (refine wpFirst_step _ (Or.inl ⟨by rfl, by (intro w hSw; (try dsimp only at hSw); go_simp; try with_reducible rfl)⟩) ?_; (try simp only [Act.put, List.setIfInBounds_toArray, List.set_cons_zero, List.set_cons_succ]))
      refine wpFirst_nil ?_
      unfold wpHold
      clear x0 x1
      go_wp2_with fail
      refine HKY.out.mono ?_
      rintro e w6 ⟨v6, rfl, hb6, ho6⟩
      obtain ⟨A6, c6, rfl⟩ := is_slice ho6
      have h6 := H4.out.drew.row_fresh hb6 ho6
      have x0 := (imm_cells4 h6 HI4.out).1
      have x1 := (imm_cells4 h6 HI4.out).2.1
      have hkq := keys3_spec k0 k1 (h6.pull 2 _ rfl) HI.out
      rw [HKS.out] at hkq
      have HKQ := Lib.hid hkq
      clear hkq hb6 ho6 h6 HKY
      go_wp2_with fail
      refine holdPost_normal ⟨x0, x1⟩ ?_
      clear x0 x1
      unfold wpHold
      go_wp2_with fail
      refine HKQ.out.mono ?_
      rintro e w7 ⟨I7, v7, hs7, rfl, h7⟩
      have ho7 := St.row_owns (e := 30) h7
      obtain ⟨A7, c7, rfl⟩ := is_slice ho7
      have H7 := Lib.hid (h7.perm (m := HP.row 30 4 (.slice A7 ks.length c7) ks.length (ks.flatMap K4.vals) :: HP.row 30 4 (.slice A6 ks.length c6) ks.length (ks.flatMap K4.vals) :: storeHP p S :: refHP q R :: l) (by unfold keysHP kflat; ((try simp only [List.eraseIdx_cons_succ, List.eraseIdx_cons_zero, List.cons_append, List.nil_append]); repeat (first | with_reducible exact List.Perm.refl _ | (apply perm_step; (· repeat (first | with_reducible exact find_here | with_reducible apply find_there)))))))
      have HS7 := Lib.hid (HS4.out.trans hs7)
      clear h7 hs7 ho7 HKQ
      go_wp2_with fail
      refine NoPanic.normal ?_
      go_upto_region 10 with fail
      refine same_inner (m := m) (by first | assumption | exact fun _ _ h => h | fail) (by kernel_rfl) H7.out HK.out HI.out hlen HTL.out ?_
      intro y4 y9 y10 y11 y12 y13 y14 y15 y77 y78 y79 y80 y81 y82 y83 y84 y85 y86 y87 y88 y89 y90 y91 y92 y93 y94 y95 y96 y97 y98 y99 y100 y101 y102 y103 y104 y105 y106 y107 y108 y109 y110 y111 y112 y113 y114 y115 y116 y117 y118 y119 y120 y121 y122 y123 y124 y125 y126 y127 y128 y129 y130 y131 y132 y133 y134 y135 y136 y137 y138 I8 w8 hs8 h8
      have H8 := Lib.hid h8
      have HS8 := Lib.hid (HS7.out.trans hs8)
      clear h8 hs8
      go_wp2_with fail
      go_roundw
      case rel => exact ⟨n + 1, I8, by go_num, by omega, HS8.out, H8.out⟩
      case measure => simp [intOf]; omega
    · obtain rfl : n = 8 := by omega
      have HST := Lib.hid hst
      have HS3 := Lib.hid hs3
      clear hst hs3
      go_wp2_with fail
      go_ret
      exact ⟨I3, HS3.out, rfl, HST.out⟩
end
end Go.Proofs.YtagljjhfkhadpaaGreat
