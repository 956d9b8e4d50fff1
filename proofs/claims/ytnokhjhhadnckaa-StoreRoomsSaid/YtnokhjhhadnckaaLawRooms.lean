/- StoreRooms: the walk. -/
import Derived.Test.YtnokhjhhadnckaaRoomsPlain
import Derived.Test.YtnokhjhhadnckaaKnown3
import Derived.Deep.CutRange
set_option linter.unusedSimpArgs false
set_option linter.unusedVariables false
set_option linter.unusedSectionVars false
namespace Go.Proofs.Ytnokhjhhadnckaa
open Go.RowKit
theorem A3.ok_mono {I I' : Hp} {a : A3} (h : a.ok I) (s : I.sub I') : a.ok I' := ⟨(bytesIP _ _).mono s h.1, h.2.1, h.2.2.1, (intsIP _ _).mono s h.2.2.2.1, h.2.2.2.2⟩
theorem A3.few_p {a : A3} (h : a.few = true) : a.p.length ≤ 60 := by
  unfold A3.few at h
  simp at h
  omega
theorem few_all {ls : List A3} (h : fewA ls = true) : ls.length ≤ 60 ∧ ∀ a ∈ ls, a.p.length ≤ 60 := by
  unfold fewA at h
  simp only [Bool.and_eq_true, List.all_eq_true, decide_eq_true_eq] at h
  exact ⟨h.2, fun a ha => A3.few_p (h.1 a ha)⟩
theorem actS_append {S : Str} {a : A3} (h : a.what = 2) : actS S a = appendS S a.key a.p := by simp [actS, h]
set_option maxRecDepth 4000
set_option maxHeartbeats 8000000
theorem rooms_walk (a0 : Int) (v1 : Value) (ls : List A3) (W : World) (h1 : RowI W.hp 12 v1 ls.length (ls.flatMap A3.vals)) (hok : ∀ a ∈ ls, a.ok W.hp) (hn : ls.length ≤ maxLen) :
    Calls Try.prog 6 #[.int .i64 a0, v1] W fun e w' => e = .returned (.bool true) ∧ Below W.heap.size W w' := by
  have hfs := few_spec v1 ls W h1 hok hn
  have H1 := Lib.hid h1
  have HOK := Lib.hid hok
  obtain ⟨A1, c1, rfl, _⟩ := h1
  unfold maxLen at hn
  have hn1 : (ls.length : Int) ≤ 9223372036854775807 := by omega
  clear hok
  cases hfw : fewA ls with
  | false =>
    rw [hfw] at hfs
    have HFS := Lib.hid hfs
    clear hfs
    go_enter Try.func6, Try.ntmps6
    go_wp2_with fail
    refine HFS.out.mono ?_
    rintro e w1 ⟨rfl, rfl⟩
    go_wp2_with fail
    refine (known3_spec W).mono ?_
    rintro e w1 ⟨rfl, hb⟩
    have HB := Lib.hid hb
    clear hb
    go_wp2_with fail
    go_ret
    exact ⟨rfl, HB.out⟩
  | true =>
    rw [hfw] at hfs
    have HFS := Lib.hid hfs
    obtain ⟨hl60, hp60⟩ := few_all hfw
    have HP60 := Lib.hid hp60
    obtain ⟨r, hr⟩ : ∃ r, a0 % 256 = r := ⟨_, rfl⟩
    have hr2 : 0 ≤ r ∧ r < 256 := by omega
    have hand : bits .and .i64 a0 255 = r := (i64_and255 a0).trans hr
    clear hfs hp60 hr hfw
    go_enter Try.func6, Try.ntmps6
    go_wp2_with fail
    refine HFS.out.mono ?_
    rintro e w1 ⟨rfl, rfl⟩
    go_wp2_with fail
    refine (new_spec r (St.init W)).mono ?_
    rintro e w2 ⟨p, rfl, h2⟩
    have H2 := Lib.hid h2
    clear h2
    go_wp2_with fail
    go_loopw [6] (fun a6 wr => ∃ (i : Nat) (S : Str) (I1 : Hp), a6 = .int .i64 i ∧ i ≤ ls.length ∧ Roomy S r ∧ Keeps S (1000 - 4 * i) ∧ W.hp.sub I1 ∧ St W I1 wr (storeHP p S :: [])) (fun a6 _ => ls.length - (intOf a6).toNat)
    case atStart => exact ⟨0, newS r, W.hp, rfl, Nat.zero_le _, Roomy.new (by omega), (keeps_new r).fewer (by omega), Hp.sub.refl _, H2.out⟩
    case round =>
      obtain ⟨i, S, I1, rfl, hi, hrm, hkp, hI1, hst⟩ := hrel
      by_cases hlt : i < ls.length
      · obtain ⟨a, ha⟩ : ∃ a, ls[i]? = some a := ⟨_, List.getElem?_eq_getElem hlt⟩
        obtain ⟨b, off, e1, hc⟩ := rowk_cell (i := i) H1.out hI1 hst (fun _ => rfl) ha
        simp only [Value.slice.injEq, and_true] at e1
        subst e1
        have hoka := A3.ok_mono (HOK.out a (List.mem_of_getElem? ha)) hI1
        have hpl := HP60.out a (List.mem_of_getElem? ha)
        have y0 := hc 0 (by omega)
        have y1 := hc 1 (by omega)
        have y2 := hc 2 (by omega)
        have y3 := hc 3 (by omega)
        have y4 := hc 4 (by omega)
        have y5 := hc 5 (by omega)
        have y6 := hc 6 (by omega)
        have y7 := hc 7 (by omega)
        have y8 := hc 8 (by omega)
        have y9 := hc 9 (by omega)
        have y10 := hc 10 (by omega)
        have y11 := hc 11 (by omega)
        have hou := ours_spec a wr hoka.2.2.2.2.2.1 (by obtain ⟨A, c, e, _⟩ := hoka.1; exact ⟨A, c, e⟩) (by obtain ⟨A, c, e, _⟩ := hoka.2.2.2.1; exact ⟨A, c, e⟩)
        have how := ours_what a
        have hook : a.ours.ok I1 := by
          obtain ⟨g1, g2, g3, g4, g5, g6, g7⟩ := hoka
          refine ⟨g1, g2, g3, g4, g5, ?_, g7⟩
          unfold isInt
          omega
        have hopl : a.ours.p.length ≤ 60 := hpl
        obtain ⟨b0, b1, b2, b3, b4, ⟨j0, j1, j2, j3⟩, ap, av, an, ak, akv⟩ := a
        obtain ⟨Ap, cp, e1, _⟩ := hoka.1
        obtain ⟨Ak, ck, e2, _⟩ := hoka.2.2.2.1
        simp only at e1 e2
        subst e1 e2
        simp only [A3.vals, List.getElem?_cons_succ, List.getElem?_cons_zero, Nat.add_zero] at y0 y1 y2 y3 y4 y5 y6 y7 y8 y9 y10 y11
        obtain ⟨x, hx⟩ : ∃ x, b0 % 18446744073709551616 % 7 = x := ⟨_, rfl⟩
        simp only [A3.val, A3.ours] at hou how hook hopl
        rw [hx] at hou how hook
        have HOU := Lib.hid hou
        have HOOK := Lib.hid hook
        have HST := Lib.hid hst
        have HRM := Lib.hid hrm
        have HKP := Lib.hid hkp
        have HI1 := Lib.hid hI1
        clear hc ha hoka hou hook hst hrm hkp hI1 hx
        go_wp2_with fail
        refine HOU.out.mono ?_
        rintro e w3 ⟨rfl, hb3⟩
        have h3 := HST.out.keep hb3
        obtain ⟨I4, hs4, hI4, h4⟩ := (h3.alloc (.cells #[.int .i64 x, .int .i64 b1, .int .i64 b2, .int .i64 b3, .bool false, .int .i64 j0, .int .i64 j1, .int .i64 j2, .int .i64 j3, .slice Ap ap.length cp, .string an, .slice Ak ak.length ck] 50)).freeze
        have hky := akey_spec ⟨x, b1, b2, b3, false, ⟨j0, j1, j2, j3⟩, ap, .slice Ap ap.length cp, an, ak, .slice Ak ak.length ck⟩
        obtain ⟨K, hK⟩ : ∃ K, A3.key ⟨x, b1, b2, b3, false, ⟨j0, j1, j2, j3⟩, ap, .slice Ap ap.length cp, an, ak, .slice Ak ak.length ck⟩ = K := ⟨_, rfl⟩
        rw [hK] at hky
        simp only [A3.val] at hky
        have HKY := Lib.hid hky
        have H4 := Lib.hid h4
        clear hky h3 h4 hb3 HOU y0 y1 y2 y3 y4 y5 y6 y7 y8 y9 y10 y11
        go_wp2_with fail
        refine (HKY.out _).mono ?_
        rintro e w5 ⟨rfl, hb5⟩
        obtain ⟨k0, k1, k2, k3⟩ := K
        obtain ⟨I6, hs6, hI6, h6⟩ := ((H4.out.keep hb5).alloc (.cells #[.int .i64 k0, .int .i64 k1, .int .i64 k2, .int .i64 k3] 27)).freeze
        have hlf := left_of h6
        rw [show max 0 (wrap64 (S.room - S.used)) = roomS S from rfl] at hlf
        have HLF := Lib.hid hlf
        have H6 := Lib.hid h6
        have HI6 := Lib.hid hI6
        have HI46 := Lib.hid (hs6 _ _ hI4)
        have HS6 := Lib.hid ((HI1.out.trans hs4).trans hs6)
        have HOK6 := Lib.hid (A3.ok_mono HOOK.out (hs4.trans hs6))
        simp only [K4.val]
        clear h6 hI6 hs6 hI4 hs4 hb5 hlf HKY H4
        go_wp2_with fail
        refine HLF.out.mono ?_
        rintro e w7 ⟨rfl, hb7⟩
        have h7 := H6.out.keep hb7
        have H7 := Lib.hid h7
        clear hb7 h7 HLF H6
        obtain ⟨x0, x1, x2, x3⟩ := imm_cells4 H7.out HI6.out
        have z0 : w7.cell? ⟨w3.heap.size, 0, none⟩ = some (.int .i64 x) := St.imm_cell H7.out HI46.out 0
        have z9 : w7.cell? ⟨w3.heap.size, 9, none⟩ = some (.slice Ap ap.length cp) := St.imm_cell H7.out HI46.out 9
        obtain ⟨g7, hg7⟩ : ∃ g, g = w3.heap.size := ⟨_, rfl⟩
        obtain ⟨g8, hg8⟩ : ∃ g, g = w5.heap.size := ⟨_, rfl⟩
        go_upto_if 38 with fail
        rw [← hg7] at HI46 z0 z9 ⊢
        rw [← hg8] at HI6 x0 x1 x2 x3 ⊢
        clear hg7 hg8
        go_cut [10] from 21 to 71 (fun s10 wc => ∃ (er : Int) (SS : Str) (I8 : Hp), s10 = .int .i64 er ∧ Roomy SS r ∧ Keeps SS (1000 - 4 * i - 2) ∧ I6.sub I8 ∧ St W I8 wc (storeHP p SS :: []) ∧ (er = 6 → roomS S < ap.length))
        case first =>
          by_cases hx2 : x = 2
          · have hx2b : (x == 2) = true := by simpa using hx2
            have hap := append_spec ⟨k0, k1, k2, k3⟩ _ ap H7.out HKP.out (bytes_src H7.out HOK6.out.1) (by omega)
            simp only [K4.val] at hap
            have HAP := Lib.hid hap
            clear hap hx2
            go_wp2_with fail
            refine HAP.out.mono ?_
            rintro e w8 ⟨I8, hs8, rfl, h8⟩
            have H8 := Lib.hid h8
            have HS8 := Lib.hid hs8
            clear h8 hs8 HAP
            go_wp2_with fail
            go_meet
            case rel => exact ⟨_, _, I8, rfl, HRM.out.append _ _, appendS_keeps (HKP.out.fewer (by omega)), HS8.out, H8.out, HRM.out.full _ _⟩
          · have hx2b : (x == 2) = false := by simpa using hx2
            have q0 : w7.drew.cell? ⟨g7, 0, none⟩ = some (.int .i64 x) := St.imm_cell H7.out.drew HI46.out 0
            have q1 : w7.drew.cell? ⟨g7, 1, none⟩ = some (.int .i64 b1) := St.imm_cell H7.out.drew HI46.out 1
            have q2 : w7.drew.cell? ⟨g7, 2, none⟩ = some (.int .i64 b2) := St.imm_cell H7.out.drew HI46.out 2
            have q3 : w7.drew.cell? ⟨g7, 3, none⟩ = some (.int .i64 b3) := St.imm_cell H7.out.drew HI46.out 3
            have q4 : w7.drew.cell? ⟨g7, 4, none⟩ = some (.bool false) := St.imm_cell H7.out.drew HI46.out 4
            have q5 : w7.drew.cell? ⟨g7, 5, none⟩ = some (.int .i64 j0) := St.imm_cell H7.out.drew HI46.out 5
            have q6 : w7.drew.cell? ⟨g7, 6, none⟩ = some (.int .i64 j1) := St.imm_cell H7.out.drew HI46.out 6
            have q7 : w7.drew.cell? ⟨g7, 7, none⟩ = some (.int .i64 j2) := St.imm_cell H7.out.drew HI46.out 7
            have q8 : w7.drew.cell? ⟨g7, 8, none⟩ = some (.int .i64 j3) := St.imm_cell H7.out.drew HI46.out 8
            have q9 : w7.drew.cell? ⟨g7, 9, none⟩ = some (.slice Ap ap.length cp) := St.imm_cell H7.out.drew HI46.out 9
            have q10 : w7.drew.cell? ⟨g7, 10, none⟩ = some (.string an) := St.imm_cell H7.out.drew HI46.out 10
            have q11 : w7.drew.cell? ⟨g7, 11, none⟩ = some (.slice Ak ak.length ck) := St.imm_cell H7.out.drew HI46.out 11
            have hnw := new3_spec 0 H7.out.drew
            have HNW := Lib.hid hnw
            clear hnw z0 z9 x0 x1 x2 x3
            go_upto_region 16 with fail
            refine wp_region_keep (fun w' => w'.cell? ⟨g7, 0, none⟩ = some (.int .i64 x) ∧ w'.cell? ⟨g7, 1, none⟩ = some (.int .i64 b1) ∧ w'.cell? ⟨g7, 2, none⟩ = some (.int .i64 b2) ∧ w'.cell? ⟨g7, 3, none⟩ = some (.int .i64 b3) ∧ w'.cell? ⟨g7, 4, none⟩ = some (.bool false) ∧ w'.cell? ⟨g7, 5, none⟩ = some (.int .i64 j0) ∧ w'.cell? ⟨g7, 6, none⟩ = some (.int .i64 j1) ∧ w'.cell? ⟨g7, 7, none⟩ = some (.int .i64 j2) ∧ w'.cell? ⟨g7, 8, none⟩ = some (.int .i64 j3) ∧ w'.cell? ⟨g7, 9, none⟩ = some (.slice Ap ap.length cp) ∧ w'.cell? ⟨g7, 10, none⟩ = some (.string an) ∧ w'.cell? ⟨g7, 11, none⟩ = some (.slice Ak ak.length ck)) [0, 2] [1] [3] (by kernel_rfl) (by kernel_rfl) (by (exact ⟨q0, q1, q2, q3, q4, q5, q6, q7, q8, q9, q10, q11⟩)) ?_
            simp only [pickL, List.getElem?_cons_zero, List.getElem?_cons_succ]
            repeat (refine wpFirst_step _ (Or.inl ⟨by rfl, by (intro w hSw; (try dsimp only at hSw); go_simp; try with_reducible rfl)⟩) ?_; (try simp only [Act.put, List.setIfInBounds_toArray, List.set_cons_zero, List.set_cons_succ]))
            refine wpFirst_nil ?_
            unfold wpHold
            clear q0 q1 q2 q3 q4 q5 q6 q7 q8 q9 q10 q11
            go_wp2_with fail
            refine HNW.out.mono ?_
            rintro e w8 ⟨q, rfl, h8⟩
            have q0 : w8.cell? ⟨g7, 0, none⟩ = some (.int .i64 x) := St.imm_cell h8 HI46.out 0
            have q1 : w8.cell? ⟨g7, 1, none⟩ = some (.int .i64 b1) := St.imm_cell h8 HI46.out 1
            have q2 : w8.cell? ⟨g7, 2, none⟩ = some (.int .i64 b2) := St.imm_cell h8 HI46.out 2
            have q3 : w8.cell? ⟨g7, 3, none⟩ = some (.int .i64 b3) := St.imm_cell h8 HI46.out 3
            have q4 : w8.cell? ⟨g7, 4, none⟩ = some (.bool false) := St.imm_cell h8 HI46.out 4
            have q5 : w8.cell? ⟨g7, 5, none⟩ = some (.int .i64 j0) := St.imm_cell h8 HI46.out 5
            have q6 : w8.cell? ⟨g7, 6, none⟩ = some (.int .i64 j1) := St.imm_cell h8 HI46.out 6
            have q7 : w8.cell? ⟨g7, 7, none⟩ = some (.int .i64 j2) := St.imm_cell h8 HI46.out 7
            have q8 : w8.cell? ⟨g7, 8, none⟩ = some (.int .i64 j3) := St.imm_cell h8 HI46.out 8
            have q9 : w8.cell? ⟨g7, 9, none⟩ = some (.slice Ap ap.length cp) := St.imm_cell h8 HI46.out 9
            have q10 : w8.cell? ⟨g7, 10, none⟩ = some (.string an) := St.imm_cell h8 HI46.out 10
            have q11 : w8.cell? ⟨g7, 11, none⟩ = some (.slice Ak ak.length ck) := St.imm_cell h8 HI46.out 11
            have hde := deed_calm (p := p) ⟨x, b1, b2, b3, false, ⟨j0, j1, j2, j3⟩, ap, .slice Ap ap.length cp, an, ak, .slice Ak ak.length ck⟩ how (h8.pull 1 _ rfl) (HKP.out.fewer (show 1000 - 4 * i - 2 + 2 ≤ 1000 - 4 * i by omega)) (rinv_new 0) (by omega) HOK6.out hopl rfl
            simp only [A3.val] at hde
            have HDE := Lib.hid hde
            have HRM3 := Lib.hid (HRM.out.act ⟨x, b1, b2, b3, false, ⟨j0, j1, j2, j3⟩, ap, .slice Ap ap.length cp, an, ak, .slice Ak ak.length ck⟩)
            have HKP3 := Lib.hid (actS_keeps (a := ⟨x, b1, b2, b3, false, ⟨j0, j1, j2, j3⟩, ap, .slice Ap ap.length cp, an, ak, .slice Ak ak.length ck⟩) (HKP.out.fewer (show 1000 - 4 * i - 2 + 2 ≤ 1000 - 4 * i by omega)))
            clear hde h8 HNW
            go_wp2_with fail
            refine holdPost_normal ⟨q0, q1, q2, q3, q4, q5, q6, q7, q8, q9, q10, q11⟩ ?_
            unfold wpHold
            go_wp2_with fail
            refine HDE.out.mono ?_
            rintro e w9 ⟨I9, hs9, rfl, h9⟩
            have H9 := Lib.hid ((h9.pull 1 _ rfl).drop)
            have HS9 := Lib.hid hs9
            clear h9 hs9 HDE
            go_wp2_with fail
            refine NoPanic.normal ?_
            go_wp2_with fail
            go_meet
            case rel => exact ⟨0, _, I9, rfl, HRM3.out, HKP3.out, HS9.out, H9.out, fun e => by cases e⟩
        case rest =>
          obtain ⟨er, SS, I8, rfl, hrm2, hkp2, hs8, h8, her⟩ := hcut
          obtain ⟨w8, hw8⟩ : ∃ x, x = wc := ⟨_, rfl⟩
          subst hw8
          have hul := hrm2.left
          have hum := hrm2.room_of
          have huu := hrm2.used
          obtain ⟨us, hus⟩ : ∃ us, SS.used = us := ⟨_, rfl⟩
          have hu0 : 0 ≤ us := by rw [← hus, huu]; exact sumS_nonneg _
          rw [hus] at hul hum
          have du : decide (r < us) = false := by rw [decide_eq_false_iff_not]; omega
          have dsub : IntKind.i64.wrap (r - us) = r - us := by rw [IntKind.wrap_i64]; omega
          have hsu := used_spec h8
          rw [hus] at hsu
          have hlf := left_of h8
          rw [show max 0 (wrap64 (SS.room - SS.used)) = roomS SS from rfl, hul] at hlf
          have HSU := Lib.hid hsu
          have HLF := Lib.hid hlf
          have H8 := Lib.hid h8
          have HRM2 := Lib.hid hrm2
          have HKP2 := Lib.hid hkp2
          have HS8 := Lib.hid (HS6.out.trans hs8)
          have HER := Lib.hid her
          have HI48 := Lib.hid (hs8 _ _ HI46.out)
          have HUS := Lib.hid hus
          clear hul huu hus hsu hlf h8 hrm2 hkp2 hs8 her z0 z9 x0 x1 x2 x3
          go_wp2_with fail
          refine HSU.out.mono ?_
          rintro e w9 ⟨rfl, rfl⟩
          go_wp2_with fail
          refine HLF.out.mono ?_
          rintro e w9 ⟨rfl, hb9⟩
          have h9 := H8.out.keep hb9
          have hsu := used_spec h9
          rw [HUS.out] at hsu
          have HSU2 := Lib.hid hsu
          have z9 : w9.cell? ⟨g7, 9, none⟩ = some (.slice Ap ap.length cp) := St.imm_cell h9 HI48.out 9
          have H9 := Lib.hid h9
          clear hb9 h9 hsu HSU HLF H8
          go_wp2_with fail
          refine HSU2.out.mono ?_
          rintro e w10 ⟨rfl, rfl⟩
          have dne : (r - us != r - us) = false := by simp
          by_cases h6 : er = 6
          · have h6b : (er == 6) = true := by simpa using h6
            have hle := HER.out h6
            have dle : decide ((ap.length : Int) ≤ roomS S) = false := by rw [decide_eq_false_iff_not]; omega
            clear h6 hle
            go_wp2_with fail
            go_roundw
            case rel => exact ⟨i + 1, SS, I8, by go_num, by omega, HRM2.out, HKP2.out.fewer (by omega), HS8.out, H9.out⟩
            case measure => simp [intOf]; omega
          · have h6b : (er == 6) = false := by simpa using h6
            go_wp2_with fail
            go_roundw
            case rel => exact ⟨i + 1, SS, I8, by go_num, by omega, HRM2.out, HKP2.out.fewer (by omega), HS8.out, H9.out⟩
            case measure => simp [intOf]; omega
      · obtain rfl : i = ls.length := by omega
        have HST := Lib.hid hst
        clear hst hrm hkp hI1
        go_wp2_with fail
        refine (known3_spec wr).mono ?_
        rintro e w9 ⟨rfl, hb9⟩
        have HB := Lib.hid (HST.out.below.trans (hb9.mono HST.out.below.size))
        clear hb9
        go_wp2_with fail
        go_ret
        exact ⟨rfl, HB.out⟩
end Go.Proofs.Ytnokhjhhadnckaa
