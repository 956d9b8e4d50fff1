/- StoreTwins: the law's walk. -/
import Derived.Test.YtagljjhfkhadpaaGreatLawPlays3
import Derived.Test.YtagljjhfkhadpaaGreatDeedsG
set_option linter.unusedSimpArgs false
set_option linter.unusedVariables false
set_option linter.unusedSectionVars false
namespace Go.Proofs.YtagljjhfkhadpaaGreat
open Go.RowKit
set_option maxRecDepth 4000
set_option maxHeartbeats 8000000
theorem wf_le {n : Int} (h : (Lit.int .i64 n).wf = true) : n ≤ 9223372036854775807 := by
  unfold Lit.wf at h
  simp only [Bool.and_eq_true, decide_eq_true_eq] at h
  exact h.2
theorem twins3_walk (v0 v1 kv : Value) (ls ms : List A3) (torn : Int) (keep : List Int) (W : World) (h1 : RowI W.hp 12 v0 ls.length (ls.flatMap A3.vals)) (hok : ∀ a ∈ ls, a.ok W.hp) (hn : ls.length ≤ maxLen)
    (h2 : RowI W.hp 12 v1 ms.length (ms.flatMap A3.vals)) (hok2 : ∀ a ∈ ms, a.ok W.hp) (hm : ms.length ≤ maxLen) (hkv : IntsI W.hp kv keep) (hkl : keep.length ≤ maxLen) (htn : torn ≤ 9223372036854775807) :
    Calls Tryz.prog 4 #[v0, v1, kv, .int .i64 torn] W fun e w' => e = .returned (.bool true) ∧ Below W.heap.size W w' := by
  have hfs := few_spec v0 ls W h1 hok hn
  have hft := few_spec v1 ms W h2 hok2 hm
  have H1 := Lib.hid h1
  have H2 := Lib.hid h2
  have HOK := Lib.hid hok
  have HOK2 := Lib.hid hok2
  have HKV := Lib.hid hkv
  obtain ⟨Ax, cx, rfl, _⟩ := h1
  obtain ⟨Ay, cy, rfl, _⟩ := h2
  obtain ⟨Az, cz, rfl, _⟩ := hkv
  unfold maxLen at hn hm hkl
  have hn1 : (ls.length : Int) ≤ 9223372036854775807 := by omega
  have hm1 : (ms.length : Int) ≤ 9223372036854775807 := by omega
  have hkl1 : (keep.length : Int) ≤ 9223372036854775807 := by omega
  clear hok hok2
  by_cases hbad : fewA ls = false ∨ fewA ms = false ∨ 20 < keep.length
  · have hend : Calls Tryz.prog 6 #[] W fun e w' => e = .returned (.bool true) ∧ Below W.heap.size W w' := known3_spec W
    have HEND := Lib.hid hend
    clear hend
    cases hfw : fewA ls with
    | false =>
      rw [hfw] at hfs
      have HFS := Lib.hid hfs
      clear hfs hft hbad
      go_enter Tryz.func4, Tryz.ntmps4
      go_wp2_with fail
      refine HFS.out.mono ?_
      rintro e w1 ⟨rfl, rfl⟩
      go_wp2_with fail
      refine HEND.out.mono ?_
      rintro e w1 ⟨rfl, hb⟩
      have HB := Lib.hid hb
      clear hb
      go_wp2_with fail
      go_ret
      exact ⟨rfl, HB.out⟩
    | true =>
      rw [hfw] at hfs hbad
      have HFS := Lib.hid hfs
      cases hfm : fewA ms with
      | false =>
        rw [hfm] at hft
        have HFT := Lib.hid hft
        clear hfs hft hbad
        go_enter Tryz.func4, Tryz.ntmps4
        go_wp2_with fail
        refine HFS.out.mono ?_
        rintro e w1 ⟨rfl, rfl⟩
        go_wp2_with fail
        refine HFT.out.mono ?_
        rintro e w1 ⟨rfl, rfl⟩
        go_wp2_with fail
        refine HEND.out.mono ?_
        rintro e w1 ⟨rfl, hb⟩
        have HB := Lib.hid hb
        clear hb
        go_wp2_with fail
        go_ret
        exact ⟨rfl, HB.out⟩
      | true =>
        rw [hfm] at hft hbad
        have HFT := Lib.hid hft
        have h20 : 20 < keep.length := by simpa using hbad
        have dk : decide (20 < (keep.length : Int)) = true := by rw [decide_eq_true_eq]; omega
        clear hfs hft hbad h20
        go_enter Tryz.func4, Tryz.ntmps4
        go_wp2_with fail
        refine HFS.out.mono ?_
        rintro e w1 ⟨rfl, rfl⟩
        go_wp2_with fail
        refine HFT.out.mono ?_
        rintro e w1 ⟨rfl, rfl⟩
        go_wp2_with fail
        refine HEND.out.mono ?_
        rintro e w1 ⟨rfl, hb⟩
        have HB := Lib.hid hb
        clear hb
        go_wp2_with fail
        go_ret
        exact ⟨rfl, HB.out⟩
  · have hfw : fewA ls = true := by
      cases h : fewA ls with
      | false => exact absurd (.inl h) hbad
      | true => rfl
    have hfm : fewA ms = true := by
      cases h : fewA ms with
      | false => exact absurd (.inr (.inl h)) hbad
      | true => rfl
    have hk20 : ¬ 20 < keep.length := fun h => hbad (.inr (.inr h))
    have dk : decide (20 < (keep.length : Int)) = false := by rw [decide_eq_false_iff_not]; omega
    rw [hfw] at hfs
    rw [hfm] at hft
    have HFS := Lib.hid hfs
    have HFT := Lib.hid hft
    obtain ⟨hl60, hp60⟩ := few_all3 hfw
    obtain ⟨hm60, hq60⟩ := few_all3 hfm
    have HP60 := Lib.hid hp60
    have HQ60 := Lib.hid hq60
    clear hfs hft hp60 hq60 hfw hfm hbad
    go_enter Tryz.func4, Tryz.ntmps4
    go_wp2_with fail
    refine HFS.out.mono ?_
    rintro e w1 ⟨rfl, rfl⟩
    go_wp2_with fail
    refine HFT.out.mono ?_
    rintro e w1 ⟨rfl, rfl⟩
    go_wp2_with fail
    refine (new_spec 2000 (St.init W)).mono ?_
    rintro e w2 ⟨p, rfl, h2⟩
    have HN := Lib.hid (new3_spec 2000 h2)
    clear h2
    go_wp2_with fail
    refine HN.out.mono ?_
    rintro e w3 ⟨r, rfl, h3⟩
    have H3 := Lib.hid (h3.pull 1 _ rfl)
    clear h3 HN
    go_wp2_with fail
    go_loopw [11] (fun a11 wr => ∃ (i : Nat) (S : Str) (R : RS) (I1 : Hp), a11 = .int .i64 i ∧ i ≤ ls.length ∧ PI S R (90000 - 2 * i) i ∧ W.hp.sub I1 ∧ St W I1 wr (storeHP p S :: refHP r R :: [])) (fun a11 _ => ls.length - (intOf a11).toNat)
    case atStart => exact ⟨0, newS 2000, rnew 2000, W.hp, rfl, Nat.zero_le _, PI.new 2000, Hp.sub.refl _, H3.out⟩
    case round =>
      obtain ⟨i, S, R, I1, rfl, hi, hpi, hI1, hst⟩ := hrel
      by_cases hlt : i < ls.length
      · have d0 : decide ((i : Int) < (ls.length : Int)) = true := by rw [decide_eq_true_eq]; omega
        obtain ⟨a, ha⟩ : ∃ a, ls[i]? = some a := ⟨_, List.getElem?_eq_getElem hlt⟩
        obtain ⟨b, off, e1, hc⟩ := rowk_cell (i := i) H1.out hI1 hst (fun _ => rfl) ha
        simp only [Value.slice.injEq, and_true] at e1
        subst e1
        have hoka := A3.ok_to (HOK.out a (List.mem_of_getElem? ha)) hI1
        obtain ⟨hpl, hakl⟩ := HP60.out a (List.mem_of_getElem? ha)
        have y0 := hc 0 (by omega)
        have y1 := hc 1 (by omega)
        have y2 := hc 2 (by omega)
        have y3 := hc 3 (by omega)
        have y4 := hc 4 (by omega)
        have y5 := hc 5 (by omega)
        have y6 := hc 6 (by omega)
        have y7 := hc 7 (by omega)
        have y8 := hc 8 (by omega)
        have y9 := hc 9 (by omega)
        have y10 := hc 10 (by omega)
        have y11 := hc 11 (by omega)
        obtain ⟨b0, b1, b2, b3, b4, ⟨j0, j1, j2, j3⟩, ap, av, an, ak, akv⟩ := a
        obtain ⟨Ap, cp, e1, _⟩ := hoka.1
        obtain ⟨Ak, ck, e2, _⟩ := hoka.2.2.2.1
        simp only at e1 e2 hpl hakl
        subst e1 e2
        simp only [A3.vals, List.getElem?_cons_succ, List.getElem?_cons_zero, Nat.add_zero] at y0 y1 y2 y3 y4 y5 y6 y7 y8 y9 y10 y11
        have hpi2 : PI S R ((90000 - 2 * (i + 1)) + 2) i := hpi.fewer (by omega)
        have hdd := deedA_spec ⟨b0, b1, b2, b3, b4, ⟨j0, j1, j2, j3⟩, ap, .slice Ap ap.length cp, an, ak, .slice Ak ak.length ck⟩ hst hpi2 (by omega) hoka hpl hakl
        have hsp := hpi2.step (by omega) ⟨b0, b1, b2, b3, b4, ⟨j0, j1, j2, j3⟩, ap, .slice Ap ap.length cp, an, ak, .slice Ak ak.length ck⟩ hpl hakl ⟨hoka.2.2.2.2.2.2.2.1, hoka.2.2.2.2.2.2.2.2⟩
        obtain ⟨T, hT⟩ : ∃ T, stepS S ⟨b0, b1, b2, b3, b4, ⟨j0, j1, j2, j3⟩, ap, .slice Ap ap.length cp, an, ak, .slice Ak ak.length ck⟩ = T := ⟨_, rfl⟩
        obtain ⟨U, hU⟩ : ∃ U, stepR R ⟨b0, b1, b2, b3, b4, ⟨j0, j1, j2, j3⟩, ap, .slice Ap ap.length cp, an, ak, .slice Ak ak.length ck⟩ = U := ⟨_, rfl⟩
        rw [hT, hU] at hdd hsp
        simp only [A3.val] at hdd
        have HDD := Lib.hid hdd
        have HPI := Lib.hid hsp
        have HI1 := Lib.hid hI1
        clear hT hU hdd hsp hpi hpi2 hst hI1 hc ha hoka
        go_wp2_with fail
        refine HDD.out.mono ?_
        rintro e w5 ⟨I5, hs5, rfl, h5⟩
        have H5 := Lib.hid h5
        have HS5 := Lib.hid (HI1.out.trans hs5)
        clear h5 hs5 HDD y0 y1 y2 y3 y4 y5 y6 y7 y8 y9 y10 y11
        go_wp2_with fail
        go_roundw
        case rel => exact ⟨i + 1, T, U, I5, by go_num, by omega, HPI.out, HS5.out, H5.out⟩
        case measure => simp [intOf]; omega
      · obtain rfl : i = ls.length := by omega
        have d0 : decide (((ls.length : Nat) : Int) < (ls.length : Int)) = false := by rw [decide_eq_false_iff_not]; omega
        have htw := twin_spec hst hpi.ks
        have HTW := Lib.hid htw
        have HPI := Lib.hid (hpi.fewer (show 80000 ≤ _ by omega))
        have HI1 := Lib.hid hI1
        have hlen60 := hl60
        clear htw hst hpi hI1
        go_wp2_with fail
        refine HTW.out.mono ?_
        rintro e w5 ⟨t, I5, hs5, rfl, h5⟩
        have H5 := Lib.hid h5
        have HS5 := Lib.hid (HI1.out.trans hs5)
        clear h5 hs5 HTW
        go_wp2_with fail
        have HN2 := Lib.hid (new3_spec 2000 H5.out)
        refine HN2.out.mono ?_
        rintro e w6 ⟨q, rfl, h6⟩
        have H6 := Lib.hid (h6.perm (m := storeHP t S :: refHP q (rnew 2000) :: storeHP p S :: refHP r R :: []) (by ((try simp only [List.eraseIdx_cons_succ, List.eraseIdx_cons_zero, List.cons_append, List.nil_append]); repeat (first | with_reducible exact List.Perm.refl _ | (apply perm_step; (· repeat (first | with_reducible exact find_here | with_reducible apply find_there)))))))
        clear h6 HN2 H5
        go_wp2_with fail
        obtain ⟨w7, hw7⟩ : ∃ x, w6 = x := ⟨_, rfl⟩
        rw [hw7] at H6 ⊢
        clear hw7
        go_loopw [14] (fun a14 wr => ∃ (i : Nat) (X : Str) (Y : RS) (I2 : Hp), a14 = .int .i64 i ∧ i ≤ ms.length ∧ KI X Y (80000 - 2 * i) i ∧ W.hp.sub I2 ∧ St W I2 wr (storeHP t X :: refHP q Y :: storeHP p S :: refHP r R :: [])) (fun a14 _ => ms.length - (intOf a14).toNat)
        case atStart => exact ⟨0, S, rnew 2000, I5, rfl, Nat.zero_le _, ⟨HPI.out.ks, rinv_new 2000, by show (0 : Int) ≤ _; omega⟩, HS5.out, H6.out⟩
        case round =>
          obtain ⟨i, X, Y, I1, rfl, hi, hki, hI1, hst⟩ := hrel
          by_cases hlt : i < ms.length
          · have d0 : decide ((i : Int) < (ms.length : Int)) = true := by rw [decide_eq_true_eq]; omega
            obtain ⟨a, ha⟩ : ∃ a, ms[i]? = some a := ⟨_, List.getElem?_eq_getElem hlt⟩
            obtain ⟨b, off, e1, hc⟩ := rowk_cell (i := i) H2.out hI1 hst (fun _ => rfl) ha
            simp only [Value.slice.injEq, and_true] at e1
            subst e1
            have hoka := A3.ok_to (HOK2.out a (List.mem_of_getElem? ha)) hI1
            obtain ⟨hpl, hakl⟩ := HQ60.out a (List.mem_of_getElem? ha)
            have y0 := hc 0 (by omega)
            have y1 := hc 1 (by omega)
            have y2 := hc 2 (by omega)
            have y3 := hc 3 (by omega)
            have y4 := hc 4 (by omega)
            have y5 := hc 5 (by omega)
            have y6 := hc 6 (by omega)
            have y7 := hc 7 (by omega)
            have y8 := hc 8 (by omega)
            have y9 := hc 9 (by omega)
            have y10 := hc 10 (by omega)
            have y11 := hc 11 (by omega)
            obtain ⟨b0, b1, b2, b3, b4, ⟨j0, j1, j2, j3⟩, ap, av, an, ak, akv⟩ := a
            obtain ⟨Ap, cp, e1, _⟩ := hoka.1
            obtain ⟨Ak, ck, e2, _⟩ := hoka.2.2.2.1
            simp only at e1 e2 hpl hakl
            subst e1 e2
            simp only [A3.vals, List.getElem?_cons_succ, List.getElem?_cons_zero, Nat.add_zero] at y0 y1 y2 y3 y4 y5 y6 y7 y8 y9 y10 y11
            have hki2 : KI X Y ((80000 - 2 * (i + 1)) + 2) i := hki.fewer (by omega)
            have hdd := deedG_spec ⟨b0, b1, b2, b3, b4, ⟨j0, j1, j2, j3⟩, ap, .slice Ap ap.length cp, an, ak, .slice Ak ak.length ck⟩ hst hki2.ks hki2.ri hki2.tn (by omega) hoka hpl hakl
            have hsp := hki2.step (by omega) ⟨b0, b1, b2, b3, b4, ⟨j0, j1, j2, j3⟩, ap, .slice Ap ap.length cp, an, ak, .slice Ak ak.length ck⟩ hpl hakl ⟨hoka.2.2.2.2.2.2.2.1, hoka.2.2.2.2.2.2.2.2⟩
            obtain ⟨X2, hT⟩ : ∃ T, stepS X ⟨b0, b1, b2, b3, b4, ⟨j0, j1, j2, j3⟩, ap, .slice Ap ap.length cp, an, ak, .slice Ak ak.length ck⟩ = T := ⟨_, rfl⟩
            obtain ⟨Y2, hU⟩ : ∃ U, stepR Y ⟨b0, b1, b2, b3, b4, ⟨j0, j1, j2, j3⟩, ap, .slice Ap ap.length cp, an, ak, .slice Ak ak.length ck⟩ = U := ⟨_, rfl⟩
            rw [hT, hU] at hdd hsp
            simp only [A3.val] at hdd
            have HDD := Lib.hid hdd
            have HKI := Lib.hid hsp
            have HI1b := Lib.hid hI1
            clear hT hU hdd hsp hki hki2 hst hI1 hc ha hoka
            go_wp2_with fail
            refine HDD.out.mono ?_
            rintro e w8 ⟨I8, bb, hs8, rfl, h8⟩
            have H8 := Lib.hid h8
            have HS8 := Lib.hid (HI1b.out.trans hs8)
            clear h8 hs8 HDD y0 y1 y2 y3 y4 y5 y6 y7 y8 y9 y10 y11
            go_wp2_with fail
            go_roundw
            case rel => exact ⟨i + 1, X2, Y2, I8, by go_num, by omega, HKI.out, HS8.out, H8.out⟩
            case measure => simp [intOf]; omega
          · obtain rfl : i = ms.length := by omega
            have d1 : decide (((ms.length : Nat) : Int) < (ms.length : Int)) = false := by rw [decide_eq_false_iff_not]; omega
            have hsm := same_spec3 (hst.perm (m := storeHP p S :: refHP r R :: storeHP t X :: refHP q Y :: []) (by ((try simp only [List.eraseIdx_cons_succ, List.eraseIdx_cons_zero, List.cons_append, List.nil_append]); repeat (first | with_reducible exact List.Perm.refl _ | (apply perm_step; (· repeat (first | with_reducible exact find_here | with_reducible apply find_there))))))) HPI.out
            have HSM := Lib.hid hsm
            have HI1b := Lib.hid hI1
            clear hsm hst hki hI1
            go_wp2_with fail
            refine HSM.out.mono ?_
            rintro e w8 ⟨I8, hs8, rfl, h8⟩
            have htw := twin_spec h8 HPI.out.ks
            have HTW2 := Lib.hid htw
            have HS8 := Lib.hid (HI1b.out.trans hs8)
            clear htw h8 hs8 HSM
            go_wp2_with fail
            refine HTW2.out.mono ?_
            rintro e w9 ⟨u, I9, hs9, rfl, h9⟩
            have h9 : St W I9 w9 (storeHP u S :: refHP r R :: storeHP p S :: storeHP t X :: refHP q Y :: []) := h9.perm (by ((try simp only [List.eraseIdx_cons_succ, List.eraseIdx_cons_zero, List.cons_append, List.nil_append]); repeat (first | with_reducible exact List.Perm.refl _ | (apply perm_step; (· repeat (first | with_reducible exact find_here | with_reducible apply find_there))))))
            have HS9 := Lib.hid (HS8.out.trans hs9)
            have hfa := fall_spec (.slice Az keep.length cz) keep torn h9 ((intsIP _ _).mono HS9.out HKV.out) (by omega) (fun _ => HPI.out.ks.inv.fewer (by omega))
            obtain ⟨hf1, hf2⟩ := HPI.out.sr.fall2 keep torn HPI.out.ri
            have hok2 := HPI.out.okr.fall keep torn
            have hks2 : Keeps (fallS S keep torn).1 80000 := fallS_keeps keep torn HPI.out.ks
            have hri2 := rfall_inv HPI.out.ri keep torn
            have htn2 : (rfall R keep torn).1.torn ≤ 9223372036854775807 := by rw [rfall_torn]; exact HPI.out.tn
            have hdS := fallS_dead S keep torn
            have hdR := rfall_dead R keep torn
            obtain ⟨F, hF⟩ : ∃ F, fallS S keep torn = F := ⟨_, rfl⟩
            obtain ⟨G, hG⟩ : ∃ G, rfall R keep torn = G := ⟨_, rfl⟩
            rw [hF] at hfa hf1 hf2 hks2 hdS
            rw [hG] at hf1 hf2 hok2 hri2 htn2 hdR
            have HFA := Lib.hid hfa
            have HPF : Hid (PI (powerS F.1) { G.1 with off := false } 80000 ls.length) := Lib.hid ⟨hf1.power, hok2, powerS_keeps hks2, rpower_inv hri2, htn2⟩
            have HF2 := Lib.hid hf2
            have HDS := Lib.hid hdS
            have HDR := Lib.hid hdR
            clear hfa hf1 hf2 hok2 hks2 hri2 htn2 hdS hdR h9 hs9 HTW2 hF
            go_wp2_with fail
            refine HFA.out.mono ?_
            rintro e w10 ⟨I10, hs10, rfl, h10⟩
            have hfb := fall3_spec (.slice Az keep.length cz) keep torn (h10.pull 1 _ rfl) HPI.out.ri ((intsIP _ _).mono (HS9.out.trans hs10) HKV.out) (by omega) htn
            rw [hG, ← HF2.out] at hfb
            have HFB := Lib.hid hfb
            have HS10 := Lib.hid (HS9.out.trans hs10)
            clear hfb h10 hs10 HFA hG
            go_wp2_with fail
            refine HFB.out.mono ?_
            rintro e w11 ⟨I11, hs11, rfl, h11⟩
            have h11 : St W I11 w11 (storeHP u F.1 :: refHP r G.1 :: storeHP p S :: storeHP t X :: refHP q Y :: []) := h11.perm (by ((try simp only [List.eraseIdx_cons_succ, List.eraseIdx_cons_zero, List.cons_append, List.nil_append]); repeat (first | with_reducible exact List.Perm.refl _ | (apply perm_step; (· repeat (first | with_reducible exact find_here | with_reducible apply find_there))))))
            have hpw := power_spec h11
            rw [HDS.out] at hpw
            have HPW := Lib.hid hpw
            have HS11 := Lib.hid (HS10.out.trans hs11)
            clear hpw h11 hs11 HFB
            go_wp2_with fail
            refine HPW.out.mono ?_
            rintro e w12 ⟨rfl, h12⟩
            have hpr := power3_spec (h12.pull 1 _ rfl)
            rw [HDR.out] at hpr
            have HPR := Lib.hid hpr
            clear hpr h12 HPW
            go_wp2_with fail
            refine HPR.out.mono ?_
            rintro e w13 ⟨rfl, h13⟩
            have h13 : St W I11 w13 (storeHP u (powerS F.1) :: refHP r { G.1 with off := false } :: storeHP p S :: storeHP t X :: refHP q Y :: []) := h13.perm (by unfold powerS; ((try simp only [List.eraseIdx_cons_succ, List.eraseIdx_cons_zero, List.cons_append, List.nil_append]); repeat (first | with_reducible exact List.Perm.refl _ | (apply perm_step; (· repeat (first | with_reducible exact find_here | with_reducible apply find_there))))))
            have HSM2 := Lib.hid (same_spec3 h13 HPF.out)
            clear h13 HPR
            go_wp2_with fail
            refine HSM2.out.mono ?_
            rintro e w14 ⟨I14, hs14, rfl, h14⟩
            have H14 := Lib.hid h14
            clear h14 hs14 HSM2
            go_wp2_with fail
            refine (known3_spec _).mono ?_
            rintro e w15 ⟨rfl, hb15⟩
            have HB := Lib.hid (H14.out.keep hb15)
            clear hb15
            go_wp2_with fail
            go_ret
            exact ⟨rfl, HB.out.below⟩
end Go.Proofs.YtagljjhfkhadpaaGreat
