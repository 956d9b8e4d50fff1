/- hectographlaw17: at, heads, copies: what is shown. -/
import Derived.Test.YtbepmbcbcklmlaaGreatTheirs17
import Derived.Test.YtbepmbcbcklmlaaGreatSame10
set_option linter.unusedSimpArgs false
set_option linter.unusedVariables false
set_option linter.unusedSectionVars false
namespace Go.Proofs.YtbepmbcbcklmlaaGreat
open Go.RowKit
section
variable {W w : World} {I : Hp} {l : List HP} {p : Nat} {S : Str}
set_option maxRecDepth 4000
set_option maxHeartbeats 8000000
theorem atL_spec {m : Nat} (num : Nat) (snap : Int) (b : B17) (h : St W I w (storeHP p S :: l)) (hk : Inv S m) (hb : b.ok I) (h1 : cthereS S 0 num snap = (b.o.isSome, 0)) (h2 : csizeS S 0 num snap = (((b.o.getD []).length : Int), 0)) (h3 : creadS S 0 num snap 0 64 = (padB (b.o.getD []) 0 64, 0)) (hl : (b.o.getD []).length ≤ 64) :
    Calls Tryz.prog 37 #[.pointer (some ⟨p, 0, none⟩), .int .i64 num, .int .i64 snap, b.val] w fun e w' => ∃ I', I.sub I' ∧ e = .returned (.bool true) ∧ St W I' w' (storeHP p S :: l) := by
  obtain ⟨bo, bv⟩ := b
  have HB := Lib.hid hb
  obtain ⟨Ab, cb, e, _⟩ := hb
  simp only at e h1 h2 h3 hl
  subst e
  obtain ⟨P, hP⟩ : ∃ P, padB (bo.getD []) 0 64 = P := ⟨_, rfl⟩
  have hPl : P.length = 64 := by rw [← hP]; exact padB_len _ _ _
  rw [hP] at h3
  obtain ⟨I1, hs1, hI1, q1⟩ := (h.alloc (.cells #[.bool bo.isSome, .slice Ab (bo.getD []).length cb] 44)).freeze
  have H := Lib.hid q1
  have HS1 := Lib.hid hs1
  have HI1 := Lib.hid hI1
  have HK := Lib.hid hk
  have E1 := Lib.hid h1
  have E2 := Lib.hid h2
  have E3 := Lib.hid h3
  have HPP := Lib.hid hP
  have HPL := Lib.hid hPl
  obtain ⟨g, hg⟩ : ∃ x, x = w.heap.size := ⟨_, rfl⟩
  have hl2 : ((bo.getD []).length : Int) ≤ 64 := by omega
  have hc := cthere_spec 0 num snap H.out HK.out
  rw [E1.out] at hc
  have HC := Lib.hid hc
  simp only [B17.val]
  clear h q1 hs1 hI1 hk h1 h2 h3 hP hPl hc
  go_enter Tryz.func37, Tryz.ntmps37
  go_wp2_with fail
  refine HC.out.mono ?_
  rintro e w3 ⟨I3, hs3, rfl, q3⟩
  have hc := csize_spec 0 num snap q3 HK.out
  rw [E2.out] at hc
  have HC2 := Lib.hid hc
  have HS3 := Lib.hid hs3
  clear hc q3 hs3 HC
  go_wp2_with fail
  refine HC2.out.mono ?_
  rintro e w4 ⟨I4, hs4, rfl, q4⟩
  have hc := cread_spec 0 num snap 0 64 q4 HK.out
  rw [E3.out] at hc
  have HC3 := Lib.hid hc
  have HS4 := Lib.hid (HS3.out.trans hs4)
  clear hc q4 hs4 HC2
  go_wp2_with fail
  refine HC3.out.mono ?_
  rintro e w5 ⟨v5, I5, hs5, rfl, hb5, q5⟩
  have HS5 := Lib.hid (HS4.out.trans hs5)
  have HB5 := Lib.hid hb5
  obtain ⟨A5, c5, rfl, _⟩ := hb5
  have H5 := Lib.hid q5.drew
  clear q5 hs5 HC3
  obtain ⟨x0, x1⟩ := imm_two H5.out (HS5.out _ _ HI1.out)
  have hcv := src_string (bytes_src H5.out HB5.out)
  have hrd := read17_spec bo (.slice Ab (bo.getD []).length cb) 0 64 H5.out ((bytesIP _ _).mono (HS1.out.trans HS5.out) HB.out) (by omega) (by omega) (by omega)
  rw [HPP.out] at hrd
  change Calls _ _ #[_, .int .i64 0, .int .i64 64] _ _ at hrd
  have HRD := Lib.hid hrd
  have hss : (strOfNums P == strOfNums P) = true := (MapKept.bytes_beq _ _).2 rfl
  rw [← hg] at x0 x1
  clear hrd
  go_upto_region 4 with fail
  rw [← hg]
  have HI1x := Lib.hid (show I1 g = some (.cells #[.bool bo.isSome, .slice Ab (bo.getD []).length cb] 44) by rw [hg]; exact HI1.out)
  clear hg
  refine wp_region_keep (fun w' => (convert 28 9 (.slice A5 P.length c5)).run Tryz.prog w' = .ok (.string (strOfNums P)) w' ∧ w'.cell? ⟨g, 0, none⟩ = some (.bool bo.isSome) ∧ w'.cell? ⟨g, 1, none⟩ = some (.slice Ab (bo.getD []).length cb)) [0, 1, 2, 3, 4, 5, 6, 7, 8, 9, 10, 11, 12, 13, 14, 15, 16, 17, 18, 19, 20, 21, 22, 23, 24, 25, 26] [27, 28] [29, 30, 31] (by kernel_rfl) (by kernel_rfl) (by (exact ⟨hcv, x0, x1⟩)) ?_
  simp only [pickL, List.getElem?_cons_zero, List.getElem?_cons_succ]
  repeat (first | (refine wpFirst_step _ (Or.inl ⟨by rfl, by (intro w hSw; (try dsimp only at hSw); go_simp; try with_reducible rfl)⟩) ?_; (try simp only [Act.put, List.setIfInBounds_toArray, List.set_cons_zero, List.set_cons_succ])) | (refine wpFirst_step _ (Or.inr ⟨by rfl, rfl⟩) ?_; (try simp only [Act.put, List.setIfInBounds_toArray, List.set_cons_zero, List.set_cons_succ])) | fail)
  refine wpFirst_nil ?_
  unfold wpHold
  clear x0 x1 hcv
  go_wp2_with fail
  refine HRD.out.mono ?_
  rintro e w6 ⟨gb, rfl, q6⟩
  obtain ⟨I7, hs7, hb7, q7⟩ := pad_bytes HPL.out (by omega) q6
  obtain ⟨x0, x1⟩ := imm_two q7 (hs7 _ _ (HS5.out _ _ HI1x.out))
  have hcv := src_string (bytes_src q7 ((bytesIP _ _).mono hs7 HB5.out))
  have hcv7 := src_string (bytes_src q7 hb7)
  have H7 := Lib.hid q7
  have HS7 := Lib.hid hs7
  clear q6 q7 hs7 hb7 HRD
  go_wp2_with fail
  refine holdPost_normal ⟨hcv, x0, x1⟩ ?_
  unfold wpHold
  go_wp2_with fail
  refine holdPost_normal ⟨hcv, x0, x1⟩ ?_
  unfold wpHold
  go_wp2_with fail
  refine NoPanic.normal ?_
  go_wp2_with fail
  go_ret
  exact ⟨I7, ((HS1.out.trans HS5.out).trans HS7.out), rfl, H7.out⟩
theorem small_at {U : List K4} {S : Str} (h : Live U S) {i : Int} {o : RO} (hO : ObjV (cview S 0) i o) (snap : Int) : ((ratR o snap).getD []).length ≤ 64 := by
  rw [← hO.at h.inv.keys]
  exact val_small h 0 i snap
theorem headsL_spec {m : Nat} {U : List K4} (hU : UOK U) (most : Nat) (rv : Value) (os : List O17) (h : St W I w (storeHP p S :: l)) (hk : Inv S m) (hlv : Live U S) (hos : RowO I rv os) (hl : os.length ≤ 100) (hcs : ∀ o ∈ os, o.cs.length ≤ 1000) (hms : most ≤ 1000)
    (hO : ∀ (i : Nat) (o : O17), os[i]? = some o → ObjV (cview S 0) i o.r) :
    Calls Tryz.prog 12 #[.pointer (some ⟨p, 0, none⟩), rv, .int .i64 most] w fun e w' => ∃ I', I.sub I' ∧ e = .returned (.bool true) ∧ St W I' w' (storeHP p S :: l) := by
  have HOS := Lib.hid hos
  have H := Lib.hid h
  have HK := Lib.hid hk
  have HLV := Lib.hid hlv
  have HCS := Lib.hid hcs
  have HO := Lib.hid hO
  obtain ⟨⟨Ao, co, rfl, _⟩, _⟩ := hos
  have hln : (os.length : Int) ≤ 100 := by omega
  have hmn : (most : Int) ≤ 1000 := by omega
  clear h hk hlv hcs hO
  go_enter Tryz.func12, Tryz.ntmps12
  go_wp2_with fail
  go_loopw [7] (fun a7 wr => ∃ (i : Nat) (I1 : Hp), a7 = .int .i64 i ∧ i ≤ os.length ∧ I.sub I1 ∧ St W I1 wr (storeHP p S :: l)) (fun a7 _ => os.length - (intOf a7).toNat)
  case atStart => exact ⟨0, I, rfl, Nat.zero_le _, Hp.sub.refl _, H.out⟩
  case round =>
    obtain ⟨i, I1, rfl, hi, hI1, hst⟩ := hrel
    by_cases hlt : i < os.length
    · have d0 : decide ((i : Int) < (os.length : Int)) = true := by rw [decide_eq_true_eq]; omega
      obtain ⟨o, ho⟩ : ∃ o, os[i]? = some o := ⟨_, List.getElem?_eq_getElem hlt⟩
      have HO1 := Lib.hid ho
      have HOV := Lib.hid (HO.out i o ho)
      have HOK := Lib.hid (HOS.out.2 o (List.mem_of_getElem? ho))
      have HCL := Lib.hid (HCS.out o (List.mem_of_getElem? ho))
      have HST := Lib.hid hst
      have HI1 := Lib.hid hI1
      clear ho hst hI1
      go_wp2_with fail
      obtain ⟨w2, hw2⟩ : ∃ x, wr = x := ⟨_, rfl⟩
      rw [hw2]
      rw [hw2] at HST
      clear hw2
      go_loopw [8] (fun a8 wr => ∃ (s : Nat) (I2 : Hp), a8 = .int .i64 s ∧ s ≤ most + 1 ∧ I.sub I2 ∧ St W I2 wr (storeHP p S :: l)) (fun a8 _ => most + 1 - (intOf a8).toNat)
      case atStart => exact ⟨0, I1, rfl, Nat.zero_le _, HI1.out, HST.out⟩
      case round =>
        obtain ⟨s, I2, rfl, hs, hI2, hst⟩ := hrel
        by_cases hsl : s ≤ most
        · have d1 : decide ((s : Int) ≤ (most : Int)) = true := by rw [decide_eq_true_eq]; omega
          obtain ⟨bb, ob, e1, hce⟩ := rowk_cell (mk := O17.vals) HOS.out.1 hI2 hst (fun _ => rfl) HO1.out
          simp only [Value.slice.injEq, and_true] at e1
          subst e1
          have z0 := hce 0 (by omega)
          have z1 := hce 1 (by omega)
          have z2 := hce 2 (by omega)
          have hat := at17_spec (off := ob + i * 3) o (s : Int) hst (HOK.out.mono hI2) z0 z1 z2 (cell_lt z0) (by have := HCL.out; omega)
          have HAT := Lib.hid hat
          obtain ⟨t1, t2, t3⟩ := sim_tell hU HLV.out HOV.out (by omega) (snap := (s : Int)) (by omega)
          have T1 := Lib.hid t1
          have T2 := Lib.hid t2
          have T3 := Lib.hid (t3 0 64 rfl)
          have TS := Lib.hid (small_at HLV.out HOV.out (s : Int))
          have HST2 := Lib.hid hst
          have HI2 := Lib.hid hI2
          clear t1 t2 t3 hat hce z0 z1 z2 hst hI2
          go_wp2_with fail
          refine HAT.out.mono ?_
          rintro e w5 ⟨b, rfl, hbok, hbr, hb5⟩
          have hcall := atL_spec i (s : Int) b (HST2.out.keep hb5) HK.out hbok (by rw [hbr]; exact T1.out) (by rw [hbr]; exact T2.out) (by rw [hbr]; exact T3.out) (by rw [hbr]; exact TS.out)
          have HCALL := Lib.hid hcall
          clear hcall hbok hbr hb5 HAT
          go_wp2_with fail
          refine HCALL.out.mono ?_
          rintro e w6 ⟨I6, hs6, rfl, h6⟩
          have H6 := Lib.hid h6
          have HS6 := Lib.hid (HI2.out.trans hs6)
          clear h6 hs6 HCALL
          go_wp2_with fail
          go_roundw
          case rel => exact ⟨s + 1, I6, by go_num, by omega, HS6.out, H6.out⟩
          case measure => simp [intOf]; omega
        · obtain rfl : s = most + 1 := by omega
          have d1 : decide (((most + 1 : Nat) : Int) ≤ (most : Int)) = false := by rw [decide_eq_false_iff_not]; omega
          have H3 := Lib.hid hst
          have HI3 := Lib.hid hI2
          clear hst hI2
          go_wp2_with fail
          go_roundw
          case rel => exact ⟨i + 1, I2, by go_num, by omega, HI3.out, H3.out⟩
          case measure => simp [intOf]; omega
    · obtain rfl : i = os.length := by omega
      have d0 : decide (((os.length : Nat) : Int) < (os.length : Int)) = false := by rw [decide_eq_false_iff_not]; omega
      have H3 := Lib.hid hst
      have HI3 := Lib.hid hI1
      clear hst hI1
      go_wp2_with fail
      go_ret
      exact ⟨I1, HI3.out, rfl, H3.out⟩
theorem copiesL_spec {m : Nat} {U : List K4} (hU : UOK U) (rv : Value) (os : List O17) (h : St W I w (storeHP p S :: l)) (hk : Inv S m) (hlv : Live U S) (hos : RowO I rv os) (hl : os.length ≤ 100) (hcs : ∀ o ∈ os, o.cs.length ≤ 1000)
    (hO : ∀ (i : Nat) (o : O17), os[i]? = some o → ObjV (cview S 0) i o.r) :
    Calls Tryz.prog 13 #[.pointer (some ⟨p, 0, none⟩), rv] w fun e w' => ∃ I', I.sub I' ∧ e = .returned (.bool true) ∧ St W I' w' (storeHP p S :: l) := by
  have HOS := Lib.hid hos
  have H := Lib.hid h
  have HK := Lib.hid hk
  have HLV := Lib.hid hlv
  have HCS := Lib.hid hcs
  have HO := Lib.hid hO
  obtain ⟨⟨Ao, co, rfl, _⟩, _⟩ := hos
  have hln : (os.length : Int) ≤ 100 := by omega
  clear h hk hlv hcs hO
  go_enter Tryz.func13, Tryz.ntmps13
  go_wp2_with fail
  go_loopw [5] (fun a5 wr => ∃ (i : Nat) (I1 : Hp), a5 = .int .i64 i ∧ i ≤ os.length ∧ I.sub I1 ∧ St W I1 wr (storeHP p S :: l)) (fun a5 _ => os.length - (intOf a5).toNat)
  case atStart => exact ⟨0, I, rfl, Nat.zero_le _, Hp.sub.refl _, H.out⟩
  case round =>
    obtain ⟨i, I1, rfl, hi, hI1, hst⟩ := hrel
    by_cases hlt : i < os.length
    · have d0 : decide ((i : Int) < (os.length : Int)) = true := by rw [decide_eq_true_eq]; omega
      obtain ⟨o, ho⟩ : ∃ o, os[i]? = some o := ⟨_, List.getElem?_eq_getElem hlt⟩
      have HO1 := Lib.hid ho
      have hcl := HCS.out o (List.mem_of_getElem? ho)
      have hov := HO.out i o ho
      have HOK := Lib.hid (HOS.out.2 o (List.mem_of_getElem? ho))
      have hcc := sim_copies hU HLV.out hov (by omega)
      have hcp := ccopies_spec 0 i hst HK.out
      rw [hcc] at hcp
      obtain ⟨ns, hns⟩ : ∃ ns, o.r.cs.map (·.1) = ns := ⟨_, rfl⟩
      rw [hns] at hcp
      obtain ⟨⟨ho0, hov2⟩, cs, cv⟩ := o
      have hnl : ns.length = cs.length := by rw [← hns]; simp [O17.r]
      have hnk : ∀ (k : Nat) (c : C17), cs[k]? = some c → ns[k]? = some c.n := fun k c hk => by
        rw [← hns]
        show ((cs.map C17.r).map (·.1))[k]? = some c.n
        rw [List.map_map, List.getElem?_map, hk]
        rfl
      have HCP := Lib.hid hcp
      have HI1 := Lib.hid hI1
      have HNK := Lib.hid hnk
      have HNL := Lib.hid hnl
      simp only at hcl
      obtain ⟨_, ⟨Ac, cc, e, _⟩, _⟩ := HOK.out
      simp only at e
      subst e
      have hcl2 : (cs.length : Int) ≤ 1000 := by omega
      clear ho hov hcc hcp hns hI1 hst hnl hnk
      go_wp2_with fail
      refine HCP.out.mono ?_
      rintro e w3 ⟨v3, I3, hs3, rfl, hv3, h3⟩
      have HV3 := Lib.hid hv3
      obtain ⟨A3, c3, rfl, _⟩ := hv3
      have HS3 := Lib.hid (HI1.out.trans hs3)
      have H3 := Lib.hid h3
      clear h3 hs3 HCP
      go_wp2_with fail
      go_loopw [8, 9] (fun a8 a9 wr => ∃ (k : Nat) (A : Option Addr) (c : Nat), a9 = .int .i64 k ∧ a8 = .slice A k c ∧ k ≤ cs.length ∧ St W I3 wr (HP.row 3 1 (.slice A k c) k ((ns.take k).map intV) :: storeHP p S :: l)) (fun _ a9 _ => cs.length - (intOf a9).toNat)
      case atStart => exact ⟨0, none, 0, rfl, rfl, Nat.zero_le _, H3.out.row_nil _ _⟩
      case round =>
        obtain ⟨k, A, c, rfl, rfl, hk, hst⟩ := hrel
        obtain ⟨bb, ob, e1, hce⟩ := rowk_cell (mk := O17.vals) HOS.out.1 HS3.out hst (fun _ => rfl) HO1.out
        simp only [Value.slice.injEq, and_true] at e1
        subst e1
        have z2 := hce 2 (by omega)
        simp only [O17.vals, List.getElem?_cons_succ, List.getElem?_cons_zero] at z2
        by_cases hkl : k < cs.length
        · have d1 : decide ((k : Int) < (cs.length : Int)) = true := by rw [decide_eq_true_eq]; omega
          obtain ⟨z, hz⟩ : ∃ z, cs[k]? = some z := ⟨_, List.getElem?_eq_getElem hkl⟩
          obtain ⟨bc, oc, e1, hcc⟩ := rowk_cell (mk := C17.vals) HOK.out.2.1 HS3.out hst (fun _ => rfl) hz
          simp only [Value.slice.injEq, and_true] at e1
          subst e1
          have y0 := hcc 0 (by omega)
          have hnz := HNK.out k z hz
          obtain ⟨n, zb⟩ := z
          simp only [C17.vals, List.getElem?_cons_succ, List.getElem?_cons_zero, Nat.add_zero] at y0
          have htk : (ns.take k).map intV ++ [.int .i64 n] = (ns.take (k + 1)).map intV := by
            rw [List.take_add_one, hnz, List.map_append]
            rfl
          have h6 := hst.keep (below_alloc wr (.cells #[.int .i64 n] 3))
          obtain ⟨v7, w7, hr7, h7⟩ := St.ints_append 29 h6 (int_src wr n) (by omega)
          obtain ⟨A7, c7, rfl⟩ := is_slice h7.row_owns
          rw [htk] at h7
          have HR7 := Lib.hid hr7
          have H7 := Lib.hid h7
          clear htk h6 h7 hr7 hz hnz hst hce hcc
          go_wp2_with (at_builtin; refine Lib.wpList_append_run _ rfl (.tmp 32) (.tmp 42) 29 29 rfl _ _ rfl rfl _ _ HR7.out ?_)
          go_roundw
          case rel => exact ⟨k + 1, A7, c7, by go_num, rfl, by omega, H7.out⟩
          case measure => simp [intOf]; omega
        · obtain rfl : k = cs.length := by omega
          have d1 : decide (((cs.length : Nat) : Int) < (cs.length : Int)) = false := by rw [decide_eq_false_iff_not]; omega
          have h8 := hst
          rw [← HNL.out, List.take_length] at h8
          have hsame := same_true (.slice A3 ns.length c3) (.slice A ns.length c) ns wr (ints_src h8 HV3.out) (h8.row_src (ints_one _)) (by rw [HNL.out]; omega)
          rw [HNL.out] at hsame
          have HSAME := Lib.hid hsame
          have H8 := Lib.hid hst.drop
          have hnl := HNL.out
          clear h8 hsame hst hce
          go_wp2_with fail
          refine HSAME.out.mono ?_
          rintro e w5 ⟨rfl, hb5⟩
          have H9 := Lib.hid (H8.out.keep hb5)
          clear hb5 HSAME
          go_wp2_with fail
          go_roundw
          case rel => exact ⟨i + 1, I3, by go_num, by omega, HS3.out, H9.out⟩
          case measure => simp [intOf]; omega
    · obtain rfl : i = os.length := by omega
      have d0 : decide (((os.length : Nat) : Int) < (os.length : Int)) = false := by rw [decide_eq_false_iff_not]; omega
      have H3 := Lib.hid hst
      have HI3 := Lib.hid hI1
      clear hst hI1
      go_wp2_with fail
      go_ret
      exact ⟨I1, HI3.out, rfl, H3.out⟩
end
end Go.Proofs.YtbepmbcbcklmlaaGreat
