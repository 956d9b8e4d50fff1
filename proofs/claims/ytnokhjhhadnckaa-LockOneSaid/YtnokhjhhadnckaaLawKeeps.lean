/- StoreKeeps: the walk. -/
import Derived.Test.YtnokhjhhadnckaaArgs
import Derived.Test.YtnokhjhhadnckaaKnown3
import Derived.Test.YtnokhjhhadnckaaKeepsPlain
set_option linter.unusedSimpArgs false
set_option linter.unusedVariables false
set_option linter.unusedSectionVars false
namespace Go.Proofs.Ytnokhjhhadnckaa
open Go.RowKit
section
variable {W w : World} {I : Hp} {l : List HP}
/-- append(v, v2...) of bytes. -/
theorem St.bytes_append {v v2 : Value} {n m : Nat} {xs ys : List Value} (ty : TypeId) (h : St W I w (HP.row 5 1 v n xs :: l)) (hs : SliceSrc w 1 v2 m ys) (hb : n + m ≤ 1000000000) :
    ∃ v' w', (Builtin.append_ #[31, 31] ty #[v, v2]).run Try.prog w = .ok v' w' ∧ St W I w' (HP.row 5 1 v' (n + m) (xs ++ ys) :: l) := by
  obtain ⟨A, c, rfl, hsrc, hA⟩ := hs
  obtain ⟨i0, hi0, hz0, hz1, hz2⟩ := info_parts cloneB_info
  obtain ⟨v', w', hr, ho', hgr, hv'⟩ := run_append_src (P := Try.prog) w 0 31 ty 5 i0 _ 1 1 Try.underlying31 hi0 hz0 hz1 hz2 rfl (by decide) v n xs h.row_owns A m c ys hsrc hA (by unfold maxLen; omega) (by omega) (Nat.zero_le _)
  exact ⟨v', w', hr, h.row_grown ho' hgr hv'⟩
end
theorem bytes_take {I : Hp} {A : Option Addr} {n c m : Nat} {q : List Int} (h : BytesI I (.slice A n c) q) (hm : m ≤ q.length) : BytesI I (.slice A m c) (q.take m) := by
  obtain ⟨A', c', e, h1, h2, h3, h4, h5⟩ := h
  simp only [Value.slice.injEq] at e
  obtain ⟨rfl, rfl, rfl⟩ := e
  have hl : (q.take m).length = m := by rw [List.length_take]; omega
  refine ⟨A, c, by rw [hl], by simp, by omega, h3, h4, fun hn => ?_⟩
  obtain ⟨b, off, cs, t, f, e1, e2, e3⟩ := h5 (by omega)
  refine ⟨b, off, cs, t, f, e1, e2, fun i x hx => e3 i x ?_⟩
  rw [List.map_take, List.getElem?_take] at hx
  split at hx
  · exact hx
  · cases hx
section
set_option maxRecDepth 4000
set_option maxHeartbeats 4000000
theorem storeKeeps_walk (v : Value) (ls : List (List Int)) (keep torn : Int) (W : World) (h : RowsI W.hp v ls) (hl : ls.length ≤ maxLen) :
    Calls Try.prog 3 #[v, .int .i64 keep, .int .i64 torn] W fun e w' => e = .returned (.bool true) ∧ Below W.heap.size W w' := by
  obtain ⟨vs, hvl, hrow, hbytes, hsmall⟩ := h
  have HROW := Lib.hid hrow
  have HBY := Lib.hid hbytes
  have HSM := Lib.hid hsmall
  obtain ⟨A, c, rfl, _, hnc, hcm, hA, hcell⟩ := hrow
  unfold maxLen at hl
  have hc1 : (ls.length : Int) ≤ 9223372036854775807 := by omega
  by_cases h20 : 20 < ls.length
  · have hd : decide (20 < (ls.length : Int)) = true := by rw [decide_eq_true_eq]; omega
    go_enter Try.func3, Try.ntmps3
    go_wp2_with fail
    refine (known3_spec W).mono ?_
    rintro e w1 ⟨rfl, hb⟩
    have HB := Lib.hid hb
    clear hb
    go_wp2_with fail
    go_ret
    exact ⟨rfl, HB.out⟩
  · have hd : decide (20 < (ls.length : Int)) = false := by rw [decide_eq_false_iff_not]; omega
    have hn20 : ls.length ≤ 20 := by omega
    have HCELL := Lib.hid hcell
    clear hbytes hsmall hcell h20 hcm hA hnc
    go_enter Try.func3, Try.ntmps3
    go_wp2_with fail
    refine (new_spec 65536 (St.init W)).mono ?_
    rintro e w1 ⟨p, rfl, h1⟩
    have H1 := Lib.hid ((h1.alloc (.cells #[.int .i64 1, .int .i64 0, .int .i64 3, .int .i64 0] 27)).pull 1 _ rfl)
    clear h1
    go_wp2_with fail
    have hc := make_spec kkK H1.out (keeps_new 65536)
    rw [kk0_make] at hc
    simp only [K4.val, kkK] at hc
    refine hc.mono ?_
    rintro e w2 ⟨I2, hs2, rfl, h2⟩
    have H2 := Lib.hid h2
    have HS2 := Lib.hid hs2
    clear hc h2 hs2
    go_wp2_with fail
    have hkm : Keeps (makeS (newS 65536) kkK).2 99998 := makeS_keeps (keeps_new 65536)
    have hc := barrier_spec H2.out hkm
    have hkb := barrierS_keeps hkm
    have hkk0 : barrierS (makeS (newS 65536) ⟨1, 0, 3, 0⟩).2 = (0, skS []) := kk0_eq
    rw [hkk0] at hc
    rw [kk0_eq] at hkb
    refine hc.mono ?_
    rintro e w3 ⟨I3, hs3, rfl, h3⟩
    have H3 := Lib.hid h3
    have HS3 := Lib.hid (HS2.out.trans hs3)
    have HKB := Lib.hid hkb
    clear hc h3 hs3 hkm hkb hkk0
    go_wp2_with fail
    go_loopw [9, 10, 11] (fun a9 a10 a11 wr => ∃ (i : Nat) (I1 : Hp) (A10 : Option Addr) (c10 : Nat), a10 = .slice A10 (wantS (ls.take i) keep torn).length c10 ∧ a11 = .int .i64 i ∧ a9 = .int .i64 i ∧ i ≤ ls.length ∧ (ls.take i).flatten.length ≤ 60 * i ∧ Keeps (skS (ls.take i)) (50000 - 2 * i) ∧ W.hp.sub I1 ∧
      St W I1 wr (storeHP p (skS (ls.take i)) :: HP.pt w1.heap.size (.cells #[.int .i64 1, .int .i64 0, .int .i64 3, .int .i64 0] 27) :: HP.row 5 1 a10 (wantS (ls.take i) keep torn).length ((wantS (ls.take i) keep torn).map byteV) :: [])) (fun _ _ a11 _ => ls.length - (intOf a11).toNat)
    case atStart =>
      refine ⟨0, I3, none, 0, by simp [wantS, pieceS], rfl, rfl, Nat.zero_le _, by simp, by simpa using HKB.out.fewer (by omega), HS3.out, ?_⟩
      have e : wantS (ls.take 0) keep torn = [] := by simp [wantS, pieceS]
      rw [e]
      exact (H3.out.row_nil 5 1).perm (m := storeHP p (skS []) :: HP.pt w1.heap.size (.cells #[.int .i64 1, .int .i64 0, .int .i64 3, .int .i64 0] 27) :: HP.row 5 1 (.slice none 0 0) 0 [] :: []) (by ((try simp only [List.eraseIdx_cons_succ, List.eraseIdx_cons_zero, List.cons_append, List.nil_append]); repeat (first | with_reducible exact List.Perm.refl _ | (apply perm_step; (· repeat (first | with_reducible exact find_here | with_reducible apply find_there))))))
    case round =>
      obtain ⟨i, I1, A10, c10, rfl, rfl, rfl, hi, hfl, hkp, hI1, hst⟩ := hrel
      by_cases hlt : i < ls.length
      · obtain ⟨b, off, cs, t, f, rfl, hblk, hcs⟩ := HCELL.out (by omega)
        obtain ⟨q, hq⟩ : ∃ q, ls[i]? = some q := ⟨_, List.getElem?_eq_getElem hlt⟩
        obtain ⟨vi, hvi⟩ : ∃ vi, vs[i]? = some vi := ⟨_, List.getElem?_eq_getElem (by omega)⟩
        have hbi := HBY.out i vi q hvi hq
        have hql := (HSM.out q (List.mem_of_getElem? hq)).2
        unfold maxLen at hql
        have hci : wr.cell? ⟨b, off + i, none⟩ = some vi := by
          have h1 := hst.imm_heap (hI1 _ _ hblk)
          rw [cells_of h1]
          exact hcs i vi hvi
        have htk : ls.take (i + 1) = ls.take i ++ [q] := by
          rw [List.take_add_one, hq]; rfl
        have hqn : (q.length : Int) ≤ 9223372036854775807 := by omega
        have HBI := Lib.hid hbi
        obtain ⟨Ai, ci, rfl, _⟩ := hbi
        have HBLK := Lib.hid hblk
        have HCS := Lib.hid hcs
        have HTK := Lib.hid htk
        have HI1 := Lib.hid hI1
        have HST := Lib.hid hst
        have HKP := Lib.hid hkp
        have HFL := Lib.hid hfl
        have HVI := Lib.hid hvi
        clear hblk hcs htk hI1 hst hkp hfl hq hvi
        by_cases h60 : 60 < q.length
        · have hd60 : decide (60 < (q.length : Int)) = true := by rw [decide_eq_true_eq]; omega
          go_wp2_with fail
          refine (known3_spec wr).mono ?_
          rintro e w4 ⟨rfl, hb⟩
          have HB := Lib.hid (HST.out.below.trans (hb.mono HST.out.below.size))
          clear hb
          go_wp2_with fail
          go_ret
          exact ⟨rfl, HB.out⟩
        · have hd60 : decide (60 < (q.length : Int)) = false := by rw [decide_eq_false_iff_not]; omega
          have hq60 : q.length ≤ 60 := by omega
          have hxk := (HST.out.pull 1 _ rfl).heap
          have x0 := cells_of hxk 0
          have x1 := cells_of hxk 1
          have x2 := cells_of hxk 2
          have x3 := cells_of hxk 3
          simp at x0 x1 x2 x3
          clear hxk h60
          go_wp2_with fail
          refine wp_region_calm [0, 2, 3, 4] [1, 5] [6, 7] (by kernel_rfl) (by kernel_rfl) ?_
          simp only [pickL, List.getElem?_cons_zero, List.getElem?_cons_succ]
          repeat (refine wpPlain_step _ (Or.inl ⟨by rfl, by intro w; go_simp; try with_reducible rfl⟩) ?_; (try simp only [Act.put, List.setIfInBounds_toArray, List.set_cons_zero, List.set_cons_succ]))
          refine wpPlain_nil ?_
          repeat still_step
          refine wpStill_nil ?_
          go_wp2_with fail
          have hlen : (ls.take i).length = i := by rw [List.length_take]; omega
          have hfl := HFL.out
          have hc := append_spec kkK (.slice Ai q.length ci) q HST.out.drew HKP.out (bytes_src HST.out.drew ((bytesIP _ _).mono HI1.out HBI.out)) (by omega)
          rw [sk_app (ls.take i) q (by omega) (by omega), ← HTK.out] at hc
          simp only [K4.val, kkK] at hc
          refine hc.mono ?_
          rintro e w5 ⟨I5, hs5, rfl, h5⟩
          have hkp1 : Keeps (skS (ls.take (i + 1))) (50000 - 2 * (i + 1)) := by
            have h1 := appendS_keeps (k := kkK) (p := q) (HKP.out.fewer (show 50000 - 2 * (i + 1) + 2 ≤ 50000 - 2 * i by omega))
            rwa [sk_app (ls.take i) q (by omega) (by omega), ← HTK.out] at h1
          have hfl1 : (ls.take (i + 1)).flatten.length ≤ 60 * (i + 1) := by
            rw [HTK.out, List.flatten_append, List.length_append]
            simp
            simp at hfl
            omega
          have hci5 : w5.cell? ⟨b, off + i, none⟩ = some (.slice Ai q.length ci) := by
            rw [cells_of (h5.imm_heap (hs5 _ _ (HI1.out _ _ HBLK.out)))]
            exact HCS.out i _ HVI.out
          have hws := want_snoc (ls.take i) q keep torn
          rw [hlen, ← HTK.out] at hws
          have hbq5 : SliceSrc w5 1 (.slice Ai q.length ci) q.length (q.map byteV) := bytes_src h5 ((bytesIP _ _).mono (HI1.out.trans hs5) HBI.out)
          have H5 := Lib.hid h5
          have HS5 := Lib.hid (HI1.out.trans hs5)
          have HKP1 := Lib.hid hkp1
          have HFL1 := Lib.hid hfl1
          have HBQ5 := Lib.hid hbq5
          have HWS := Lib.hid hws
          have HLEN := Lib.hid hlen
          clear hc h5 hs5 hkp1 hfl1 hbq5 hws hlen hfl x0 x1 x2 x3 hci
          have hwl : (wantS (ls.take i) keep torn).length ≤ 1200 := by
            have h1 := want_length (ls.take i) keep torn
            have h2 := HFL.out
            omega
          by_cases hk1 : (i : Int) < keep
          · have hne : ((i : Int) == max keep 0) = false := by
              rw [beq_eq_false_iff_ne]; omega
            obtain ⟨v6, w6, hr6, h6⟩ := St.bytes_append 31 (H5.out.pull 2 _ rfl) HBQ5.out (by omega)
            have e6 : wantS (ls.take (i + 1)) keep torn = wantS (ls.take i) keep torn ++ q := by
              rw [HWS.out, if_pos hk1, if_neg (by omega), List.append_nil]
            obtain ⟨A6, c6, rfl⟩ := is_slice h6.row_owns
            have h7 : St W I5 w6 (storeHP p (skS (ls.take (i + 1))) :: HP.pt w1.heap.size (.cells #[.int .i64 1, .int .i64 0, .int .i64 3, .int .i64 0] 27) :: HP.row 5 1 (.slice A6 ((wantS (ls.take i) keep torn).length + q.length) c6) (wantS (ls.take (i + 1)) keep torn).length ((wantS (ls.take (i + 1)) keep torn).map byteV) :: []) := by
              rw [e6, List.length_append, List.map_append]
              exact h6.perm (by ((try simp only [List.eraseIdx_cons_succ, List.eraseIdx_cons_zero, List.cons_append, List.nil_append]); repeat (first | with_reducible exact List.Perm.refl _ | (apply perm_step; (· repeat (first | with_reducible exact find_here | with_reducible apply find_there))))))
            have HR6 := Lib.hid hr6
            have H7 := Lib.hid h7
            have HE6 := Lib.hid e6
            clear hr6 h6 e6 h7
            go_wp2_with fail
            refine NoPanic.normal ?_
            go_wp2_with (at_builtin; refine Lib.wpList_append_run _ rfl (.tmp 60) (.tmp 64) 31 31 rfl _ _ rfl rfl _ _ HR6.out ?_)
            go_roundw
            case rel => exact ⟨i + 1, I5, _, _, by first | (rw [HE6.out, List.length_append]; done) | rw [HE6.out], by go_num, by go_num, by omega, HFL1.out, HKP1.out, HS5.out, H7.out⟩
            case measure => simp [intOf]; omega
          · by_cases h3 : (i : Int) = max keep 0 ∧ 0 < torn ∧ 1 < q.length
            · obtain ⟨he, ht, hq1⟩ := h3
              have hbe : ((i : Int) == max keep 0) = true := by rw [beq_iff_eq]; exact he
              have ht1 : decide (0 < torn) = true := by simpa using ht
              have hq1' : decide (1 < (q.length : Int)) = true := by rw [decide_eq_true_eq]; omega
              obtain ⟨tn, htn⟩ : ∃ tn : Nat, min torn ((q.length : Int) - 1) = tn := ⟨(min torn ((q.length : Int) - 1)).toNat, by omega⟩
              have htq : tn ≤ q.length := by omega
              have hsub : IntKind.i64.wrap ((q.length : Int) - 1) = (q.length : Int) - 1 := IntWalk.i64_in _ (by omega)
              have hcq : q.length ≤ ci := by
                obtain ⟨A9, c9, e9, _, h9, _⟩ := HBI.out
                simp only [Value.slice.injEq] at e9
                omega
              have hk1' : decide ((i : Int) < keep) = false := by simpa using hk1
              have e6 : wantS (ls.take (i + 1)) keep torn = wantS (ls.take i) keep torn ++ q.take tn := by
                rw [HWS.out, if_neg hk1, if_pos ⟨he, ht, hq1⟩, List.append_nil, htn]
                rfl
              have htl : (q.take tn).length = tn := by rw [List.length_take]; omega
              have hps : SliceSrc w5.drew 1 (.slice Ai tn ci) tn ((q.take tn).map byteV) := by
                have h1 := bytes_src (H5.out.drew) (bytes_take ((bytesIP _ _).mono HS5.out HBI.out) htq)
                rwa [htl] at h1
              obtain ⟨v6, w6, hr6, h6⟩ := St.bytes_append 31 (H5.out.drew.pull 2 _ rfl) hps (by omega)
              obtain ⟨A6, c6, rfl⟩ := is_slice h6.row_owns
              have h7 : St W I5 w6 (storeHP p (skS (ls.take (i + 1))) :: HP.pt w1.heap.size (.cells #[.int .i64 1, .int .i64 0, .int .i64 3, .int .i64 0] 27) :: HP.row 5 1 (.slice A6 ((wantS (ls.take i) keep torn).length + tn) c6) (wantS (ls.take (i + 1)) keep torn).length ((wantS (ls.take (i + 1)) keep torn).map byteV) :: []) := by
                rw [e6, List.length_append, List.map_append, htl]
                exact h6.perm (by ((try simp only [List.eraseIdx_cons_succ, List.eraseIdx_cons_zero, List.cons_append, List.nil_append]); repeat (first | with_reducible exact List.Perm.refl _ | (apply perm_step; (· repeat (first | with_reducible exact find_here | with_reducible apply find_there))))))
              have HR6 := Lib.hid hr6
              have H7 := Lib.hid h7
              have HE6 := Lib.hid (show (wantS (ls.take (i + 1)) keep torn).length = (wantS (ls.take i) keep torn).length + tn by rw [e6, List.length_append, htl])
              clear e6 hps he ht hq1 hk1 hr6 h6 h7 htl
              go_wp2_with fail
              refine NoPanic.normal ?_
              go_wp2_with fail
              refine wp_region_calm [0, 1, 2, 3, 5, 6, 7, 8] [4, 9, 10, 11, 12] [13, 14, 15] (by kernel_rfl) (by kernel_rfl) ?_
              simp only [pickL, List.getElem?_cons_zero, List.getElem?_cons_succ]
              repeat (refine wpPlain_step _ (Or.inl ⟨by rfl, by intro w; go_simp; try with_reducible rfl⟩) ?_; (try simp only [Act.put, List.setIfInBounds_toArray, List.set_cons_zero, List.set_cons_succ]))
              refine wpPlain_nil ?_
              repeat still_step
              refine wpStill_nil ?_
              go_wp2_with (at_builtin; refine Lib.wpList_append_run _ rfl (.tmp 82) (.tmp 95) 31 31 rfl _ _ rfl rfl _ _ HR6.out ?_)
              refine NoPanic.normal ?_
              go_wp2_with fail
              go_roundw
              case rel => exact ⟨i + 1, I5, _, _, by rw [HE6.out], by go_num, by go_num, by omega, HFL1.out, HKP1.out, HS5.out, H7.out⟩
              case measure => simp [intOf]; omega
            · have e6 : wantS (ls.take (i + 1)) keep torn = wantS (ls.take i) keep torn := by
                rw [HWS.out, if_neg hk1, if_neg h3, List.append_nil, List.append_nil]
              have h7 : St W I5 w5 (storeHP p (skS (ls.take (i + 1))) :: HP.pt w1.heap.size (.cells #[.int .i64 1, .int .i64 0, .int .i64 3, .int .i64 0] 27) :: HP.row 5 1 (.slice A10 (wantS (ls.take i) keep torn).length c10) (wantS (ls.take (i + 1)) keep torn).length ((wantS (ls.take (i + 1)) keep torn).map byteV) :: []) := by
                rw [e6]
                exact H5.out
              have H7 := Lib.hid h7
              have H3 := Lib.hid h3
              have hk1' : decide ((i : Int) < keep) = false := by simpa using hk1
              have HE6 := Lib.hid e6
              clear e6 h7 h3 hk1
              by_cases he : (i : Int) = max keep 0
              · have hbe : ((i : Int) == max keep 0) = true := by rw [beq_iff_eq]; exact he
                by_cases ht : 0 < torn
                · have ht1 : decide (0 < torn) = true := by simpa using ht
                  have hq1' : decide (1 < (q.length : Int)) = false := by
                    rw [decide_eq_false_iff_not]
                    intro hq1
                    exact H3.out ⟨he, ht, by omega⟩
                  clear he ht
                  go_wp2_with fail
                  refine NoPanic.normal ?_
                  go_wp2_with fail
                  go_roundw
                  case rel => exact ⟨i + 1, I5, _, _, by first | (rw [HE6.out, List.length_append]; done) | rw [HE6.out], by go_num, by go_num, by omega, HFL1.out, HKP1.out, HS5.out, H7.out⟩
                  case measure => simp [intOf]; omega
                · have ht1 : decide (0 < torn) = false := by simpa using ht
                  clear he ht
                  go_wp2_with fail
                  refine NoPanic.normal ?_
                  go_wp2_with fail
                  go_roundw
                  case rel => exact ⟨i + 1, I5, _, _, by first | (rw [HE6.out, List.length_append]; done) | rw [HE6.out], by go_num, by go_num, by omega, HFL1.out, HKP1.out, HS5.out, H7.out⟩
                  case measure => simp [intOf]; omega
              · have hbe : ((i : Int) == max keep 0) = false := by rw [beq_eq_false_iff_ne]; exact he
                clear he
                go_wp2_with fail
                refine NoPanic.normal ?_
                go_wp2_with fail
                go_roundw
                case rel => exact ⟨i + 1, I5, _, _, by first | (rw [HE6.out, List.length_append]; done) | rw [HE6.out], by go_num, by go_num, by omega, HFL1.out, HKP1.out, HS5.out, H7.out⟩
                case measure => simp [intOf]; omega
      · obtain rfl : i = ls.length := by omega
        have htk : ls.take ls.length = ls := List.take_of_length_le (Nat.le_refl _)
        rw [htk] at hst hfl hkp ⊢
        obtain ⟨I7, hI7, hb7, h9⟩ := (hst.alloc (.cells #[.int .i64 keep] 3)).freeze
        have hki : IntsI I7 (.slice (some ⟨wr.heap.size, 0, none⟩) 1 1) [keep] := ⟨_, 1, rfl, rfl, Nat.le_refl _, by unfold maxLen; omega, (fun e => by cases e), fun _ => ⟨_, _, _, _, _, rfl, hb7, fun j x hx => by
          rw [Nat.zero_add]
          cases j with
          | zero => simpa [intV] using hx
          | succ j => simp at hx⟩⟩
        have hfa := sk_fall ls keep torn (by omega) (by omega)
        have hkf : Keeps (fallS (skS ls) [keep] torn).1 (50000 - 2 * ls.length) := fallS_keeps _ _ hkp
        have HFA := Lib.hid hfa
        have HKF := Lib.hid hkf
        have hc := fall_spec _ [keep] torn h9 hki (by simp) (fun _ => hkp.inv.fewer (Nat.le_add_right _ _))
        have HC := Lib.hid hc
        clear hc hfa hkf hki h9 hb7 hI7 hst hfl hkp htk hI1
        go_wp2_with fail
        refine HC.out.mono ?_
        clear HC
        rw [HFA.out.1]
        rintro e w6 ⟨I8, hs8, rfl, h10⟩
        have H10 := Lib.hid h10
        clear hs8 h10
        go_wp2_with fail
        refine (power_spec H10.out).mono ?_
        rintro e w7 ⟨rfl, h11⟩
        have hxk := (h11.pull 1 _ rfl).heap
        have x0 := cells_of hxk 0
        have x1 := cells_of hxk 1
        have x2 := cells_of hxk 2
        have x3 := cells_of hxk 3
        simp at x0 x1 x2 x3
        have H11 := Lib.hid h11
        clear hxk h11
        go_wp2_with fail
        have hc := read_spec kkK 0 1048576 H11.out (powerS_keeps HKF.out).inv
        have hrd : readS { (fallS (skS ls) [keep] torn).1 with on := true } kkK 0 1048576 = (wantS ls keep torn, 0) := HFA.out.2
        rw [hrd] at hc
        simp only [K4.val, kkK] at hc
        refine hc.mono ?_
        rintro e w8 ⟨hb8, v, rfl, ho8⟩
        have h12 := H11.out.keep hb8
        have hst1 := src_string (SliceSrc.of_owns ho8 (bytes_one (wantS ls keep torn)))
        have hst2 := src_string (SliceSrc.of_owns (h12.pull 2 _ rfl).row_owns (bytes_one (wantS ls keep torn)))
        obtain ⟨A8, c8, rfl⟩ := is_slice ho8
        have H12 := Lib.hid h12
        obtain ⟨K0, hK0⟩ : ∃ K0, max keep 0 = K0 := ⟨_, rfl⟩
        obtain ⟨M, hM⟩ : ∃ M, min K0 (ls.length : Int) = M := ⟨_, rfl⟩
        have hM2 : (0 : Int) ≤ M ∧ M ≤ (ls.length : Int) := by omega
        have hM3 := hM2.1
        have hM4 := hM2.2
        clear hc hrd ho8 hb8 h12 x0 x1 x2 x3 hM2
        simp only [hK0, hM]
        go_wp2_with fail
        refine (known3_spec w8).mono ?_
        rintro e w9 ⟨rfl, hb9⟩
        have HB := Lib.hid (H12.out.below.trans (hb9.mono H12.out.below.size))
        clear hb9
        go_wp2_with fail
        go_ret
        exact ⟨rfl, HB.out⟩
end
end Go.Proofs.Ytnokhjhhadnckaa
