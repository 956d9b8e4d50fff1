/- hectographref17: Tidy. -/
import Derived.Test.YtbepmbcbcklmlaaGreatRef17b
set_option linter.unusedSimpArgs false
set_option linter.unusedVariables false
set_option linter.unusedSectionVars false
namespace Go.Proofs.YtbepmbcbcklmlaaGreat
open Go.RowKit
section
variable {W w : World} {I : Hp} {l : List HP}
set_option maxRecDepth 4000
set_option maxHeartbeats 8000000
theorem tidy17_spec {G off : Nat} {CS : Array Value} (cv : Value) (cs : List C17) (mv : Value) (ms : List Int) (h : St W I w (HP.pt G (.cells CS 47) :: l)) (c2 : CS[off + 2]? = some cv) (hcp : CopiesI I cv cs) (hm : IntsI I mv ms) (hl : cs.length ≤ 100000) (hml : ms.length ≤ 9223372036854775807) :
    Calls Tryz.prog 26 #[.pointer (some ⟨G, off, none⟩), mv] w fun e w' => ∃ (I' : Hp) (cs' : List C17) (cv' : Value), I.sub I' ∧ e = .returned (.tuple #[]) ∧ CopiesI I' cv' cs' ∧ cs'.map C17.r = tidyR ms (cs.map C17.r) 0 ∧ cs'.length ≤ cs.length ∧ St W I' w' (HP.pt G (.cells (CS.setIfInBounds (off + 2) cv') 47) :: l) := by
  have HCP := Lib.hid hcp
  have HM := Lib.hid hm
  have HC2 := Lib.hid c2
  have H := Lib.hid h
  obtain ⟨⟨Ac, cc, e, _⟩, _⟩ := hcp
  subst e
  obtain ⟨Am, cm, rfl, _⟩ := hm
  have hcl : (cs.length : Int) ≤ 100000 := by omega
  have hml2 : (ms.length : Int) ≤ 9223372036854775807 := by omega
  clear h c2
  go_enter Tryz.func26, Tryz.ntmps26
  go_wp2_with fail
  go_loopw [4, 5, 6] (fun a4 a5 a6 wr => ∃ (i : Nat) (below : Int) (out : List C17) (A : Option Addr) (c : Nat), a6 = .int .i64 i ∧ a5 = .int .i64 below ∧ a4 = .slice A out.length c ∧ i ≤ cs.length ∧ out.length ≤ i ∧ tidyR ms (cs.map C17.r) 0 = out.map C17.r ++ tidyR ms ((cs.drop i).map C17.r) below ∧ (∀ z ∈ out, z ∈ cs) ∧
    St W I wr (HP.row 76 3 (.slice A out.length c) out.length (out.flatMap C17.vals) :: HP.pt G (.cells CS 47) :: l)) (fun _ _ a6 _ => cs.length - (intOf a6).toNat)
  case atStart => exact ⟨0, 0, [], none, 0, rfl, rfl, rfl, Nat.zero_le _, Nat.le_refl _, rfl, (fun z hz => by cases hz), H.out.row_nil _ _⟩
  case round =>
    obtain ⟨i, below, out, A, c, rfl, rfl, rfl, hi, hoi, htd, hsub, hst⟩ := hrel
    have y2 : wr.cell? ⟨G, off + 2, none⟩ = some (.slice Ac cs.length cc) := (cells_of (hst.pull 1 _ rfl).heap (off + 2)).trans HC2.out
    by_cases hlt : i < cs.length
    · have d0 : decide ((i : Int) < (cs.length : Int)) = true := by rw [decide_eq_true_eq]; omega
      obtain ⟨z, hz⟩ : ∃ z, cs[i]? = some z := ⟨_, List.getElem?_eq_getElem hlt⟩
      have hdrop : (cs.drop i).map C17.r = z.r :: (cs.drop (i + 1)).map C17.r := by
        rw [List.drop_eq_getElem_cons hlt, List.map_cons]
        rw [List.getElem?_eq_getElem hlt] at hz
        injection hz with hz
        rw [hz]
      rw [hdrop, tidyR] at htd
      have hzm := List.mem_of_getElem? hz
      have HZ := Lib.hid hz
      have HZM := Lib.hid hzm
      have HZOK := Lib.hid (HCP.out.2 z hzm)
      obtain ⟨N, ⟨bo, bv⟩⟩ := z
      obtain ⟨Az, cz, e, _⟩ := HZOK.out
      simp only at e
      subst e
      have HTD := Lib.hid htd
      have HSUB := Lib.hid hsub
      have HST := Lib.hid hst
      clear htd hsub hst hz hzm hdrop
      go_wp2_with fail
      obtain ⟨w2, hw2⟩ : ∃ x, wr = x := ⟨_, rfl⟩
      rw [hw2]
      rw [hw2] at HST
      clear hw2 y2
      go_loopw [7, 8] (fun a7 a8 wr => ∃ k : Nat, a8 = .int .i64 k ∧ a7 = .bool ((ms.take k).any (fun m => decide (below < m) && decide (m ≤ N))) ∧ k ≤ ms.length ∧ St W I wr (HP.row 76 3 (.slice A out.length c) out.length (out.flatMap C17.vals) :: HP.pt G (.cells CS 47) :: l)) (fun _ a8 _ => ms.length - (intOf a8).toNat)
      case atStart => exact ⟨0, rfl, rfl, Nat.zero_le _, HST.out⟩
      case round =>
        obtain ⟨k, rfl, rfl, hk, h3⟩ := hrel
        obtain ⟨need, hany⟩ : ∃ b, (ms.take k).any (fun m => decide (below < m) && decide (m ≤ N)) = b := ⟨_, rfl⟩
        rw [hany]
        have y2 : wr.cell? ⟨G, off + 2, none⟩ = some (.slice Ac cs.length cc) := (cells_of (h3.pull 1 _ rfl).heap (off + 2)).trans HC2.out
        obtain ⟨bb, ob, e1, hce⟩ := rowk_cell (mk := C17.vals) HCP.out.1 (Hp.sub.refl _) h3 (fun _ => rfl) HZ.out
        simp only [Value.slice.injEq, and_true] at e1
        subst e1
        have z0 := hce 0 (by omega)
        simp only [C17.vals, List.getElem?_cons_succ, List.getElem?_cons_zero, Nat.add_zero] at z0
        have H3 := Lib.hid h3
        by_cases hkl : k < ms.length
        · have d1 : decide ((k : Int) < (ms.length : Int)) = true := by rw [decide_eq_true_eq]; omega
          obtain ⟨x, hx⟩ : ∃ x, ms[k]? = some x := ⟨_, List.getElem?_eq_getElem hkl⟩
          obtain ⟨bm, om, e1, hcm⟩ := intsI_cell h3 HM.out hx
          simp only [Value.slice.injEq, and_true] at e1
          subst e1
          clear h3 hce
          cases need with
          | true =>
            have HAN := Lib.hid (show (ms.take (k + 1)).any (fun m => decide (below < m) && decide (m ≤ N)) = true by rw [List.take_add_one, hx, List.any_append, hany]; simp <;> omega)
            clear hany hx
            go_wp2_with fail
            go_quiet (fail)
            have H4 := Lib.hid (H3.out.drewN nq)
            go_wp2_with fail
            go_roundw
            case rel => exact ⟨k + 1, by go_num, by rw [HAN.out], by omega, H4.out⟩
            case measure => simp [intOf]; omega
          | false =>
            by_cases hbx : below < x
            · have d2 : decide (below < x) = true := decide_eq_true hbx
              by_cases hxn : x ≤ N
              · have d3 : decide (x ≤ N) = true := decide_eq_true hxn
                have HAN := Lib.hid (show (ms.take (k + 1)).any (fun m => decide (below < m) && decide (m ≤ N)) = true by rw [List.take_add_one, hx, List.any_append, hany]; simp <;> omega)
                clear hany hx
                go_wp2_with fail
                go_quiet (fail)
                have H4 := Lib.hid (H3.out.drewN nq)
                go_wp2_with fail
                go_roundw
                case rel => exact ⟨k + 1, by go_num, by rw [HAN.out], by omega, H4.out⟩
                case measure => simp [intOf]; omega
              · have d3 : decide (x ≤ N) = false := decide_eq_false hxn
                have HAN := Lib.hid (show (ms.take (k + 1)).any (fun m => decide (below < m) && decide (m ≤ N)) = false by rw [List.take_add_one, hx, List.any_append, hany]; simp <;> omega)
                clear hany hx
                go_wp2_with fail
                go_quiet (fail)
                have H4 := Lib.hid (H3.out.drewN nq)
                go_wp2_with fail
                go_roundw
                case rel => exact ⟨k + 1, by go_num, by rw [HAN.out], by omega, H4.out⟩
                case measure => simp [intOf]; omega
            · have d2 : decide (below < x) = false := decide_eq_false hbx
              have HAN := Lib.hid (show (ms.take (k + 1)).any (fun m => decide (below < m) && decide (m ≤ N)) = false by rw [List.take_add_one, hx, List.any_append, hany]; simp <;> omega)
              clear hany hx
              go_wp2_with fail
              go_quiet (fail)
              have H4 := Lib.hid (H3.out.drewN nq)
              go_wp2_with fail
              go_roundw
              case rel => exact ⟨k + 1, by go_num, by rw [HAN.out], by omega, H4.out⟩
              case measure => simp [intOf]; omega
        · obtain rfl : k = ms.length := by omega
          have d1 : decide (((ms.length : Nat) : Int) < (ms.length : Int)) = false := by rw [decide_eq_false_iff_not]; omega
          rw [List.take_length] at hany
          have HANY := Lib.hid (show seenB ms below N = need from hany)
          have z1 := hce 1 (by omega)
          have z2 := hce 2 (by omega)
          simp only [C17.vals, List.getElem?_cons_succ, List.getElem?_cons_zero, Nat.add_zero] at z1 z2
          clear hany h3 hce
          cases need with
          | false =>
            have HT2 := Lib.hid (HTD.out.trans (by rw [show (C17.r ⟨N, ⟨bo, .slice Az (bo.getD []).length cz⟩⟩).1 = N from rfl, HANY.out, if_neg (by simp)]))
            go_wp2_with fail
            go_roundw
            case rel => exact ⟨i + 1, N, out, A, c, by go_num, rfl, rfl, by omega, by omega, HT2.out, HSUB.out, H3.out⟩
            case measure => simp [intOf]; omega
          | true =>
            have HT2 := Lib.hid (HTD.out.trans (by rw [show (C17.r ⟨N, ⟨bo, .slice Az (bo.getD []).length cz⟩⟩).1 = N from rfl, HANY.out, if_pos rfl]))
            have h4 := (H3.out.alloc (.cells #[.int .i64 N, .bool bo.isSome, .slice Az (bo.getD []).length cz] 76)).pull 1 _ rfl
            obtain ⟨Av, cv2, w5, hr5, h5⟩ := copies_append h4 (pt_src (k := 3) (h4.pull 1 _ rfl) rfl (c17s_one (I := I) (cs := [⟨N, ⟨bo, .slice Az (bo.getD []).length cz⟩⟩]) (fun c hc => by rw [List.mem_singleton.1 hc]; exact HZOK.out))) (by omega)
            have e5 : out.flatMap C17.vals ++ [Value.int .i64 N, .bool bo.isSome, .slice Az (bo.getD []).length cz] = (out ++ [(⟨N, ⟨bo, .slice Az (bo.getD []).length cz⟩⟩ : C17)]).flatMap C17.vals := by rw [List.flatMap_append]; rfl
            have H5 := Lib.hid (show St W I w5 (HP.row 76 3 (.slice Av (out ++ [(⟨N, ⟨bo, .slice Az (bo.getD []).length cz⟩⟩ : C17)]).length cv2) (out ++ [(⟨N, ⟨bo, .slice Az (bo.getD []).length cz⟩⟩ : C17)]).length ((out ++ [(⟨N, ⟨bo, .slice Az (bo.getD []).length cz⟩⟩ : C17)]).flatMap C17.vals) :: HP.pt G (.cells CS 47) :: l) by
              rw [← e5, List.length_append]
              exact ((h5.pull 1 _ rfl).drop))
            have HR5 := Lib.hid hr5
            clear h4 h5 hr5 e5
            go_wp2_with (at_builtin; refine Lib.wpList_append_run _ rfl (.tmp 57) (.tmp 65) 45 45 rfl _ _ rfl rfl _ _ HR5.out ?_)
            go_roundw
            case rel => exact ⟨i + 1, N, out ++ [(⟨N, ⟨bo, .slice Az (bo.getD []).length cz⟩⟩ : C17)], Av, cv2, by go_num, rfl, by rw [List.length_append]; rfl, by omega, by rw [List.length_append]; simp; omega, HT2.out.trans (by rw [List.map_append, List.append_assoc]; rfl), (fun q hq => by
              rcases List.mem_append.1 hq with q1 | q1
              · exact HSUB.out q q1
              · rw [List.mem_singleton.1 q1]; exact HZM.out), H5.out⟩
            case measure => simp [intOf]; omega
    · obtain rfl : i = cs.length := by omega
      have d0 : decide (((cs.length : Nat) : Int) < (cs.length : Int)) = false := by rw [decide_eq_false_iff_not]; omega
      rw [List.drop_length, List.map_nil, tidyR, List.append_nil] at htd
      have fr := frozen_of_row (hst.pull 1 _ rfl).heap (off + 2)
      have lt := (hst.pull 1 _ rfl).lt
      have h4 := ((hst.pull 1 _ rfl).setCell (off + 2) (.slice A out.length c)).pull 1 _ rfl
      obtain ⟨I5, hs5, e5, h5⟩ := h4.freeze_row
      have H5 := Lib.hid h5
      have E5 := Lib.hid (show CopiesI I5 (.slice A out.length c) out from ⟨e5, fun z hz => (HCP.out.2 z (hsub z hz)).mono hs5⟩)
      have HS5 := Lib.hid hs5
      have HTD := Lib.hid htd
      clear h4 h5 e5 hs5 hst htd hsub
      go_wp2_with fail
      first | refine bodyPost_ret (results_none rfl _ _ _) rfl ?_ | refine ⟨rfl, _, results_none rfl _ _ _, ?_⟩ | fail
      exact ⟨I5, out, .slice A out.length c, HS5.out, rfl, E5.out, HTD.out.symm, hoi, H5.out⟩
end
end Go.Proofs.YtbepmbcbcklmlaaGreat
