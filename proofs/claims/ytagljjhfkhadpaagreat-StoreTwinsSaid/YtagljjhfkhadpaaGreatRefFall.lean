/- hectographref3: Fall. -/
import Derived.Test.YtagljjhfkhadpaaGreatRefFalls
set_option linter.unusedSimpArgs false
set_option linter.unusedVariables false
set_option linter.unusedSectionVars false
namespace Go.Proofs.YtagljjhfkhadpaaGreat
open Go.RowKit
section
variable {W w : World} {I : Hp} {l : List HP} {q : Nat} {R : RS}
set_option maxRecDepth 4000
set_option maxHeartbeats 8000000
theorem fall3_spec (kv : Value) (keep : List Int) (torn : Int) {c : Nat} (h : St W I w (refHP q R :: l)) (hi : RInv R c) (hkv : IntsI I kv keep) (hkl : keep.length ≤ 1000000) (htn : torn ≤ 9223372036854775807) :
    Calls Tryz.prog 16 #[.pointer (some ⟨q, 0, none⟩), kv, .int .i64 torn] w fun e w' => ∃ I', I.sub I' ∧ e = .returned (.int .i64 (rfall R keep torn).2) ∧ St W I' w' (refHP q (rfall R keep torn).1 :: l) := by
  obtain ⟨A, cA, vk, y0, y1, y2, y3, _, _, _, _, _, _, hlt⟩ := h.ref_cells
  have H := Lib.hid h
  have HI := Lib.hid hi
  have HKV := Lib.hid hkv
  obtain ⟨Ak, ck, rfl, _⟩ := hkv
  have hlen := hi.len
  have hmost := hi.most
  clear h hi y0 y1 y2
  cases hof : R.off with
  | true =>
    have HR := Lib.hid (show rfall R keep torn = (R, 0) by simp [rfall, hof])
    rw [hof] at y3
    go_enter Tryz.func16, Tryz.ntmps16
    go_wp2_with fail
    go_ret
    rw [HR.out]
    exact ⟨I, Hp.sub.refl _, rfl, H.out⟩
  | false =>
    have HR := Lib.hid (show rfall R keep torn = ({ R with l := (R.l.foldl (fallStep keep torn) ⟨[], 0, 0⟩).out, off := true, fused := false }, (R.l.foldl (fallStep keep torn) ⟨[], 0, 0⟩).lost) by simp [rfall, hof])
    rw [hof] at y3
    go_enter Tryz.func16, Tryz.ntmps16
    go_wp2_with fail
    clear y3
    go_loopw [7, 8, 9, 10] (fun a7 a8 a9 a10 wr => ∃ (i : Nat) (s : RF) (I3 : Hp) (zo : List TZ) (A : Option Addr) (c : Nat), a10 = .int .i64 i ∧ a9 = .slice A zo.length c ∧ a8 = .int .i64 s.at_ ∧ a7 = .int .i64 s.lost ∧ i ≤ R.l.length ∧ (R.l.take i).foldl (fallStep keep torn) ⟨[], 0, 0⟩ = s ∧ zo.map TZ.t = s.out ∧ (∀ z ∈ zo, z.ok I3) ∧ I.sub I3 ∧ St W I3 wr (rowHP (.slice A zo.length c) zo :: refHP q R :: l)) (fun _ _ _ a10 _ => R.l.length - (intOf a10).toNat)
    case atStart => exact ⟨0, ⟨[], 0, 0⟩, I, [], none, 0, rfl, rfl, rfl, rfl, Nat.zero_le _, rfl, rfl, (fun z hz => by cases hz), Hp.sub.refl _, H.out.row_nil _ _⟩
    case round =>
      obtain ⟨i, s, I3, zo, A3, c3, rfl, rfl, rfl, rfl, hil, hfs, hzm, hzo, hs3, hst⟩ := hrel
      obtain ⟨sb1, sb2, sb3, sb4⟩ := fall_bounds HI.out keep torn i hil
      rw [hfs] at sb1 sb2 sb3 sb4
      have hzl : zo.length ≤ i := by rw [← hzm, List.length_map] at sb1; exact sb1
      by_cases hlt : i < R.l.length
      · have d0 : decide ((i : Int) < (R.l.length : Int)) = true := by rw [decide_eq_true_eq]; omega
        obtain ⟨t, hti⟩ : ∃ t, R.l[i]? = some t := ⟨_, List.getElem?_eq_getElem hlt⟩
        obtain ⟨g, cc, A1, c1, A2, c2, A5, c5, hbd, hdd, y2, hcc, _, x0, x1, x2, x3, x4, x5, x6, x7, _⟩ := (hst.pull 1 _ rfl).ref_now HI.out hti
        have hft := HI.out.fits _ (List.mem_of_getElem? hti)
        have hst1 : (R.l.take (i + 1)).foldl (fallStep keep torn) ⟨[], 0, 0⟩ = fallStep keep torn s t := by
          obtain ⟨hil', he⟩ := List.getElem?_eq_some_iff.1 hti
          rw [List.take_succ_eq_append_getElem hil', List.foldl_append, hfs, he]; rfl
        obtain ⟨g1, hg1⟩ : ∃ g, g = wr.heap.size := ⟨_, rfl⟩
        have h4 := hst.alloc_at (.cells #[.int .i64 t.key.kind, .int .i64 t.key.img, .int .i64 t.key.num, .int .i64 t.key.snap, .bool t.dry.there, .slice A1 t.dry.data.length c1, .slice A2 t.dry.attrs.length c2, .slice A5 t.wet.length c5] 95) hg1
        obtain ⟨w4, hw4⟩ : ∃ x, wr.alloc (.cells #[.int .i64 t.key.kind, .int .i64 t.key.img, .int .i64 t.key.num, .int .i64 t.key.snap, .bool t.dry.there, .slice A1 t.dry.data.length c1, .slice A2 t.dry.attrs.length c2, .slice A5 t.wet.length c5] 95) = x := ⟨_, rfl⟩
        rw [hw4] at h4
        have H4 := Lib.hid h4
        have HW4 := Lib.hid hw4
        have HG1 := Lib.hid hg1
        have HBD := Lib.hid hbd
        have HDD := Lib.hid hdd
        have HFT := Lib.hid hft
        have HST1 := Lib.hid hst1
        have HZM := Lib.hid hzm
        have HZO := Lib.hid hzo
        have HS3 := Lib.hid hs3
        have hwl : t.wet.length ≤ 100000 := by have := hft.size; omega
        clear hst h4 hbd hdd hft hst1 hzm hzo hs3 hfs hti hw4 hg1
        go_upto_region 9 with fail
        rw [HW4.out, ← HG1.out]
        obtain ⟨b0, b1, b2, b3, b4, b5, b6, b7⟩ := H4.out.cells8
        clear x0 x1 x2 x3 x4 x5 x6 x7 y2 HW4 HG1
        by_cases hw0 : t.wet = []
        · have hwl0 : t.wet.length = 0 := by rw [hw0]; rfl
          have HN : Hid (fallStep keep torn s t = ⟨if t.dry.there then s.out ++ [t] else s.out, s.at_, s.lost⟩) := Lib.hid (by
            unfold fallStep
            rw [if_pos hw0]
            cases t.dry.there <;> simp)
          rw [hwl0] at b7
          clear hw0
          go_upto_region 24 with fail
          refine fall3_put (t := t) (A5 := A5) (c5 := c5) (by first | assumption | exact fun _ _ h => h | fail) (by kernel_rfl) H4.out ⟨HBD.out, HDD.out⟩ (by omega) ?_
          intro y121 y122 y123 y124 y125 y126 y127 w9 zn A8 c8 hzn h9
          have H9 := Lib.hid h9
          have HZN := Lib.hid hzn
          clear h9 hzn
          go_wp2_with fail
          go_roundw
          case rel => exact ⟨i + 1, ⟨if t.dry.there then s.out ++ [t] else s.out, s.at_, s.lost⟩, I3, zn, A8, c8, by go_num, rfl, rfl, rfl, by omega, by rw [HST1.out, HN.out], by rw [HZN.out]; cases t.dry.there <;> simp [HZM.out], (fun z hz => by
            rw [HZN.out] at hz
            cases hth : t.dry.there with
            | false => rw [hth] at hz; exact HZO.out z (by simpa using hz)
            | true =>
              rw [hth, if_pos rfl] at hz
              rcases List.mem_append.1 hz with hz | hz
              · exact HZO.out z hz
              · rw [List.mem_singleton.1 hz]; exact ⟨HBD.out, HDD.out⟩), HS3.out, H9.out⟩
          case measure => simp [intOf]; omega
        · obtain ⟨kk, hkk⟩ : ∃ kk, rkeepN keep s.at_ t.wet.length = kk := ⟨_, rfl⟩
          have hkl2 : kk ≤ t.wet.length := by rw [← hkk]; exact keepN_le _ _ _
          have hwp : 0 < t.wet.length := List.length_pos_iff.2 hw0
          have hwd : decide (0 < t.wet.length) = true := by simp [hwp]
          obtain ⟨bb, hbb⟩ : ∃ b, rleaves t kk torn = b := ⟨_, rfl⟩
          have HN : Hid (fallStep keep torn s t = ⟨if bb.there then s.out ++ [⟨t.key, bb, []⟩] else s.out, s.at_ + 1, s.lost + (t.wet.length : Int) - (kk : Int)⟩) := Lib.hid (by
            unfold fallStep
            rw [if_neg hw0]
            simp only [hkk, hbb])
          have HKK := Lib.hid hkk
          have HBB := Lib.hid hbb
          clear hw0 hbb
          by_cases hat : s.at_ < keep.length
          · obtain ⟨x, hx⟩ : ∃ x, keep[s.at_]? = some x := ⟨_, List.getElem?_eq_getElem hat⟩
            have hheld : heldI x 0 t.wet.length = (kk : Int) := by
              rw [← hkk]
              unfold rkeepN heldI
              rw [hx]
              simp only
              split
              · simp
              · split
                · simp
                · omega
            obtain ⟨bk, ok, e1, hcell⟩ := intsI_cell H4.out ((intsIP _ _).mono HS3.out HKV.out) hx
            simp only [Value.slice.injEq, and_true] at e1
            subst e1
            have hdat : decide (s.at_ < keep.length) = true := by simp [hat]
            have hh := held_spec x 0 t.wet.length w4.drew
            rw [hheld] at hh
            have HH := Lib.hid hh
            clear hkk hx hheld hh
            go_upto_region 12 with fail
            refine wp_region_calm [0, 1, 2, 4] [3, 5, 6] [7, 8] (by kernel_rfl) (by kernel_rfl) ?_
            simp only [pickL, List.getElem?_cons_zero, List.getElem?_cons_succ]
            repeat (refine wpPlain_step _ (Or.inl ⟨by rfl, by intro w; go_simp; try with_reducible rfl⟩) ?_; (try simp only [Act.put, List.setIfInBounds_toArray, List.set_cons_zero, List.set_cons_succ]))
            refine wpPlain_nil ?_
            repeat still_step
            refine wpStill_nil ?_
            go_wp2_with fail
            refine HH.out.mono ?_
            rintro e w5 ⟨rfl, rfl⟩
            go_wp2_with fail
            refine NoPanic.normal ?_
            have H5 := Lib.hid H4.out.drew
            clear b0 b1 b2 b3 b4 b5 b6 b7 hcell H4 HH
            go_upto_region 13 with fail
            refine fall3_rest (t := t) (k := kk) (n := c) (by first | assumption | exact fun _ _ h => h | fail) (by kernel_rfl) H5.out HDD.out HBD.out HFT.out hmost (by omega) hwl ⟨sb3, by omega⟩ htn (by omega) ?_
            intro y13 y14 y15 y52 y53 y54 y55 y56 y57 y58 y59 y60 y61 y62 y63 y64 y65 y66 y67 y68 y69 y70 y71 y72 y73 y74 y75 y76 y77 y78 y79 y80 y81 y82 y83 y84 y85 y86 y87 y88 y89 y90 y91 y92 y93 y94 y95 y96 y97 y98 y99 y100 y101 y102 y103 y104 y105 y106 y107 y108 y109 y110 y111 y112 y113 y114 y115 y116 y117 y118 y119 y120 I8 w8 b8 A6 A7 c6 c7 hs8 hb8 hbi8 h8
            have HB8 := Lib.hid hb8
            have HBI8 := Lib.hid hbi8
            have H8 := Lib.hid h8
            have HS8 := Lib.hid hs8
            clear hs8 hb8 hbi8 h8 H5
            go_upto_region 24 with fail
            refine fall3_put (t := ⟨t.key, b8, []⟩) (A5 := none) (c5 := 0) (by first | assumption | exact fun _ _ h => h | fail) (by kernel_rfl) H8.out ⟨HBI8.out, deeds3_nil _⟩ (by omega) ?_
            intro y121 y122 y123 y124 y125 y126 y127 w9 zn A8 c8 hzn h9
            have H9 := Lib.hid h9
            have HZN := Lib.hid hzn
            clear h9 hzn
            go_wp2_with fail
            go_roundw
            case rel => exact ⟨i + 1, ⟨if bb.there then s.out ++ [⟨t.key, bb, []⟩] else s.out, s.at_ + 1, s.lost + (t.wet.length : Int) - ((kk : Nat) : Int)⟩, I8, zn, A8, c8, by go_num, rfl, by go_num, by first | rfl | go_num | (simp; done) | fail, by omega, by rw [HST1.out, HN.out], by
              rw [HZN.out]
              have e8 : b8 = bb := HB8.out.trans HBB.out
              subst e8
              cases b8.there <;> simp [HZM.out], (fun z hz => by
              rw [HZN.out] at hz
              cases hth : b8.there with
              | false => exact TZ.ok_mono HS8.out (HZO.out z (by simpa [hth] using hz))
              | true =>
                simp only [hth, if_true] at hz
                rcases List.mem_append.1 hz with hz | hz
                · exact TZ.ok_mono HS8.out (HZO.out z hz)
                · rw [List.mem_singleton.1 hz]; exact ⟨HBI8.out, deeds3_nil _⟩), HS3.out.trans HS8.out, H9.out⟩
            case measure => simp [intOf]; omega
          · have hk0 : kk = 0 := by
              rw [← hkk]
              unfold rkeepN
              rw [List.getElem?_eq_none (by omega)]
            have hdat : decide (s.at_ < keep.length) = false := by simp; omega
            have H5 := H4
            clear hkk
            subst hk0
            go_upto_region 13 with fail
            clear b0 b1 b2 b3 b4 b5 b6 b7 H4
            refine fall3_rest (t := t) (k := 0) (n := c) (by first | assumption | exact fun _ _ h => h | fail) (by kernel_rfl) H5.out HDD.out HBD.out HFT.out hmost (by omega) hwl ⟨sb3, by omega⟩ htn (by omega) ?_
            intro y13 y14 y15 y52 y53 y54 y55 y56 y57 y58 y59 y60 y61 y62 y63 y64 y65 y66 y67 y68 y69 y70 y71 y72 y73 y74 y75 y76 y77 y78 y79 y80 y81 y82 y83 y84 y85 y86 y87 y88 y89 y90 y91 y92 y93 y94 y95 y96 y97 y98 y99 y100 y101 y102 y103 y104 y105 y106 y107 y108 y109 y110 y111 y112 y113 y114 y115 y116 y117 y118 y119 y120 I8 w8 b8 A6 A7 c6 c7 hs8 hb8 hbi8 h8
            have HB8 := Lib.hid hb8
            have HBI8 := Lib.hid hbi8
            have H8 := Lib.hid h8
            have HS8 := Lib.hid hs8
            clear hs8 hb8 hbi8 h8 H5
            go_upto_region 24 with fail
            refine fall3_put (t := ⟨t.key, b8, []⟩) (A5 := none) (c5 := 0) (by first | assumption | exact fun _ _ h => h | fail) (by kernel_rfl) H8.out ⟨HBI8.out, deeds3_nil _⟩ (by omega) ?_
            intro y121 y122 y123 y124 y125 y126 y127 w9 zn A8 c8 hzn h9
            have H9 := Lib.hid h9
            have HZN := Lib.hid hzn
            clear h9 hzn
            go_wp2_with fail
            go_roundw
            case rel => exact ⟨i + 1, ⟨if bb.there then s.out ++ [⟨t.key, bb, []⟩] else s.out, s.at_ + 1, s.lost + (t.wet.length : Int) - ((0 : Nat) : Int)⟩, I8, zn, A8, c8, by go_num, rfl, by go_num, by first | rfl | go_num | (simp; done) | fail, by omega, by rw [HST1.out, HN.out], by
              rw [HZN.out]
              have e8 : b8 = bb := HB8.out.trans HBB.out
              subst e8
              cases b8.there <;> simp [HZM.out], (fun z hz => by
              rw [HZN.out] at hz
              cases hth : b8.there with
              | false => exact TZ.ok_mono HS8.out (HZO.out z (by simpa [hth] using hz))
              | true =>
                simp only [hth, if_true] at hz
                rcases List.mem_append.1 hz with hz | hz
                · exact TZ.ok_mono HS8.out (HZO.out z hz)
                · rw [List.mem_singleton.1 hz]; exact ⟨HBI8.out, deeds3_nil _⟩), HS3.out.trans HS8.out, H9.out⟩
            case measure => simp [intOf]; omega
      · obtain rfl : i = R.l.length := by omega
        rw [List.take_length] at hfs
        obtain ⟨zs, vl, vk2, hzs, hz, hkk, hop⟩ := (hst.pull 1 _ rfl).ref_open
        have hzsl : zs.length = R.l.length := by rw [← hzs, List.length_map]
        obtain ⟨Ao, co, e1, _⟩ := (hop.pull 1 _ rfl).row_slice (mk := TZ.cells)
        subst e1
        have y := cells_of hop.heap
        have y2 := y 2
        have y3 := y 3
        have y4 := y 4
        simp [RS.cells] at y2 y3 y4
        rw [hzsl] at y2
        have f := frozen_of_row hop.heap
        have h6 := ((hop.setCell 2 (.slice A3 zo.length c3)).setCell 3 (.bool true)).setCell 4 (.bool false)
        have h7 : St W I3 (((wr.setCell ⟨q, 2, none⟩ (.slice A3 zo.length c3)).setCell ⟨q, 3, none⟩ (.bool true)).setCell ⟨q, 4, none⟩ (.bool false)) (refHP q { R with l := s.out, off := true, fused := false } :: l) := by
          have h8 := ((h6.pull 1 _ rfl).drop.pull 1 _ rfl)
          exact St.ref_shut (zs := zo) (vl := .slice A3 zo.length c3) (vk := vk2) (h8.perm (List.Perm.swap _ _ _)) hzm hzo hkk
        have H7 := Lib.hid h7
        have HS3 := Lib.hid hs3
        have HFS := Lib.hid hfs
        clear hst hop h6 h7 hz hzs hkk hzm hzo hs3 y hfs
        go_wp2_with fail
        go_ret
        rw [HR.out, HFS.out]
        exact ⟨I3, HS3.out, rfl, H7.out⟩
end
end Go.Proofs.YtagljjhfkhadpaaGreat
