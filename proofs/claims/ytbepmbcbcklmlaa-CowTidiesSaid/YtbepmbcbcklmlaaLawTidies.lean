/- CowTidies: the law's walk. -/
import Derived.Test.YtbepmbcbcklmlaaTidOne
set_option linter.unusedSimpArgs false
set_option linter.unusedVariables false
set_option linter.unusedSectionVars false
namespace Go.Proofs.Ytbepmbcbcklmlaa
open Go.RowKit
theorem tidied_facts {S S' : Str} {m : List Int} (h : Calm17 S) (ht : Tidied S S' m) (hm : ∀ x ∈ m, 0 < x ∧ x ≤ 16) {i : Nat} (hi : i < 4) :
    (∀ snap, (snap = 0 ∨ snap ∈ m) → creadS S 0 i snap 0 64 = creadS S' 0 i snap 0 64 ∧ (creadS S' 0 i snap 0 64).2 = 0) ∧
    (∀ snap, (snap = 0 ∨ snap ∈ m) → cthereS S 0 i snap = cthereS S' 0 i snap ∧ True) ∧
    (ccopiesS S' 0 i).2 = 0 ∧ Inc (ccopiesS S' 0 i).1 ∧ ∀ n below, n ∈ (ccopiesS S' 0 i).1 → (below = 0 ∨ (below ∈ (ccopiesS S' 0 i).1 ∧ below < n)) → seenB m below n = true := by
  have hob : objB 0 i = true := by
    unfold objB
    rw [decide_eq_true_eq]
    omega
  have hh : (dK 0 i 0).ok = true := by
    unfold dK K4.ok
    simp only [decide_eq_true_eq]
    omega
  have key : ∀ snap, (snap = 0 ∨ snap ∈ m) → snapB snap = true ∧ valO (cview S' 0) (keysAt S' ⟨4, 0⟩) i snap = valO (cview S 0) (keysAt S ⟨4, 0⟩) i snap := fun snap hs => by
    refine ⟨?_, ht.val h (by omega) (hs.imp id fun q => ⟨(hm _ q).1, q⟩)⟩
    unfold snapB
    rw [decide_eq_true_eq]
    rcases hs with rfl | q
    · omega
    · have := hm _ q; omega
  refine ⟨fun snap hs => ?_, fun snap hs => ?_, ?_⟩
  · obtain ⟨k1, k2⟩ := key snap hs
    have hmm : (objB 0 i && snapB snap && withinB 0 64) = true := by rw [hob, k1]; rfl
    rw [read_view h.live U17_ok hmm, read_view ht.calm.live U17_ok hmm, k2]
    exact ⟨rfl, rfl⟩
  · obtain ⟨k1, k2⟩ := key snap hs
    refine ⟨?_, trivial⟩
    unfold cthereS
    rw [hob, k1, Bool.and_true, cmay_true h.live.on, cmay_true ht.calm.live.on, if_neg (by simp), if_neg (by simp), (at_view h.live U17_ok hh).1, (at_view ht.calm.live U17_ok hh).1, k2]
  · have e : ccopiesS S' 0 i = (copiesV (cview S' 0) (keysAt S' ⟨4, 0⟩) i, 0) := by
      unfold ccopiesS
      rw [hob, cmay_true ht.calm.live.on, if_neg (by simp), copies_view ht.calm.live U17_ok]
    rw [e]
    exact ⟨rfl, copies_inc ht.calm.live.inv.keys _ _ _, fun n below q1 q2 => ht.seen h (by omega) q1 q2⟩
section
variable {W w : World} {I : Hp} {l : List HP} {p p2 : Nat} {S T : Str}
set_option maxRecDepth 4000
set_option maxHeartbeats 8000000
theorem tidies_walk (v0 v1 : Value) (ls : List A17) (marks : List Int) (W : World) (h1 : RowI W.hp 8 v0 ls.length (ls.flatMap A17.vals)) (hok : ∀ a ∈ ls, a.ok W.hp) (hn : ls.length ≤ maxLen) (hv : IntsI W.hp v1 marks) (hml : marks.length ≤ maxLen) :
    Calls Try.prog 5 #[v0, v1] W fun e w' => e = .returned (.bool true) ∧ Below W.heap.size W w' := by
  unfold maxLen at hn hml
  have hn1 : (ls.length : Int) ≤ 9223372036854775807 := by omega
  have hn2 : (marks.length : Int) ≤ 9223372036854775807 := by omega
  have hfs := few17_spec v0 ls 40 W h1 hok (by unfold maxLen; omega)
  have H1 := Lib.hid h1
  have HOK := Lib.hid hok
  have HV := Lib.hid hv
  obtain ⟨A1, c1, rfl, _⟩ := h1
  obtain ⟨A2, c2, rfl, _⟩ := hv
  clear hok
  cases hfw : few17 ls 40 with
  | false =>
    rw [hfw] at hfs
    have HFS := Lib.hid hfs
    clear hfs
    go_enter Try.func5, Try.ntmps5
    go_wp2_with fail
    refine HFS.out.mono ?_
    rintro e w1 ⟨rfl, rfl⟩
    go_wp2_with fail
    refine (known17_spec _).mono ?_
    rintro e w9 ⟨rfl, hb9⟩
    have HB := Lib.hid hb9
    clear hb9
    go_wp2_with fail
    go_ret
    exact ⟨rfl, HB.out⟩
  | true =>
    rw [hfw] at hfs
    have HFS := Lib.hid hfs
    clear hfs
    have hl40 : ls.length ≤ 40 := by
      unfold few17 at hfw
      simp only [Bool.and_eq_true, decide_eq_true_eq] at hfw
      omega
    clear hfw
    by_cases hm20 : 20 < marks.length
    · have d2 : decide (20 < (marks.length : Int)) = true := by rw [decide_eq_true_eq]; omega
      go_enter Try.func5, Try.ntmps5
      go_wp2_with fail
      refine HFS.out.mono ?_
      rintro e w1 ⟨rfl, rfl⟩
      go_wp2_with fail
      refine (known17_spec _).mono ?_
      rintro e w9 ⟨rfl, hb9⟩
      have HB := Lib.hid hb9
      clear hb9
      go_wp2_with fail
      go_ret
      exact ⟨rfl, HB.out⟩
    · have d2 : decide (20 < (marks.length : Int)) = false := by rw [decide_eq_false_iff_not]; omega
      have dn2 : ¬ 20 < marks.length := hm20
      go_enter Try.func5, Try.ntmps5
      go_wp2_with fail
      refine HFS.out.mono ?_
      rintro e w1 ⟨rfl, rfl⟩
      go_wp2_with fail
      refine (new_spec 1048576 (St.init W)).mono ?_
      rintro e w2 ⟨p, rfl, h2⟩
      have H2 := Lib.hid h2
      clear h2 HFS
      go_wp2_with fail
      go_loopw [6] (fun a6 wr => ∃ (i : Nat) (S : Str) (I1 : Hp), a6 = .int .i64 i ∧ i ≤ ls.length ∧ Calm17 S ∧ Only0 S ∧ Keeps S (90000 - 300 * i) ∧ W.hp.sub I1 ∧ St W I1 wr (storeHP p S :: [])) (fun a6 _ => ls.length - (intOf a6).toNat)
      case atStart => exact ⟨0, newS 1048576, W.hp, rfl, Nat.zero_le _, Calm17.new, fun _ _ => rfl, (keeps_new _).fewer (by omega), Hp.sub.refl _, H2.out⟩
      case round =>
        obtain ⟨i, S, I1, rfl, hi, hcS, hoS, hkS, hI1, hst⟩ := hrel
        by_cases hlt : i < ls.length
        · obtain ⟨a, ha⟩ : ∃ a, ls[i]? = some a := ⟨_, List.getElem?_eq_getElem hlt⟩
          obtain ⟨b, off, e1, hc⟩ := rowk_cell (i := i) H1.out hI1 hst (fun _ => rfl) ha
          simp only [Value.slice.injEq, and_true] at e1
          subst e1
          have hoka := A17.ok_mono (HOK.out a (List.mem_of_getElem? ha)) hI1
          have y0 := hc 0 (by omega)
          have y1 := hc 1 (by omega)
          have y2 := hc 2 (by omega)
          have y3 := hc 3 (by omega)
          have y4 := hc 4 (by omega)
          have y5 := hc 5 (by omega)
          have y6 := hc 6 (by omega)
          have y7 := hc 7 (by omega)
          have hml := mild_spec a hst hoka
          obtain ⟨hmok, hmpl⟩ := mild_ok hoka
          have hfi0 : a.mild.what = 5 ∨ Fine U17 0 a.mild := .inr (mild_fine ⟨by omega, by omega⟩ a)
          obtain ⟨B, hB⟩ : ∃ B, a.mild = B := ⟨_, rfl⟩
          rw [hB] at hml hmok hmpl hfi0
          obtain ⟨Bp, bcp, hbpv, _⟩ := hoka.1
          obtain ⟨Bm, bcm, hbmv, _⟩ := hoka.2.1
          obtain ⟨b0, b1, b2, b3, b4, b5, bp, bpv, bms, bmv⟩ := a
          simp only at hbpv hbmv
          subst hbpv hbmv
          simp only [A17.vals, List.getElem?_cons_succ, List.getElem?_cons_zero, Nat.add_zero] at y0 y1 y2 y3 y4 y5 y6 y7
          simp only [A17.val] at hml
          obtain ⟨hr1, hr2, hr3⟩ := hcS.done (img := 0) (a := B) ⟨by omega, by omega⟩ hfi0
          have hks : Keeps S (89700 - 300 * i + 16 + 2 * (keysTold S ⟨4, 0⟩).length) := hkS.fewer (by have := hcS.keys 0; omega)
          have hks2 := oursS_keeps (a := B) hks
          have hon := Only0.done hcS hoS hfi0
          have hob := fun w5 (hb5 : Below wr.heap.size wr w5) => ours17_spec 0 B (hst.keep hb5) hks hmok (by omega)
          obtain ⟨r1, hre1⟩ : ∃ r, oursS S 0 B = r := ⟨_, rfl⟩
          rw [hre1] at hr1 hr2 hks2 hon
          simp only [hre1] at hob
          obtain ⟨e1, S1⟩ := r1
          simp only at hr1
          subst hr1
          have HML := Lib.hid hml
          have HOB := Lib.hid hob
          have HS1 := Lib.hid hr2
          have HON := Lib.hid hon
          have HKS2 := Lib.hid hks2
          have HI1 := Lib.hid hI1
          clear hc ha hoka hml hmok hfi0 hst hcS hoS hkS hI1 hB hr2 hr3 hon hks2 hob hks hre1 hmpl
          go_wp2_with fail
          refine HML.out.mono ?_
          rintro e w5 ⟨rfl, hb5⟩
          have HOB5 := Lib.hid (HOB.out w5 hb5)
          clear hb5 y0 y1 y2 y3 y4 y5 y6 y7 HML HOB
          go_wp2_with fail
          refine HOB5.out.mono ?_
          rintro e w7 ⟨I7, hs7, rfl, h7⟩
          have H7 := Lib.hid h7
          have HS7 := Lib.hid (HI1.out.trans hs7)
          clear h7 hs7 HOB5
          go_wp2_with fail
          go_roundw
          case rel => exact ⟨i + 1, S1, I7, by go_num, by omega, HS1.out, HON.out, HKS2.out.fewer (by omega), HS7.out, H7.out⟩
          case measure => simp [intOf]; omega
        · obtain rfl : i = ls.length := by omega
          have HST := Lib.hid hst
          have HCS := Lib.hid hcS
          have HOS := Lib.hid hoS
          have HKS := Lib.hid (hkS.fewer (n := 70000) (by omega))
          have HI1 := Lib.hid hI1
          obtain ⟨ms, hms⟩ : ∃ ms, marks.map (fun x => x % 16 + 1) = ms := ⟨_, rfl⟩
          have hlms : ms.length = marks.length := by rw [← hms, List.length_map]
          have hmr : ∀ x ∈ ms, 0 < x ∧ x ≤ 16 := fun x hx => by
            rw [← hms] at hx
            obtain ⟨y, _, rfl⟩ := List.mem_map.1 hx
            omega
          have HLM := Lib.hid hlms
          have HMS := Lib.hid hms
          have HMR := Lib.hid hmr
          clear hst hcS hoS hkS hI1 hms hmr hlms
          go_wp2_with fail
          go_loopw [7, 8] (fun a7 a8 wr => ∃ (j : Nat) (A : Option Addr) (c : Nat), a8 = .int .i64 j ∧ a7 = .slice A j c ∧ j ≤ marks.length ∧ St W I1 wr (HP.row 3 1 (.slice A j c) j ((ms.take j).map intV) :: storeHP p S :: [])) (fun _ a8 _ => marks.length - (intOf a8).toNat)
          case atStart => exact ⟨0, none, 0, rfl, rfl, Nat.zero_le _, HST.out.row_nil 3 1⟩
          case round =>
            obtain ⟨j, A, c, rfl, rfl, hj, hst⟩ := hrel
            by_cases hlt : j < marks.length
            · obtain ⟨x, hx⟩ : ∃ x, marks[j]? = some x := ⟨_, List.getElem?_eq_getElem hlt⟩
              obtain ⟨b, off, e1, hcm⟩ := intsI_cell hst ((intsIP _ _).mono HI1.out HV.out) hx
              simp only [Value.slice.injEq, and_true] at e1
              subst e1
              have hand := i64_and15 x
              obtain ⟨o1, ho1⟩ : ∃ o1, x % 16 = o1 := ⟨_, rfl⟩
              obtain ⟨y, hy⟩ : ∃ y, o1 + 1 = y := ⟨_, rfl⟩
              have hwr : IntKind.i64.wrap (o1 + 1) = y := by rw [IntKind.wrap_i64]; omega
              have hmsj : ms[j]? = some y := by rw [← HMS.out, List.getElem?_map, hx, ← hy, ← ho1]; rfl
              rw [ho1] at hand
              have htk : (ms.take j).map intV ++ [.int .i64 y] = (ms.take (j + 1)).map intV := by
                rw [List.take_add_one, hmsj, List.map_append]
                rfl
              have h6 := hst.keep (below_alloc wr (.cells #[.int .i64 y] 3))
              obtain ⟨v7, w7, hr7, h7⟩ := St.ints_append 24 h6 (int_src wr y) (by omega)
              obtain ⟨A7, c7, rfl⟩ := is_slice h7.row_owns
              rw [htk] at h7
              have HR7 := Lib.hid hr7
              have H7 := Lib.hid h7
              clear htk h6 h7 hr7 hy ho1 hmsj hx hst
              go_wp2_with (at_builtin; refine Lib.wpList_append_run _ rfl (.tmp 60) (.tmp 67) 24 24 rfl _ _ rfl rfl _ _ HR7.out ?_)
              go_roundw
              case rel => exact ⟨j + 1, A7, c7, by go_num, rfl, by omega, H7.out⟩
              case measure => simp [intOf]; omega
            · have hlms := HLM.out
              obtain rfl : j = ms.length := by omega
              have dlt : decide ((ms.length : Int) < (marks.length : Int)) = false := by rw [decide_eq_false_iff_not]; omega
              obtain ⟨I3, hs3, hr3, h3⟩ := hst.freeze_row
              rw [List.take_length] at hr3
              have hr3 : IntsI I3 (.slice A ms.length c) ms := hr3
              have htw := twin_spec h3 HKS.out
              obtain ⟨ht0, htd⟩ := HCS.out.tidied ms
              have hks : Keeps S (69700 + 2 * (keysTold S ⟨4, 0⟩).length) := HKS.out.fewer (by have := HCS.out.keys 0; omega)
              have hks2 := tidyS_keeps (marks := ms) hks
              have hon := Only0.done HCS.out HOS.out (a := tidyA ms) (.inl rfl)
              rw [tidy_ours] at hon
              obtain ⟨r1, hre1⟩ : ∃ r, tidyS S 0 ms = r := ⟨_, rfl⟩
              rw [hre1] at ht0 htd hks2 hon
              obtain ⟨e1, S1⟩ := r1
              simp only at ht0
              subst ht0
              have htwi := htd.twice HCS.out
              have hone := Only0.tidy1 htd.calm hon []
              have hks2 : Keeps S1 69700 := hks2
              have htd : Tidied S S1 ms := htd
              have hks3 : Keeps S1 (69000 + 2 * (keysTold S1 ⟨4, 1⟩).length) := hks2.fewer (by have := htd.calm.keys 1; omega)
              have hks4 : Keeps S1 (69000 + 2 * (keysTold S1 ⟨4, 0⟩).length) := hks2.fewer (by have := htd.calm.keys 0; omega)
              have HK2 := Lib.hid hks3
              have HK3 := Lib.hid hks4
              clear hks3 hks4
              have hfacts := fun i (hi : i < 4) => tidied_facts HCS.out htd HMR.out hi
              have HTW := Lib.hid htw
              have HR3 := Lib.hid hr3
              have HS3 := Lib.hid (HI1.out.trans hs3)
              have HK0 := Lib.hid hks
              have HK1 := Lib.hid hks2
              have HRE := Lib.hid hre1
              have HTD := Lib.hid htd
              have HTWI := Lib.hid htwi
              have HONE := Lib.hid hone
              have HFA := Lib.hid hfacts
              have HLE := Lib.hid (show (ms.length : Int) ≤ 1000 by omega)
              clear hst h3 hr3 hs3 htw hks hks2 hon hre1 htd htwi hone hfacts hlms
              go_wp2_with fail
              refine HTW.out.mono ?_
              rintro e w4 ⟨q, I4, hs4, rfl, h4⟩
              have hti := tidy_spec 0 (.slice A ms.length c) ms (h4.pull 1 _ rfl) HK0.out ((intsIP _ _).mono hs4 HR3.out)
              rw [HRE.out] at hti
              have HTI := Lib.hid hti
              have HS4 := Lib.hid hs4
              clear h4 hti hs4 HTW
              go_wp2_with fail
              refine HTI.out.mono ?_
              rintro e w5 ⟨I5, hs5, rfl, h5⟩
              have h5 : St W I5 w5 (storeHP p S1 :: storeHP q S :: []) := h5
              have hti := tidy_spec 1 (.slice none 0 0) [] h5 HK2.out (ints_nil _)
              rw [HONE.out] at hti
              have HTI2 := Lib.hid hti
              have HS5 := Lib.hid (HS4.out.trans hs5)
              clear h5 hti hs5 HTI
              go_wp2_with fail
              refine HTI2.out.mono ?_
              rintro e w6 ⟨I6, hs6, rfl, h6⟩
              have H6 := Lib.hid h6
              have HS6 := Lib.hid (HS5.out.trans hs6)
              clear h6 hs6 HTI2
              go_upto_region 19 with fail
              refine tid_objs (by assumption) (by kernel_rfl) H6.out ((intsIP _ _).mono HS6.out HR3.out) HLE.out HK1.out.inv HKS.out.inv (fun i hi => (HFA.out i hi).1) (fun i hi => (HFA.out i hi).2.1) (fun i hi => (HFA.out i hi).2.2) ?_
              intro y0 y1 y2 y3 y4 y6 y8 y10 y11 y12 y13 y14 y15 y16 y17 y18 y19 y20 y21 y22 y23 y24 y25 y26 y27 y28 y29 y30 y31 y32 y33 y34 y35 y36 y37 y38 y39 y40 y41 y42 y43 y44 y45 y46 y47 y48 y49 y50 y51 y52 y53 y54 y55 y56 y57 y58 y59 y60 y61 y62 y63 y64 y65 y66 y67 y68 y69 y70 y71 y72 y73 y74 y75 y76 y77 y78 y79 y80 y81 y82 y83 y84 y85 y86 y87 y88 y89 y90 y91 y92 y93 y94 y95 y96 y97 y98 y99 y100 y101 y102 y103 y104 y105 y106 y107 y108 y109 y110 y111 y112 y113 y114 y115 y116 y117 y118 y119 y120 y121 y122 y123 y124 y125 y126 y127 y128 y129 y130 y131 y132 y133 y134 y135 y136 y137 y138 y139 y140 y141 y142 y143 y144 y145 y146 y147 y148 y149 y150 y151 y152 y153 y154 y155 y156 y157 y158 y159 y160 y161 y162 y163 y164 y165 y166 y167 y168 y169 y170 y171 y172 y173 y174 y175 y176 y177 y178 y179 y180 y181 y182 y183 y184 y185 y186 y187 y188 y189 y190 y191 y192 y193 y194 y195 y196 y197 y198 y199 y200 y201 y202 y203 y204 y205 y206 y207 y208 I7 w7 hs7 h7
              have hu := used_spec h7
              obtain ⟨u, hu0⟩ : ∃ u, S1.used = u := ⟨_, rfl⟩
              rw [hu0] at hu
              have hti := tidy_spec 0 (.slice A ms.length c) ms h7 HK3.out ((intsIP _ _).mono (HS6.out.trans hs7) HR3.out)
              rw [HTWI.out] at hti
              have deq : (u == u) = true := by simp
              have HU := Lib.hid hu
              have HU0 := Lib.hid hu0
              have HTI3 := Lib.hid hti
              clear h7 hs7 hu hti hu0
              go_wp2_with fail
              refine HU.out.mono ?_
              rintro e w8 ⟨rfl, rfl⟩
              go_wp2_with fail
              refine HTI3.out.mono ?_
              rintro e w8 ⟨I8, hs8, rfl, h8⟩
              have hu := used_spec h8
              rw [HU0.out] at hu
              have HU2 := Lib.hid hu
              have H8 := Lib.hid h8
              clear h8 hs8 hu
              go_wp2_with fail
              refine HU2.out.mono ?_
              rintro e w9 ⟨rfl, rfl⟩
              go_wp2_with fail
              refine (known17_spec _).mono ?_
              rintro e w10 ⟨rfl, hb10⟩
              have HB := Lib.hid (H8.out.below.trans (hb10.mono H8.out.below.size))
              clear hb10
              go_wp2_with fail
              go_ret
              exact ⟨rfl, HB.out⟩
end
end Go.Proofs.Ytbepmbcbcklmlaa
