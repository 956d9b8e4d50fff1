/- Package cow: what it reads. -/
import Derived.Test.YtbepmbcbcklmlaaGreatCowFns
import Derived.Test.YtbepmbcbcklmlaaGreatStr3
import Derived.Test.YtbepmbcbcklmlaaGreatRowsk
set_option linter.unusedSimpArgs false
set_option linter.unusedVariables false
set_option linter.unusedSectionVars false
namespace Go.Proofs.YtbepmbcbcklmlaaGreat
open Go.RowKit
section
variable {W w : World} {I : Hp} {l : List HP} {p : Nat} {S : Str}
set_option maxRecDepth 4000
set_option maxHeartbeats 4000000
theorem cmay_spec (b : Bool) (h : St W I w (storeHP p S :: l)) : Calls Tryz.prog 39 #[.pointer (some ⟨p, 0, none⟩), .bool b] w fun e w' => e = .returned (.int .i64 (cmayS S b)) ∧ w = w' := by
  have hon := on_spec h
  have HON := Lib.hid hon
  unfold cmayS
  clear h hon
  cases ho : S.on with
  | false =>
    rw [ho] at HON
    go_enter Tryz.func39, Tryz.ntmps39
    go_wp2_with fail
    refine HON.out.mono ?_
    rintro e w2 ⟨rfl, rfl⟩
    go_wp2_with fail
    go_ret
    exact ⟨rfl, rfl⟩
  | true =>
    rw [ho] at HON
    cases b with
    | false =>
      go_enter Tryz.func39, Tryz.ntmps39
      go_wp2_with fail
      refine HON.out.mono ?_
      rintro e w2 ⟨rfl, rfl⟩
      go_wp2_with fail
      go_ret
      exact ⟨rfl, rfl⟩
    | true =>
      go_enter Tryz.func39, Tryz.ntmps39
      go_wp2_with fail
      refine HON.out.mono ?_
      rintro e w2 ⟨rfl, rfl⟩
      go_wp2_with fail
      go_ret
      exact ⟨rfl, rfl⟩
theorem object_spec (img num : Int) (w : World) : Calls Tryz.prog 40 #[.int .i64 img, .int .i64 num] w fun e w' => e = .returned (.bool (objB img num)) ∧ w = w' := by
  have he : objB img num = (((decide (0 ≤ img) && decide (img ≤ 255)) && decide (0 ≤ num)) && decide (num ≤ 512)) := by
    unfold objB
    rw [Bool.eq_iff_iff]
    simp only [decide_eq_true_eq, Bool.and_eq_true, and_assoc]
  have HE := Lib.hid he
  clear he
  cases h0 : decide (0 ≤ img) with
  | false =>
    go_enter Tryz.func40, Tryz.ntmps40
    go_wp2_with fail
    go_ret
    exact ⟨by rw [HE.out, h0]; rfl, rfl⟩
  | true =>
    cases h1 : decide (img ≤ 255) with
    | false =>
      go_enter Tryz.func40, Tryz.ntmps40
      go_wp2_with fail
      go_ret
      exact ⟨by rw [HE.out, h0, h1]; rfl, rfl⟩
    | true =>
      cases h2 : decide (0 ≤ num) with
      | false =>
        go_enter Tryz.func40, Tryz.ntmps40
        go_wp2_with fail
        go_ret
        exact ⟨by rw [HE.out, h0, h1, h2]; rfl, rfl⟩
      | true =>
        go_enter Tryz.func40, Tryz.ntmps40
        go_wp2_with fail
        go_ret
        exact ⟨by rw [HE.out, h0, h1, h2]; rfl, rfl⟩
theorem snaps_spec (n : Int) (w : World) : Calls Tryz.prog 41 #[.int .i64 n] w fun e w' => e = .returned (.bool (snapB n)) ∧ w = w' := by
  have he : snapB n = (decide (0 ≤ n) && decide (n ≤ 1073741824)) := by
    unfold snapB
    rw [Bool.eq_iff_iff]
    simp only [decide_eq_true_eq, Bool.and_eq_true, and_assoc]
  have HE := Lib.hid he
  clear he
  cases h0 : decide (0 ≤ n) with
  | false =>
    go_enter Tryz.func41, Tryz.ntmps41
    go_wp2_with fail
    go_ret
    exact ⟨by rw [HE.out, h0]; rfl, rfl⟩
  | true =>
    go_enter Tryz.func41, Tryz.ntmps41
    go_wp2_with fail
    go_ret
    exact ⟨by rw [HE.out, h0]; rfl, rfl⟩
theorem within_spec (off n : Int) (w : World) : Calls Tryz.prog 42 #[.int .i64 off, .int .i64 n] w fun e w' => e = .returned (.bool (withinB off n)) ∧ w = w' := by
  have he : withinB off n = (((decide (0 ≤ off) && decide (off ≤ 64)) && decide (0 ≤ n)) && decide (n ≤ 64 - off)) := by
    unfold withinB
    rw [Bool.eq_iff_iff]
    simp only [decide_eq_true_eq, Bool.and_eq_true, and_assoc]
  have HE := Lib.hid he
  clear he
  cases h0 : decide (0 ≤ off) with
  | false =>
    go_enter Tryz.func42, Tryz.ntmps42
    go_wp2_with fail
    go_ret
    exact ⟨by rw [HE.out, h0]; rfl, rfl⟩
  | true =>
    cases h1 : decide (off ≤ 64) with
    | false =>
      go_enter Tryz.func42, Tryz.ntmps42
      go_wp2_with fail
      go_ret
      exact ⟨by rw [HE.out, h0, h1]; rfl, rfl⟩
    | true =>
      cases h2 : decide (0 ≤ n) with
      | false =>
        go_enter Tryz.func42, Tryz.ntmps42
        go_wp2_with fail
        go_ret
        exact ⟨by rw [HE.out, h0, h1, h2]; rfl, rfl⟩
      | true =>
        have hw : IntKind.i64.wrap (64 - off) = 64 - off := by
          rw [decide_eq_true_eq] at h0 h1
          rw [IntKind.wrap_i64]; omega
        go_enter Tryz.func42, Tryz.ntmps42
        go_wp2_with fail
        go_ret
        exact ⟨by rw [HE.out, h0, h1, h2]; rfl, rfl⟩
theorem ckey_spec (img num snap : Int) (w : World) : Calls Tryz.prog 51 #[.int .i64 img, .int .i64 num, .int .i64 snap] w fun e w' => e = .returned (.agg #[.int .i64 4, .int .i64 img, .int .i64 num, .int .i64 snap]) ∧ Below w.heap.size w w' := by
  go_enter Tryz.func51, Tryz.ntmps51
  go_wp2_with fail
  refine bodyPost_ret (v := .agg #[.int .i64 4, .int .i64 img, .int .i64 num, .int .i64 snap]) (by simp [results, Tryz.results51, go_sem]) rfl ?_
  exact ⟨rfl, (Below.refl _ _).alloc (Nat.le_refl _) _⟩
theorem copiesL_snoc {S : Str} {num : Int} {ks : List K4} {j : Nat} {k : K4} (hk : ks[j]? = some k) : copiesL S num (ks.take (j + 1)) = copiesL S num (ks.take j) ++ (if copyB S num k then [k.snap] else []) := by
  rw [List.take_add_one, hk]
  unfold copiesL
  rw [List.filter_append, List.map_append]
  simp only [Option.toList_some, List.filter_cons, List.filter_nil]
  split <;> simp
theorem copiesL_len (S : Str) (num : Int) (ks : List K4) (j : Nat) : (copiesL S num (ks.take j)).length ≤ ks.length := by
  unfold copiesL
  rw [List.length_map]
  refine Nat.le_trans (List.length_filter_le _ _) ?_
  rw [List.length_take]
  omega
theorem copies_spec (img num : Int) {m : Nat} (h : St W I w (storeHP p S :: l)) (hk : Inv S m) :
    Calls Tryz.prog 52 #[.pointer (some ⟨p, 0, none⟩), .int .i64 img, .int .i64 num] w fun e w' => ∃ v I', I.sub I' ∧ e = .returned v ∧ IntsI I' v (copiesS S img num) ∧ St W I' w' (storeHP p S :: l) := by
  have hkl : (keysTold S ⟨4, img⟩).length ≤ 100000 := by
    have := hk.many ⟨4, img⟩
    unfold keysTold
    split
    · omega
    · simp
  have hks := keys_of 4 img h (by have := hk.many ⟨4, img⟩; omega)
  have HKS := Lib.hid hks
  have H := Lib.hid h
  have HK := Lib.hid hk
  obtain ⟨ks, hks2⟩ : ∃ ks, keysTold S ⟨4, img⟩ = ks := ⟨_, rfl⟩
  have HC := Lib.hid (show copiesS S img num = copiesL S num ks by rw [← hks2]; rfl)
  rw [hks2] at HKS hkl
  clear hks h hk hks2
  go_enter Tryz.func52, Tryz.ntmps52
  go_wp2_with fail
  refine HKS.out.mono ?_
  rintro e w2 ⟨v2, rfl, hb2, ho2⟩
  obtain ⟨I2, hs2, hr2, h2⟩ := (H.out.row_fresh hb2 ho2).freeze_row
  obtain ⟨Ak, ck, rfl⟩ := is_slice ho2
  have hkn : (ks.length : Int) ≤ 9223372036854775807 := by omega
  have H2 := Lib.hid h2
  have HR2 := Lib.hid hr2
  have HS2 := Lib.hid hs2
  clear h2 hr2 hs2 hb2 ho2 HKS H
  go_wp2_with fail
  go_loopw [7, 16] (fun a7 a16 wr => ∃ (j : Nat) (A : Option Addr) (c : Nat), a16 = .int .i64 j ∧ a7 = .slice A (copiesL S num (ks.take j)).length c ∧ j ≤ ks.length ∧
    St W I2 wr (HP.row 3 1 (.slice A (copiesL S num (ks.take j)).length c) (copiesL S num (ks.take j)).length ((copiesL S num (ks.take j)).map intV) :: storeHP p S :: l)) (fun _ a16 _ => ks.length - (intOf a16).toNat)
  case atStart => exact ⟨0, none, 0, rfl, rfl, Nat.zero_le _, H2.out.row_nil 3 1⟩
  case round =>
    obtain ⟨j, A, c, rfl, rfl, hj, hst⟩ := hrel
    by_cases hlt : j < ks.length
    · obtain ⟨k, hkj⟩ : ∃ k, ks[j]? = some k := ⟨_, List.getElem?_eq_getElem hlt⟩
      obtain ⟨b, off, e1, hc⟩ := rowk_cell (mk := K4.vals) (i := j) HR2.out (Hp.sub.refl _) hst (fun _ => rfl) hkj
      simp only [Value.slice.injEq, and_true] at e1
      subst e1
      have htk := copiesL_snoc (S := S) (num := num) hkj
      have hln := copiesL_len S num ks j
      obtain ⟨k0, k1, k2, k3⟩ := k
      have y0 := hc 0 (by omega)
      have y1 := hc 1 (by omega)
      have y2 := hc 2 (by omega)
      have y3 := hc 3 (by omega)
      simp only [K4.vals, List.getElem?_cons_succ, List.getElem?_cons_zero, Nat.add_zero] at y0 y1 y2 y3
      have h3 := hst.alloc (.cells #[.int .i64 k0, .int .i64 k1, .int .i64 k2, .int .i64 k3] 81)
      have ltp := (hst.pull 1 _ rfl).store_lt
      have HTK := Lib.hid htk
      have H3 := Lib.hid h3
      have HST := Lib.hid hst
      clear htk hc h3 hkj
      by_cases hn : k2 = num
      · subst hn
        have d1 : (k2 != k2) = false := by simp
        by_cases h0 : k3 = 0
        · subst h0
          have htk2 : copiesL S k2 (ks.take (j + 1)) = copiesL S k2 (ks.take j) := by
            rw [HTK.out]
            have : copyB S k2 ⟨k0, k1, k2, 0⟩ = false := by simp [copyB]
            rw [this]
            simp
          have HT2 := Lib.hid htk2
          clear htk2 hst
          go_wp2_with fail
          go_roundw
          case rel => exact ⟨j + 1, A, c, by go_num, by rw [HT2.out], by omega, by rw [HT2.out]; exact H3.out.drop⟩
          case measure => simp [intOf]; omega
        · have d2 : (k3 == 0) = false := by simpa using h0
          have hat := attr_spec ⟨k0, k1, k2, k3⟩ nmW (H3.out.pull 2 _ rfl) HK.out
          simp only [K4.val] at hat
          have HAT := Lib.hid hat
          clear hat hst
          go_wp2_with fail
          refine HAT.out.mono ?_
          rintro e w5 ⟨hb5, v5, rfl, ho5⟩
          have h5 := H3.out.keep hb5
          obtain ⟨A5, c5, rfl⟩ := is_slice ho5
          have z3 := cells_of h5.heap 3
          simp at z3
          have lt5 := h5.lt
          by_cases he : (attrS S ⟨k0, k1, k2, k3⟩ nmW).2 = 0
          · have htk2 : copiesL S k2 (ks.take (j + 1)) = copiesL S k2 (ks.take j) ++ [k3] := by
              rw [HTK.out]
              have : copyB S k2 ⟨k0, k1, k2, k3⟩ = true := by simp [copyB, h0, he]
              rw [this]
              simp
            have d3 : ((attrS S ⟨k0, k1, k2, k3⟩ nmW).2 == 0) = true := by simpa using he
            have h6 := (h5.drop).keep (below_alloc w5 (.cells #[.int .i64 k3] 3))
            obtain ⟨v7, w7, hr7, h7⟩ := St.ints_append 29 h6 (int_src w5 k3) (by omega)
            obtain ⟨A7, c7, rfl⟩ := is_slice h7.row_owns
            have e4 : (copiesL S k2 (ks.take j)).length + 1 = (copiesL S k2 (ks.take (j + 1))).length := by rw [htk2]; simp
            have e5 : (copiesL S k2 (ks.take j)).map intV ++ [.int .i64 k3] = (copiesL S k2 (ks.take (j + 1))).map intV := by rw [htk2, List.map_append]; rfl
            rw [e5, e4] at h7
            rw [e4] at hr7
            have HR7 := Lib.hid hr7
            have H7 := Lib.hid h7
            clear htk2 h5 h6 h7 hr7 e4 e5 he
            go_wp2_with (at_builtin; refine Lib.wpList_append_run _ rfl (.tmp 37) (.tmp 40) 29 29 rfl _ _ rfl rfl _ _ HR7.out ?_)
            go_roundw
            case rel => exact ⟨j + 1, A7, c7, by go_num, rfl, by omega, H7.out⟩
            case measure => simp [intOf]; omega
          · have htk2 : copiesL S k2 (ks.take (j + 1)) = copiesL S k2 (ks.take j) := by
              rw [HTK.out]
              have : copyB S k2 ⟨k0, k1, k2, k3⟩ = false := by simp [copyB, he]
              rw [this]
              simp
            have d3 : ((attrS S ⟨k0, k1, k2, k3⟩ nmW).2 == 0) = false := by simpa using he
            have HT2 := Lib.hid htk2
            have H5 := Lib.hid h5
            clear htk2 h5 he
            go_wp2_with fail
            go_roundw
            case rel => exact ⟨j + 1, A, c, by go_num, by rw [HT2.out], by omega, by rw [HT2.out]; exact H5.out.drop⟩
            case measure => simp [intOf]; omega
      · have d1 : (k2 != num) = true := by simpa using hn
        have htk2 : copiesL S num (ks.take (j + 1)) = copiesL S num (ks.take j) := by
          rw [HTK.out]
          have : copyB S num ⟨k0, k1, k2, k3⟩ = false := by simp [copyB, hn]
          rw [this]
          simp
        have HT2 := Lib.hid htk2
        clear htk2 hst
        go_wp2_with fail
        go_roundw
        case rel => exact ⟨j + 1, A, c, by go_num, by rw [HT2.out], by omega, by rw [HT2.out]; exact H3.out.drop⟩
        case measure => simp [intOf]; omega
    · obtain rfl : j = ks.length := by omega
      obtain ⟨I3, hs3, hr3, h3⟩ := hst.freeze_row
      have hr3 : IntsI I3 (.slice A (copiesL S num (ks.take ks.length)).length c) (copiesL S num ks) := by
        rw [List.take_length] at hr3 ⊢
        exact hr3
      have H3 := Lib.hid h3
      have HS3 := Lib.hid (HS2.out.trans hs3)
      have HR3 := Lib.hid hr3
      clear hst h3 hs3 hr3
      go_wp2_with fail
      go_ret
      rw [HC.out]
      exact ⟨_, I3, HS3.out, rfl, HR3.out, H3.out⟩
theorem all_spec (k : K4) {m : Nat} (h : St W I w (storeHP p S :: l)) (hk : Inv S m) :
    Calls Tryz.prog 44 #[.pointer (some ⟨p, 0, none⟩), k.val] w fun e w' => Below w.heap.size w w' ∧ ∃ v, e = .returned v ∧ w'.ownsRow w.heap.size 5 1 v (allS S k).length ((allS S k).map byteV) := by
  obtain ⟨k0, k1, k2, k3⟩ := k
  have h1 := h.alloc (.cells #[.int .i64 k0, .int .i64 k1, .int .i64 k2, .int .i64 k3] 81)
  have hb1 := (Below.refl w.heap.size w).alloc (Nat.le_refl _) (.cells #[.int .i64 k0, .int .i64 k1, .int .i64 k2, .int .i64 k3] 81)
  have hsz := size_of ⟨k0, k1, k2, k3⟩ (h1.pull 1 _ rfl)
  have hle : w.heap.size ≤ (w.alloc (.cells #[.int .i64 k0, .int .i64 k1, .int .i64 k2, .int .i64 k3] 81)).heap.size := by simp
  simp only [K4.val] at hsz ⊢
  have HSZ := Lib.hid hsz
  have H1 := Lib.hid h1
  have HB1 := Lib.hid hb1
  have HLE := Lib.hid hle
  have HK := Lib.hid hk
  clear h h1 hsz hb1 hle hk
  go_enter Tryz.func44, Tryz.ntmps44
  go_wp2_with fail
  refine HSZ.out.mono ?_
  rintro e w2 ⟨hb2, rfl⟩
  have h2 := H1.out.keep hb2
  have x0 := cells_of h2.heap 0
  have x1 := cells_of h2.heap 1
  have x2 := cells_of h2.heap 2
  have x3 := cells_of h2.heap 3
  simp at x0 x1 x2 x3
  have hrd := read_spec ⟨k0, k1, k2, k3⟩ 0 (lenAt S ⟨k0, k1, k2, k3⟩) (h2.pull 1 _ rfl) HK.out
  simp only [K4.val] at hrd
  have HRD := Lib.hid hrd
  have HB2 := Lib.hid (HB1.out.trans (hb2.mono HLE.out))
  have HL2 := Lib.hid (Nat.le_trans HLE.out hb2.size)
  clear hrd h2 hb2
  go_wp2_with fail
  refine HRD.out.mono ?_
  rintro e w3 ⟨hb3, v3, rfl, ho3⟩
  obtain ⟨A3, c3, rfl⟩ := is_slice ho3
  have HO := Lib.hid (ownsRow_base ho3 HL2.out)
  have HB3 := Lib.hid (HB2.out.trans (hb3.mono HL2.out))
  clear ho3 hb3 x0 x1 x2 x3
  go_wp2_with fail
  go_ret
  exact ⟨HB3.out, _, rfl, HO.out⟩
/-- From region 10 on: the head. -/
theorem at_head {a b : Code} {Q : Exit → Act → World → Prop} {K : Act → World → Prop} (hK : ∀ x y, b.wp Tryz.prog Q x y → K x y) (hC : (Tryz.f43).body.bind (fromR 10) = some (.seq a b)) {x3 x4 x5 x6 x7 x9 x10 x11 x12 x13 x14 x15 x16 x17 x18 x19 x20 x21 x22 x23 x24 x25 x26 x27 x28 x29 x30 x31 x32 x33 x34 x35 x36 x37 x38 x39 x40 x41 x42 x43 x44 x45 x46 x47 x48 x49 x50 x51 x52 x53 x54 x55 x56 x57 x58 x59 x60 x61 x62 x63 x64 : Value} (img num : Int) {g : Nat} {c0 c1 c2 c3 : Value}
    (h : St W I w (HP.pt g (.cells #[c0, c1, c2, c3] 81) :: storeHP p S :: l))
    (hQ : ∀ (y0 y1 y2 y3 y4 y5 y6 y7 y10 y11 y12 y13 y14 y15 y16 y17 y18 y19 y20 y21 y22 y23 y24 y25 y26 y27 y28 y29 y30 y31 y32 y33 y34 y35 y36 y37 y38 y39 y40 y41 y42 y43 y44 y45 y46 y47 y48 y49 y50 y51 y52 y53 y54 y55 y56 y57 y58 y59 y60 y61 y62 y63 y64 : Value) (w' : World), St W I w' (HP.pt g (.cells #[.int .i64 4, .int .i64 img, .int .i64 num, .int .i64 0] 81) :: storeHP p S :: l) → Q .ret ⟨#[y0, y1, y2, y3, y4, y5, y6, y7, .pointer (some ⟨g, 0, none⟩), .bool (decide (whyS S (dK img num 0) = 0)), y10, y11, y12, y13, y14, y15, y16, y17, y18, y19, y20, y21, y22, y23, y24, y25, y26, y27, y28, y29, y30, y31, y32, y33, y34, y35, y36, y37, y38, y39, y40, y41, y42, y43, y44, y45, y46, y47, y48, y49, y50, y51, y52, y53, y54, y55, y56, y57, y58, y59, y60, y61, y62, y63, y64], []⟩ w') :
    a.wp Tryz.prog (Exit.then K Q) ⟨#[.pointer (some ⟨p, 0, none⟩), .int .i64 img, .int .i64 num, x3, x4, x5, x6, x7, .pointer (some ⟨g, 0, none⟩), x9, x10, x11, x12, x13, x14, x15, x16, x17, x18, x19, x20, x21, x22, x23, x24, x25, x26, x27, x28, x29, x30, x31, x32, x33, x34, x35, x36, x37, x38, x39, x40, x41, x42, x43, x44, x45, x46, x47, x48, x49, x50, x51, x52, x53, x54, x55, x56, x57, x58, x59, x60, x61, x62, x63, x64], []⟩ w := by
  injection hC with hC
  injection hC with hC1 hC2
  subst hC1 hC2
  have HQ := Lib.hid hQ
  have H := Lib.hid h
  clear hQ h
  go_wp2_with fail
  refine (ckey_spec img num 0 w).mono ?_
  rintro e w2 ⟨rfl, hb2⟩
  have h2 := (H.out.keep hb2).alloc (.cells #[.int .i64 4, .int .i64 img, .int .i64 num, .int .i64 0] 81)
  have hsz := size_of ⟨4, img, num, 0⟩ (h2.pull 2 _ rfl)
  simp only [K4.val] at hsz
  have HSZ := Lib.hid hsz
  have H2 := Lib.hid h2
  clear hsz h2 hb2 H
  go_wp2_with fail
  refine HSZ.out.mono ?_
  rintro e w3 ⟨hb3, rfl⟩
  have h3 := H2.out.keep hb3
  have x0 := cells_of h3.heap 0
  have x1 := cells_of h3.heap 1
  have x2 := cells_of h3.heap 2
  have x3 := cells_of h3.heap 3
  simp at x0 x1 x2 x3
  have hg := (h3.pull 1 _ rfl).heap
  have z0 := cells_of hg 0
  have z1 := cells_of hg 1
  have z2 := cells_of hg 2
  have z3 := cells_of hg 3
  have f0 := frozen_of_row hg 0
  have f1 := frozen_of_row hg 1
  have f2 := frozen_of_row hg 2
  have f3 := frozen_of_row hg 3
  have ltg := (h3.pull 1 _ rfl).lt
  simp at z0 z1 z2 z3
  have h4 := ((((h3.drop.setCell 0 (.int .i64 4)).setCell 1 (.int .i64 img)).setCell 2 (.int .i64 num)).setCell 3 (.int .i64 0))
  have HX := Lib.hid (show decide (whyS S (dK img num 0) = 0) = (whyS S ⟨4, img, num, 0⟩ == 0) by unfold dK; rw [Bool.eq_iff_iff]; simp)
  have H4 := Lib.hid h4
  clear h3 h4 hb3 hg
  go_wp2_with fail
  rw [← HX.out]
  exact HQ.out _ _ _ _ _ _ _ _ _ _ _ _ _ _ _ _ _ _ _ _ _ _ _ _ _ _ _ _ _ _ _ _ _ _ _ _ _ _ _ _ _ _ _ _ _ _ _ _ _ _ _ _ _ _ _ _ _ _ _ _ _ _ _ _ H4.out
theorem at_spec (img num snap : Int) {m : Nat} (h : St W I w (storeHP p S :: l)) (hk : Inv S m) :
    Calls Tryz.prog 43 #[.pointer (some ⟨p, 0, none⟩), .int .i64 img, .int .i64 num, .int .i64 snap] w fun e w' => ∃ I', I.sub I' ∧ e = .returned (.tuple #[(atS S img num snap).1.val, .bool (atS S img num snap).2]) ∧ St W I' w' (storeHP p S :: l) := by
  have h1 := h.alloc (.cells #[.int .i64 0, .int .i64 0, .int .i64 0, .int .i64 0] 81)
  have hcs := copies_spec img num (h1.pull 1 _ rfl) hk
  have HK := Lib.hid hk
  have H1 := Lib.hid h1
  have HCS := Lib.hid hcs
  obtain ⟨g, hg⟩ : ∃ g, w.heap.size = g := ⟨_, rfl⟩
  clear h h1 hk hcs
  by_cases h0 : 0 < snap
  · have d0 : decide (0 < snap) = true := by simpa using h0
    have HA := Lib.hid (show atS S img num snap = match (copiesS S img num).find? (fun n => decide (snap ≤ n)) with
      | some n => (dK img num n, decide ((attrS S (dK img num n) nmW).1 = [1]))
      | none => (dK img num 0, decide (whyS S (dK img num 0) = 0)) by unfold atS; rw [if_pos h0]; rfl)
    obtain ⟨cs, hcs2⟩ : ∃ cs, copiesS S img num = cs := ⟨_, rfl⟩
    rw [hcs2] at HA HCS
    clear hcs2 h0
    go_enter Tryz.func43, Tryz.ntmps43
    go_wp2_with fail
    refine HCS.out.mono ?_
    rintro e w2 ⟨v2, I2, hs2, rfl, hv2, h2⟩
    have HV2 := Lib.hid hv2
    obtain ⟨A2, c2, rfl, _, hl2, hm2, _⟩ := hv2
    have hcn : (cs.length : Int) ≤ 9223372036854775807 := by unfold maxLen at hm2; omega
    have H2 := Lib.hid (h2.pull 1 _ rfl)
    have HS2 := Lib.hid hs2
    clear h2 hs2 HCS H1 hl2 hm2
    rw [hg] at H2
    go_wp2_with fail
    go_loopw [25] (fun a25 wr => ∃ (j : Nat), a25 = .int .i64 j ∧ j ≤ cs.length ∧ (∀ n ∈ cs.take j, n < snap) ∧ wr = w2) (fun a25 _ => cs.length - (intOf a25).toNat)
    case atStart => exact ⟨0, rfl, Nat.zero_le _, fun n hn => by simp at hn, rfl⟩
    case round =>
      obtain ⟨j, rfl, hj, hall, rfl⟩ := hrel
      by_cases hlt : j < cs.length
      · obtain ⟨n, hnj⟩ : ∃ n, cs[j]? = some n := ⟨_, List.getElem?_eq_getElem hlt⟩
        obtain ⟨b, off, e1, hc⟩ := intsI_cell H2.out HV2.out hnj
        simp only [Value.slice.injEq, and_true] at e1
        subst e1
        have HALL := Lib.hid hall
        have HNJ := Lib.hid hnj
        clear hall hnj
        by_cases hns : n < snap
        · have dn : decide (n < snap) = true := by simpa using hns
          go_wp2_with fail
          go_roundw
          case rel =>
            refine ⟨j + 1, by go_num, by omega, fun n' hn' => ?_, trivial⟩
            rw [List.take_add_one, HNJ.out] at hn'
            rcases List.mem_append.1 hn' with h | h
            · exact HALL.out n' h
            · simp at h; subst h; exact hns
          case measure => simp [intOf]; omega
        · have dn : decide (n < snap) = false := by simpa using hns
          have hfind : cs.find? (fun n => decide (snap ≤ n)) = some n := by
            obtain ⟨hlt2, he⟩ := List.getElem?_eq_some_iff.1 HNJ.out
            rw [List.find?_eq_some_iff_append]
            refine ⟨by simp; omega, cs.take j, cs.drop (j + 1), ?_, fun a ha => ?_⟩
            · rw [← he]; simp
            · have := HALL.out a ha; simp; omega
          rw [hfind] at HA
          have HFA := Lib.hid HA.out
          clear hfind HA HALL HNJ
          go_wp2_with fail
          refine (ckey_spec img num n wr).mono ?_
          rintro e w3 ⟨rfl, hb3⟩
          have h3 := (H2.out.keep hb3).alloc (.cells #[.int .i64 4, .int .i64 img, .int .i64 num, .int .i64 n] 81)
          have hat := attr_spec ⟨4, img, num, n⟩ nmW (h3.pull 2 _ rfl) HK.out
          simp only [K4.val] at hat
          have HAT := Lib.hid hat
          have H3 := Lib.hid h3
          clear hat h3 hb3 hc
          go_wp2_with fail
          refine HAT.out.mono ?_
          rintro e w4 ⟨hb4, v4, rfl, ho4⟩
          have h4 := ((H3.out.row_fresh hb4 ho4).pull 1 _ rfl)
          obtain ⟨r, hr⟩ : ∃ r, (attrS S ⟨4, img, num, n⟩ nmW).1 = r := ⟨_, rfl⟩
          have hfa := HFA.out
          clear HFA
          rw [show dK img num n = ⟨4, img, num, n⟩ from rfl, hr] at hfa
          rw [hr] at ho4 h4
          have hkk := h4.heap
          have x0 := cells_of hkk 0
          have x1 := cells_of hkk 1
          have x2 := cells_of hkk 2
          have x3 := cells_of hkk 3
          have hg0 := (h4.pull 2 _ rfl).heap
          have z0 := cells_of hg0 0
          have z1 := cells_of hg0 1
          have z2 := cells_of hg0 2
          have z3 := cells_of hg0 3
          have f0 := frozen_of_row hg0 0
          have f1 := frozen_of_row hg0 1
          have f2 := frozen_of_row hg0 2
          have f3 := frozen_of_row hg0 3
          have ltg := (h4.pull 2 _ rfl).lt
          have ltk := h4.lt
          simp at x0 x1 x2 x3 z0 z1 z2 z3
          obtain ⟨gk, hgk⟩ : ∃ x, x = w3.heap.size := ⟨_, rfl⟩
          rw [← hgk] at x0 x1 x2 x3 ltk h4 ⊢
          clear hgk hkk
          by_cases h1 : r.length = 1
          · obtain ⟨bb, rfl⟩ := List.length_eq_one_iff.1 h1
            obtain ⟨g4, c4, rfl⟩ : ∃ g4 c4, v4 = .slice (some ⟨g4, 0, none⟩) 1 c4 := by
              rcases ho4.2 with ⟨_, e⟩ | ⟨g4, cap, cur, e, _⟩
              · simp at e
              · exact ⟨g4, cap, e⟩
            have hcell := ho4.cells (g := g4) rfl 0 (.int .u8 bb) rfl
            have d1 : (([bb].length : Int) == 1) = true := rfl
            have hbb : decide ([bb] = [1]) = (bb == 1) := by rw [Bool.eq_iff_iff]; simp
            rw [hbb] at hfa
            have HFA := Lib.hid hfa
            clear hfa hbb h1
            have H4 := Lib.hid h4
            clear h4 hb4 ho4 hg0 hr
            go_wp2_with fail
            refine wp_region_keep (fun w' => w'.cell? ⟨gk, 0, none⟩ = some (.int .i64 4) ∧ w'.cell? ⟨gk, 1, none⟩ = some (.int .i64 img) ∧ w'.cell? ⟨gk, 2, none⟩ = some (.int .i64 num) ∧ w'.cell? ⟨gk, 3, none⟩ = some (.int .i64 n) ∧ w'.cell? ⟨g4, 0, none⟩ = some (.int .u8 bb)) [0, 1, 2, 3, 4, 5, 6, 7, 8, 9] [10] [11] (by kernel_rfl) (by kernel_rfl) (by (exact ⟨x0, x1, x2, x3, hcell⟩)) ?_
            simp only [pickL, List.getElem?_cons_zero, List.getElem?_cons_succ]
            repeat (first | (refine wpFirst_step _ (Or.inl ⟨by rfl, by (intro w hSw; (try dsimp only at hSw); go_simp; try with_reducible rfl)⟩) ?_; (try simp only [Act.put, List.setIfInBounds_toArray, List.set_cons_zero, List.set_cons_succ])) | (refine wpFirst_step _ (Or.inr ⟨by rfl, rfl⟩) ?_; (try simp only [Act.put, List.setIfInBounds_toArray, List.set_cons_zero, List.set_cons_succ])) | fail)
            refine wpFirst_nil ?_
            unfold wpHold
            have h5 := (((((H4.out.pull 2 _ rfl).setCell 0 (.int .i64 4)).setCell 1 (.int .i64 img)).setCell 2 (.int .i64 num)).setCell 3 (.int .i64 n)).drew
            have hk5 := (h5.pull 1 _ rfl).heap
            have y0 := cells_of hk5 0
            have y1 := cells_of hk5 1
            have y2 := cells_of hk5 2
            have y3 := cells_of hk5 3
            simp at y0 y1 y2 y3
            have hh := h5.heap
            have q0 := cells_of hh 0
            have q1 := cells_of hh 1
            have q2 := cells_of hh 2
            have q3 := cells_of hh 3
            simp at q0 q1 q2 q3
            have hcell2 := (h5.pull 2 _ rfl).row_owns.cells (g := g4) rfl 0 (.int .u8 bb) rfl
            have H5 := Lib.hid h5
            clear h5 hk5 hh
            go_wp2_with fail
            refine holdPost_normal ⟨y0, y1, y2, y3, hcell2⟩ ?_
            unfold wpHold
            go_wp2_with fail
            refine NoPanic.normal ?_
            go_wp2_with fail
            (try simp only [Exit.inBlock, Exit.then])
            refine bodyPost_ret (v := .tuple #[.agg #[.int .i64 4, .int .i64 img, .int .i64 num, .int .i64 n], .bool (bb == 1)]) (by simp [results, Tryz.results43, go_sem, q0, q1, q2, q3]) rfl ?_
            rw [HFA.out]
            exact ⟨I2, HS2.out, rfl, H5.out.drop.drop.drop⟩
          · obtain ⟨A4, c4, rfl⟩ := is_slice ho4
            have d1 : ((r.length : Int) == 1) = false := by rw [beq_eq_false_iff_ne]; omega
            have hbb : decide (r = [1]) = false := by
              rw [decide_eq_false_iff_not]
              intro e
              rw [e] at h1
              simp at h1
            rw [hbb] at hfa
            have HFA := Lib.hid hfa
            clear hfa hbb h1
            have H4 := Lib.hid h4
            clear h4 hb4 ho4 hg0 hr
            go_wp2_with fail
            refine wp_region_keep (fun w' => w'.cell? ⟨gk, 0, none⟩ = some (.int .i64 4) ∧ w'.cell? ⟨gk, 1, none⟩ = some (.int .i64 img) ∧ w'.cell? ⟨gk, 2, none⟩ = some (.int .i64 num) ∧ w'.cell? ⟨gk, 3, none⟩ = some (.int .i64 n)) [0, 1, 2, 3, 4, 5, 6, 7, 8, 9] [10] [11] (by kernel_rfl) (by kernel_rfl) (by (exact ⟨x0, x1, x2, x3⟩)) ?_
            simp only [pickL, List.getElem?_cons_zero, List.getElem?_cons_succ]
            repeat (first | (refine wpFirst_step _ (Or.inl ⟨by rfl, by (intro w hSw; (try dsimp only at hSw); go_simp; try with_reducible rfl)⟩) ?_; (try simp only [Act.put, List.setIfInBounds_toArray, List.set_cons_zero, List.set_cons_succ])) | (refine wpFirst_step _ (Or.inr ⟨by rfl, rfl⟩) ?_; (try simp only [Act.put, List.setIfInBounds_toArray, List.set_cons_zero, List.set_cons_succ])) | fail)
            refine wpFirst_nil ?_
            unfold wpHold
            have h5 := (((((H4.out.pull 2 _ rfl).setCell 0 (.int .i64 4)).setCell 1 (.int .i64 img)).setCell 2 (.int .i64 num)).setCell 3 (.int .i64 n)).drew
            have hk5 := (h5.pull 1 _ rfl).heap
            have y0 := cells_of hk5 0
            have y1 := cells_of hk5 1
            have y2 := cells_of hk5 2
            have y3 := cells_of hk5 3
            simp at y0 y1 y2 y3
            have hh := h5.heap
            have q0 := cells_of hh 0
            have q1 := cells_of hh 1
            have q2 := cells_of hh 2
            have q3 := cells_of hh 3
            simp at q0 q1 q2 q3
            have H5 := Lib.hid h5
            clear h5 hk5 hh
            go_wp2_with fail
            refine holdPost_normal ⟨y0, y1, y2, y3⟩ ?_
            unfold wpHold
            go_wp2_with fail
            refine NoPanic.normal ?_
            go_wp2_with fail
            (try simp only [Exit.inBlock, Exit.then])
            refine bodyPost_ret (v := .tuple #[.agg #[.int .i64 4, .int .i64 img, .int .i64 num, .int .i64 n], .bool false]) (by simp [results, Tryz.results43, go_sem, q0, q1, q2, q3]) rfl ?_
            rw [HFA.out]
            exact ⟨I2, HS2.out, rfl, H5.out.drop.drop.drop⟩
      · obtain rfl : j = cs.length := by omega
        have hfind : cs.find? (fun n => decide (snap ≤ n)) = none := by
          rw [List.find?_eq_none]
          intro n hn
          rw [List.take_length] at hall
          have := hall n hn
          simp; omega
        rw [hfind] at HA
        clear hfind hall
        go_upto_region 10 with fail
        refine at_head (by assumption) (by kernel_rfl) img num H2.out ?_
        intro y0 y1 y2 y3 y4 y5 y6 y7 y10 y11 y12 y13 y14 y15 y16 y17 y18 y19 y20 y21 y22 y23 y24 y25 y26 y27 y28 y29 y30 y31 y32 y33 y34 y35 y36 y37 y38 y39 y40 y41 y42 y43 y44 y45 y46 y47 y48 y49 y50 y51 y52 y53 y54 y55 y56 y57 y58 y59 y60 y61 y62 y63 y64 w9 h9
        have hh := h9.heap
        have z0 := cells_of hh 0
        have z1 := cells_of hh 1
        have z2 := cells_of hh 2
        have z3 := cells_of hh 3
        simp at z0 z1 z2 z3
        have H9 := Lib.hid h9
        clear h9 hh
        (try simp only [Exit.inBlock, Exit.then])
        refine bodyPost_ret (v := .tuple #[.agg #[.int .i64 4, .int .i64 img, .int .i64 num, .int .i64 0], .bool (decide (whyS S (dK img num 0) = 0))]) (by simp [results, Tryz.results43, go_sem, z0, z1, z2, z3]) rfl ?_
        rw [HA.out]
        exact ⟨I2, HS2.out, rfl, H9.out.drop⟩
  · have d0 : decide (0 < snap) = false := by simpa using h0
    have HA := Lib.hid (show atS S img num snap = (dK img num 0, decide (whyS S (dK img num 0) = 0)) by unfold atS; rw [if_neg h0])
    rw [hg] at H1
    clear HCS h0
    go_enter Tryz.func43, Tryz.ntmps43
    go_upto_region 10 with fail
    refine at_head (by assumption) (by kernel_rfl) img num H1.out ?_
    intro y0 y1 y2 y3 y4 y5 y6 y7 y10 y11 y12 y13 y14 y15 y16 y17 y18 y19 y20 y21 y22 y23 y24 y25 y26 y27 y28 y29 y30 y31 y32 y33 y34 y35 y36 y37 y38 y39 y40 y41 y42 y43 y44 y45 y46 y47 y48 y49 y50 y51 y52 y53 y54 y55 y56 y57 y58 y59 y60 y61 y62 y63 y64 w9 h9
    have hh := h9.heap
    have z0 := cells_of hh 0
    have z1 := cells_of hh 1
    have z2 := cells_of hh 2
    have z3 := cells_of hh 3
    simp at z0 z1 z2 z3
    have H9 := Lib.hid h9
    clear h9 hh
    (try simp only [Exit.inBlock, Exit.then])
    refine bodyPost_ret (v := .tuple #[.agg #[.int .i64 4, .int .i64 img, .int .i64 num, .int .i64 0], .bool (decide (whyS S (dK img num 0) = 0))]) (by simp [results, Tryz.results43, go_sem, z0, z1, z2, z3]) rfl ?_
    rw [HA.out]
    exact ⟨I, Hp.sub.refl _, rfl, H9.out.drop⟩
end
end Go.Proofs.YtbepmbcbcklmlaaGreat
