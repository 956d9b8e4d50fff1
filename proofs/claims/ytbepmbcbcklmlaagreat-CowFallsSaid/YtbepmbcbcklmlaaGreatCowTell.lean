/- Package cow: Read, There, Size, Copies. -/
import Derived.Test.YtbepmbcbcklmlaaGreatCowRead
set_option linter.unusedSimpArgs false
set_option linter.unusedVariables false
set_option linter.unusedSectionVars false
namespace Go.Proofs.YtbepmbcbcklmlaaGreat
open Go.RowKit
theorem cmay_false (S : Str) : cmayS S false ≠ 0 := by
  unfold cmayS
  split
  · decide
  · simp
section
variable {W w : World} {I : Hp} {l : List HP} {p : Nat} {S : Str}
set_option maxRecDepth 4000
set_option maxHeartbeats 4000000
theorem cthere_spec (img num snap : Int) {m : Nat} (h : St W I w (storeHP p S :: l)) (hk : Inv S m) :
    Calls Tryz.prog 25 #[.pointer (some ⟨p, 0, none⟩), .int .i64 img, .int .i64 num, .int .i64 snap] w (fun e w' => ∃ I', I.sub I' ∧ e = .returned (.tuple #[.bool (cthereS S img num snap).1, .int .i64 (cthereS S img num snap).2]) ∧ St W I' w' (storeHP p S :: l)) := by
  have hm := fun b => cmay_spec b h
  have HM := Lib.hid hm
  have H := Lib.hid h
  have HK := Lib.hid hk
  clear hm h hk
  cases g0 : objB img num with
  | false =>
    have hf : (objB img num && snapB snap) = false := by rw [g0] <;> simp
    have HX := Lib.hid (show cthereS S img num snap = (false, (cmayS S false)) by unfold cthereS; rw [hf, if_pos (cmay_false S)])
    have hm := HM.out false
    have hne : (cmayS S false != 0) = true := by simpa using cmay_false S
    obtain ⟨e0, he0⟩ : ∃ e0, cmayS S false = e0 := ⟨_, rfl⟩
    rw [he0] at hm hne HX
    have HMF := Lib.hid hm
    clear hm hf he0
    have hg0 := object_spec img num w
    rw [g0] at hg0
    have HG0 := Lib.hid hg0
    clear hg0
    go_enter Tryz.func25, Tryz.ntmps25
    go_wp2_with fail
    refine HG0.out.mono ?_
    rintro e w2 ⟨rfl, rfl⟩
    go_wp2_with fail
    refine HMF.out.mono ?_
    rintro e w2 ⟨rfl, rfl⟩
    go_wp2_with fail
    go_ret2
    rw [HX.out]
    exact ⟨I, Hp.sub.refl _, rfl, H.out⟩
  | true =>
    cases g1 : snapB snap with
    | false =>
      have hf : (objB img num && snapB snap) = false := by rw [g0, g1] <;> simp
      have HX := Lib.hid (show cthereS S img num snap = (false, (cmayS S false)) by unfold cthereS; rw [hf, if_pos (cmay_false S)])
      have hm := HM.out false
      have hne : (cmayS S false != 0) = true := by simpa using cmay_false S
      obtain ⟨e0, he0⟩ : ∃ e0, cmayS S false = e0 := ⟨_, rfl⟩
      rw [he0] at hm hne HX
      have HMF := Lib.hid hm
      clear hm hf he0
      have hg0 := object_spec img num w
      rw [g0] at hg0
      have HG0 := Lib.hid hg0
      clear hg0
      have hg1 := snaps_spec snap w
      rw [g1] at hg1
      have HG1 := Lib.hid hg1
      clear hg1
      go_enter Tryz.func25, Tryz.ntmps25
      go_wp2_with fail
      refine HG0.out.mono ?_
      rintro e w2 ⟨rfl, rfl⟩
      go_wp2_with fail
      refine HG1.out.mono ?_
      rintro e w2 ⟨rfl, rfl⟩
      go_wp2_with fail
      refine HMF.out.mono ?_
      rintro e w2 ⟨rfl, rfl⟩
      go_wp2_with fail
      go_ret2
      rw [HX.out]
      exact ⟨I, Hp.sub.refl _, rfl, H.out⟩
    | true =>
      have hf : (objB img num && snapB snap) = true := by rw [g0, g1] <;> rfl
      have hm := HM.out true
      obtain ⟨e0, he0⟩ : ∃ e0, cmayS S true = e0 := ⟨_, rfl⟩
      have HX := Lib.hid (show cthereS S img num snap = _ by unfold cthereS; rw [hf, he0])
      rw [he0] at hm
      have HMF := Lib.hid hm
      clear hm hf he0
      have hg0 := object_spec img num w
      rw [g0] at hg0
      have HG0 := Lib.hid hg0
      clear hg0
      have hg1 := snaps_spec snap w
      rw [g1] at hg1
      have HG1 := Lib.hid hg1
      clear hg1
      by_cases h0 : e0 = 0
      · subst h0
        have HX := Lib.hid (HX.out.trans (if_neg (by simp)))
        have ha := at_spec img num snap H.out HK.out
        obtain ⟨⟨⟨k0, k1, k2, k3⟩, bb⟩, hat⟩ : ∃ r, atS S img num snap = r := ⟨_, rfl⟩
        rw [hat] at ha HX
        simp only [K4.val] at ha
        have HA := Lib.hid ha
        clear ha hat
        go_enter Tryz.func25, Tryz.ntmps25
        go_wp2_with fail
        refine HG0.out.mono ?_
        rintro e w2 ⟨rfl, rfl⟩
        go_wp2_with fail
        refine HG1.out.mono ?_
        rintro e w2 ⟨rfl, rfl⟩
        go_wp2_with fail
        refine HMF.out.mono ?_
        rintro e w2 ⟨rfl, rfl⟩
        go_wp2_with fail
        refine HA.out.mono ?_
        rintro e w3 ⟨I3, hs3, rfl, h3⟩
        have H3 := Lib.hid (h3.alloc (.cells #[.int .i64 k0, .int .i64 k1, .int .i64 k2, .int .i64 k3] 81))
        clear h3
        go_wp2_with fail
        go_ret2
        rw [HX.out]
        exact ⟨I3, hs3, rfl, H3.out.drop⟩
      · have d0 : (e0 != 0) = true := by simpa using h0
        have HX2 := Lib.hid (HX.out.trans (if_pos h0))
        go_enter Tryz.func25, Tryz.ntmps25
        go_wp2_with fail
        refine HG0.out.mono ?_
        rintro e w2 ⟨rfl, rfl⟩
        go_wp2_with fail
        refine HG1.out.mono ?_
        rintro e w2 ⟨rfl, rfl⟩
        go_wp2_with fail
        refine HMF.out.mono ?_
        rintro e w2 ⟨rfl, rfl⟩
        go_wp2_with fail
        go_ret2
        rw [HX2.out]
        exact ⟨I, Hp.sub.refl _, rfl, H.out⟩
theorem csize_spec (img num snap : Int) {m : Nat} (h : St W I w (storeHP p S :: l)) (hk : Inv S m) :
    Calls Tryz.prog 62 #[.pointer (some ⟨p, 0, none⟩), .int .i64 img, .int .i64 num, .int .i64 snap] w (fun e w' => ∃ I', I.sub I' ∧ e = .returned (.tuple #[.int .i64 (csizeS S img num snap).1, .int .i64 (csizeS S img num snap).2]) ∧ St W I' w' (storeHP p S :: l)) := by
  have hm := fun b => cmay_spec b h
  have HM := Lib.hid hm
  have H := Lib.hid h
  have HK := Lib.hid hk
  clear hm h hk
  cases g0 : objB img num with
  | false =>
    have hf : (objB img num && snapB snap) = false := by rw [g0] <;> simp
    have HX := Lib.hid (show csizeS S img num snap = (0, (cmayS S false)) by unfold csizeS; rw [hf, if_pos (cmay_false S)])
    have hm := HM.out false
    have hne : (cmayS S false != 0) = true := by simpa using cmay_false S
    obtain ⟨e0, he0⟩ : ∃ e0, cmayS S false = e0 := ⟨_, rfl⟩
    rw [he0] at hm hne HX
    have HMF := Lib.hid hm
    clear hm hf he0
    have hg0 := object_spec img num w
    rw [g0] at hg0
    have HG0 := Lib.hid hg0
    clear hg0
    go_enter Tryz.func62, Tryz.ntmps62
    go_wp2_with fail
    refine HG0.out.mono ?_
    rintro e w2 ⟨rfl, rfl⟩
    go_wp2_with fail
    refine HMF.out.mono ?_
    rintro e w2 ⟨rfl, rfl⟩
    go_wp2_with fail
    go_ret2
    rw [HX.out]
    exact ⟨I, Hp.sub.refl _, rfl, H.out⟩
  | true =>
    cases g1 : snapB snap with
    | false =>
      have hf : (objB img num && snapB snap) = false := by rw [g0, g1] <;> simp
      have HX := Lib.hid (show csizeS S img num snap = (0, (cmayS S false)) by unfold csizeS; rw [hf, if_pos (cmay_false S)])
      have hm := HM.out false
      have hne : (cmayS S false != 0) = true := by simpa using cmay_false S
      obtain ⟨e0, he0⟩ : ∃ e0, cmayS S false = e0 := ⟨_, rfl⟩
      rw [he0] at hm hne HX
      have HMF := Lib.hid hm
      clear hm hf he0
      have hg0 := object_spec img num w
      rw [g0] at hg0
      have HG0 := Lib.hid hg0
      clear hg0
      have hg1 := snaps_spec snap w
      rw [g1] at hg1
      have HG1 := Lib.hid hg1
      clear hg1
      go_enter Tryz.func62, Tryz.ntmps62
      go_wp2_with fail
      refine HG0.out.mono ?_
      rintro e w2 ⟨rfl, rfl⟩
      go_wp2_with fail
      refine HG1.out.mono ?_
      rintro e w2 ⟨rfl, rfl⟩
      go_wp2_with fail
      refine HMF.out.mono ?_
      rintro e w2 ⟨rfl, rfl⟩
      go_wp2_with fail
      go_ret2
      rw [HX.out]
      exact ⟨I, Hp.sub.refl _, rfl, H.out⟩
    | true =>
      have hf : (objB img num && snapB snap) = true := by rw [g0, g1] <;> rfl
      have hm := HM.out true
      obtain ⟨e0, he0⟩ : ∃ e0, cmayS S true = e0 := ⟨_, rfl⟩
      have HX := Lib.hid (show csizeS S img num snap = _ by unfold csizeS; rw [hf, he0])
      rw [he0] at hm
      have HMF := Lib.hid hm
      clear hm hf he0
      have hg0 := object_spec img num w
      rw [g0] at hg0
      have HG0 := Lib.hid hg0
      clear hg0
      have hg1 := snaps_spec snap w
      rw [g1] at hg1
      have HG1 := Lib.hid hg1
      clear hg1
      by_cases h0 : e0 = 0
      · subst h0
        have HX := Lib.hid (HX.out.trans (if_neg (by simp)))
        have ha := at_spec img num snap H.out HK.out
        obtain ⟨⟨⟨k0, k1, k2, k3⟩, bb⟩, hat⟩ : ∃ r, atS S img num snap = r := ⟨_, rfl⟩
        rw [hat] at ha HX
        simp only [K4.val] at ha
        have HA := Lib.hid ha
        clear ha hat
        go_enter Tryz.func62, Tryz.ntmps62
        go_wp2_with fail
        refine HG0.out.mono ?_
        rintro e w2 ⟨rfl, rfl⟩
        go_wp2_with fail
        refine HG1.out.mono ?_
        rintro e w2 ⟨rfl, rfl⟩
        go_wp2_with fail
        refine HMF.out.mono ?_
        rintro e w2 ⟨rfl, rfl⟩
        go_wp2_with fail
        refine HA.out.mono ?_
        rintro e w3 ⟨I3, hs3, rfl, h3⟩
        obtain ⟨I4, hs4, hI4, h4⟩ := (h3.alloc (.cells #[.int .i64 k0, .int .i64 k1, .int .i64 k2, .int .i64 k3] 81)).freeze
        obtain ⟨x0, x1, x2, x3⟩ := imm_cells4 h4 hI4
        have hsz := size_of ⟨k0, k1, k2, k3⟩ h4
        simp only [K4.val] at hsz
        have HSZ := Lib.hid hsz
        have H4 := Lib.hid h4
        have HS4 := Lib.hid (hs3.trans hs4)
        clear h3 hs3 hs4 hI4 h4 hsz
        cases bb with
        | false =>
          clear x0 x1 x2 x3
          go_wp2_with fail
          go_ret2
          rw [HX.out]
          exact ⟨I4, HS4.out, rfl, H4.out⟩
        | true =>
          go_wp2_with fail
          refine HSZ.out.mono ?_
          rintro e w5 ⟨hb5, rfl⟩
          have H5 := Lib.hid (H4.out.keep hb5)
          clear hb5 x0 x1 x2 x3
          go_wp2_with fail
          go_ret2
          rw [HX.out]
          exact ⟨I4, HS4.out, rfl, H5.out⟩
      · have d0 : (e0 != 0) = true := by simpa using h0
        have HX2 := Lib.hid (HX.out.trans (if_pos h0))
        go_enter Tryz.func62, Tryz.ntmps62
        go_wp2_with fail
        refine HG0.out.mono ?_
        rintro e w2 ⟨rfl, rfl⟩
        go_wp2_with fail
        refine HG1.out.mono ?_
        rintro e w2 ⟨rfl, rfl⟩
        go_wp2_with fail
        refine HMF.out.mono ?_
        rintro e w2 ⟨rfl, rfl⟩
        go_wp2_with fail
        go_ret2
        rw [HX2.out]
        exact ⟨I, Hp.sub.refl _, rfl, H.out⟩
def ccopiesS (S : Str) (img num : Int) : List Int × Int := if cmayS S (objB img num) ≠ 0 then ([], cmayS S (objB img num)) else (copiesS S img num, 0)
theorem ccopies_spec (img num : Int) {m : Nat} (h : St W I w (storeHP p S :: l)) (hk : Inv S m) :
    Calls Tryz.prog 24 #[.pointer (some ⟨p, 0, none⟩), .int .i64 img, .int .i64 num] w (fun e w' => ∃ v I', I.sub I' ∧ e = .returned (.tuple #[v, .int .i64 (ccopiesS S img num).2]) ∧ IntsI I' v (ccopiesS S img num).1 ∧ St W I' w' (storeHP p S :: l)) := by
  have hm := fun b => cmay_spec b h
  have HM := Lib.hid hm
  have H := Lib.hid h
  have HK := Lib.hid hk
  clear hm h hk
  cases g0 : objB img num with
  | false =>
    have hf : (objB img num) = false := by rw [g0] <;> simp
    have HX := Lib.hid (show ccopiesS S img num = ([], (cmayS S false)) by unfold ccopiesS; rw [hf, if_pos (cmay_false S)])
    have hm := HM.out false
    have hne : (cmayS S false != 0) = true := by simpa using cmay_false S
    obtain ⟨e0, he0⟩ : ∃ e0, cmayS S false = e0 := ⟨_, rfl⟩
    rw [he0] at hm hne HX
    have HMF := Lib.hid hm
    clear hm hf he0
    have hg0 := object_spec img num w
    rw [g0] at hg0
    have HG0 := Lib.hid hg0
    clear hg0
    go_enter Tryz.func24, Tryz.ntmps24
    go_wp2_with fail
    refine HG0.out.mono ?_
    rintro e w2 ⟨rfl, rfl⟩
    go_wp2_with fail
    refine HMF.out.mono ?_
    rintro e w2 ⟨rfl, rfl⟩
    go_wp2_with fail
    go_ret2
    rw [HX.out]
    exact ⟨_, I, Hp.sub.refl _, rfl, ints_nil _, H.out⟩
  | true =>
    have hf : (objB img num) = true := by rw [g0] <;> rfl
    have hm := HM.out true
    obtain ⟨e0, he0⟩ : ∃ e0, cmayS S true = e0 := ⟨_, rfl⟩
    have HX := Lib.hid (show ccopiesS S img num = _ by unfold ccopiesS; rw [hf, he0])
    rw [he0] at hm
    have HMF := Lib.hid hm
    clear hm hf he0
    have hg0 := object_spec img num w
    rw [g0] at hg0
    have HG0 := Lib.hid hg0
    clear hg0
    by_cases h0 : e0 = 0
    · subst h0
      have HX := Lib.hid (HX.out.trans (if_neg (by simp)))
      have ha := copies_spec img num H.out HK.out
      have HA := Lib.hid ha
      clear ha
      go_enter Tryz.func24, Tryz.ntmps24
      go_wp2_with fail
      refine HG0.out.mono ?_
      rintro e w2 ⟨rfl, rfl⟩
      go_wp2_with fail
      refine HMF.out.mono ?_
      rintro e w2 ⟨rfl, rfl⟩
      go_wp2_with fail
      refine HA.out.mono ?_
      rintro e w3 ⟨v3, I3, hs3, rfl, hv3, h3⟩
      have HV := Lib.hid hv3
      obtain ⟨A3, c3, rfl, _⟩ := hv3
      have H3 := Lib.hid h3
      clear h3
      go_wp2_with fail
      go_ret2
      rw [HX.out]
      exact ⟨_, I3, hs3, rfl, HV.out, H3.out⟩
    · have d0 : (e0 != 0) = true := by simpa using h0
      have HX2 := Lib.hid (HX.out.trans (if_pos h0))
      go_enter Tryz.func24, Tryz.ntmps24
      go_wp2_with fail
      refine HG0.out.mono ?_
      rintro e w2 ⟨rfl, rfl⟩
      go_wp2_with fail
      refine HMF.out.mono ?_
      rintro e w2 ⟨rfl, rfl⟩
      go_wp2_with fail
      go_ret2
      rw [HX2.out]
      exact ⟨_, I, Hp.sub.refl _, rfl, ints_nil _, H.out⟩
theorem allS_small {m : Nat} (hk : Inv S m) (k : K4) : (allS S k).length ≤ 1000000 := by
  unfold allS readS
  split
  · split
    · simp
    · rename_i t hg
      split
      · simp
      · have h5 := (hk.seen _ (get_mem hg)).1
        simp only [List.length_take, List.length_drop] at h5 ⊢
        omega
  · simp
theorem byte_info : (Tryz.prog.info? 5).map (fun i => (i.zero, i.size, i.bytes)) = some (some (.int .u8 0), 1, 1) := by kernel_rfl
def zeroA (n : Nat) : Array Value := Array.replicate n (.int .u8 0)
theorem made_zero (n : Nat) : madeCells #[Value.int .u8 0] n = zeroA n := by
  unfold madeCells zeroA
  apply Array.ext
  · simp
  · intro i h1 h2
    simp [Nat.mod_one]
theorem make_zero (n : Nat) (hn : n ≤ 1000) (w : World) : (Instr.makeSlice 28 (.int .i64 (n : Int)) (.int .i64 (n : Int))).run Tryz.prog w = .ok (.slice (some ⟨w.heap.size, 0, none⟩) n n) (w.alloc (.cells (zeroA n) 5)) := by
  obtain ⟨i0, hi0, hz0, hz1, hz2⟩ := info_parts byte_info
  have h := run_makeSlice (P := Tryz.prog) w 28 5 i0 (.int .u8 0) Tryz.underlying28 hi0 hz0 .i64 .i64 n n (by omega) (by omega) (by rw [hz1]; simp; omega) (by rw [hz2]; omega) (by omega)
  rw [hz1, Int.toNat_natCast, Nat.mul_one, show (Value.int IntKind.u8 0).cells = #[.int .u8 0] from rfl, made_zero] at h
  exact h
theorem pad_copy {g N off n c : Nat} {a : Addr} {b : List Int} {lo : Nat} (h : St W I w (HP.pt g (.cells (zeroA N) 5) :: l)) (hn : b.length = n) (hlo : lo = min off n) (hs : ∀ j v, ((b.drop lo).map byteV)[j]? = some v → w.cell? (a.add j) = some v) (ty : TypeId) :
    ∃ w', (Builtin.copy_ #[28, 28] ty #[.slice (some ⟨g, 0, none⟩) N N, .slice (some a) (n - lo) c]).run Tryz.prog w = .ok (goInt (Nat.min (n - lo) N)) w' ∧ w'.heap.size = w.heap.size ∧
      St W I w' (HP.pt g (.cells ((padB b off N).map byteV).toArray 5) :: l) := by
  have hlen : (((b.drop lo).take N).map byteV).length = Nat.min (n - lo) N * 1 := by
    rw [List.length_map, List.length_take, List.length_drop, hn, Nat.mul_one]
    exact Nat.min_comm _ _
  obtain ⟨w', hr, hsz, h2⟩ := h.copy_run (P := Tryz.prog) (o := 0) (dLen := N) (dCap := N) (sLen := n - lo) (sCap := c) (a := a) (dT := 28) (sT := 28) (ty := ty) (cs := ((b.drop lo).take N).map byteV) Tryz.underlying28 (by kernel_rfl) rfl hlen
    (fun j v hv => by
      rw [List.getElem?_map, Option.map_eq_some_iff] at hv
      obtain ⟨x, hx, rfl⟩ := hv
      have hx2 : (b.drop lo)[j]? = some x := by
        rw [List.getElem?_take] at hx
        split at hx
        · exact hx
        · cases hx
      exact hs j (byteV x) (by rw [List.getElem?_map, hx2]; rfl))
    (by rw [hlen, Nat.mul_one]; simp [zeroA]; exact Nat.min_le_right _ _) (bytes_one _)
  refine ⟨w', hr, hsz, ?_⟩
  have e : ((zeroA N).toList.take 0 ++ ((b.drop lo).take N).map byteV ++ (zeroA N).toList.drop (0 + (((b.drop lo).take N).map byteV).length)) = (padB b off N).map byteV := by
    have e1 : (b.drop lo) = b.drop off := by
      rcases Nat.le_total off n with h | h
      · rw [hlo, Nat.min_eq_left h]
      · rw [hlo, Nat.min_eq_right h, List.drop_of_length_le (by omega), List.drop_of_length_le (by omega)]
    rw [e1]
    unfold padB zeroA
    rw [List.map_append, List.map_replicate, List.take_zero, List.nil_append, Nat.zero_add, List.length_map, List.length_take, List.length_drop, Array.toList_replicate, List.drop_replicate]
    have : N - min N (b.length - off) = N - (b.length - off) := by omega
    rw [this]
    rfl
  rw [e] at h2
  exact h2
theorem padB_len (b : List Int) (off n : Nat) : (padB b off n).length = n := by
  unfold padB
  rw [List.length_append, List.length_take, List.length_drop, List.length_replicate]
  omega
theorem pad_none {off n : Nat} : padB [] off n = List.replicate n 0 := by
  unfold padB
  simp
theorem pad_bytes {g N : Nat} {b : List Int} (hb : b.length = N) (hN : N ≤ 1000) (h : St W I w (HP.pt g (.cells (b.map byteV).toArray 5) :: l)) : ∃ I', I.sub I' ∧ BytesI I' (.slice (some ⟨g, 0, none⟩) N N) b ∧ St W I' w l := by
  obtain ⟨I', hs, hI, h2⟩ := h.freeze
  refine ⟨I', hs, ?_, h2⟩
  refine ⟨some ⟨g, 0, none⟩, N, by rw [hb], by simp, by omega, by unfold maxLen; omega, (fun e => by cases e), fun _ => ⟨g, 0, _, _, _, rfl, hI, fun i x hx => by simpa using hx⟩⟩
theorem cread_spec (img num snap off n : Int) {m : Nat} (h : St W I w (storeHP p S :: l)) (hk : Inv S m) :
    Calls Tryz.prog 14 #[.pointer (some ⟨p, 0, none⟩), .int .i64 img, .int .i64 num, .int .i64 snap, .int .i64 off, .int .i64 n] w (fun e w' => ∃ v I', I.sub I' ∧ e = .returned (.tuple #[v, .int .i64 (creadS S img num snap off n).2]) ∧ BytesI I' v (creadS S img num snap off n).1 ∧ St W I' w' (storeHP p S :: l)) := by
  have hm := fun b => cmay_spec b h
  have HM := Lib.hid hm
  have H := Lib.hid h
  have HK := Lib.hid hk
  clear hm h hk
  cases g0 : objB img num with
  | false =>
    have hf : (objB img num && snapB snap && withinB off n) = false := by rw [g0] <;> simp
    have HX := Lib.hid (show creadS S img num snap off n = ([], (cmayS S false)) by unfold creadS; rw [hf, if_pos (cmay_false S)])
    have hm := HM.out false
    have hne : (cmayS S false != 0) = true := by simpa using cmay_false S
    obtain ⟨e0, he0⟩ : ∃ e0, cmayS S false = e0 := ⟨_, rfl⟩
    rw [he0] at hm hne HX
    have HMF := Lib.hid hm
    clear hm hf he0
    have hg0 := object_spec img num w
    rw [g0] at hg0
    have HG0 := Lib.hid hg0
    clear hg0
    go_enter Tryz.func14, Tryz.ntmps14
    go_wp2_with fail
    refine HG0.out.mono ?_
    rintro e w2 ⟨rfl, rfl⟩
    go_wp2_with fail
    refine HMF.out.mono ?_
    rintro e w2 ⟨rfl, rfl⟩
    go_wp2_with fail
    go_ret2
    rw [HX.out]
    exact ⟨_, I, Hp.sub.refl _, rfl, bytes_nil _, H.out⟩
  | true =>
    cases g1 : snapB snap with
    | false =>
      have hf : (objB img num && snapB snap && withinB off n) = false := by rw [g0, g1] <;> simp
      have HX := Lib.hid (show creadS S img num snap off n = ([], (cmayS S false)) by unfold creadS; rw [hf, if_pos (cmay_false S)])
      have hm := HM.out false
      have hne : (cmayS S false != 0) = true := by simpa using cmay_false S
      obtain ⟨e0, he0⟩ : ∃ e0, cmayS S false = e0 := ⟨_, rfl⟩
      rw [he0] at hm hne HX
      have HMF := Lib.hid hm
      clear hm hf he0
      have hg0 := object_spec img num w
      rw [g0] at hg0
      have HG0 := Lib.hid hg0
      clear hg0
      have hg1 := snaps_spec snap w
      rw [g1] at hg1
      have HG1 := Lib.hid hg1
      clear hg1
      go_enter Tryz.func14, Tryz.ntmps14
      go_wp2_with fail
      refine HG0.out.mono ?_
      rintro e w2 ⟨rfl, rfl⟩
      go_wp2_with fail
      refine HG1.out.mono ?_
      rintro e w2 ⟨rfl, rfl⟩
      go_wp2_with fail
      refine HMF.out.mono ?_
      rintro e w2 ⟨rfl, rfl⟩
      go_wp2_with fail
      go_ret2
      rw [HX.out]
      exact ⟨_, I, Hp.sub.refl _, rfl, bytes_nil _, H.out⟩
    | true =>
      cases g2 : withinB off n with
      | false =>
        have hf : (objB img num && snapB snap && withinB off n) = false := by rw [g0, g1, g2] <;> simp
        have HX := Lib.hid (show creadS S img num snap off n = ([], (cmayS S false)) by unfold creadS; rw [hf, if_pos (cmay_false S)])
        have hm := HM.out false
        have hne : (cmayS S false != 0) = true := by simpa using cmay_false S
        obtain ⟨e0, he0⟩ : ∃ e0, cmayS S false = e0 := ⟨_, rfl⟩
        rw [he0] at hm hne HX
        have HMF := Lib.hid hm
        clear hm hf he0
        have hg0 := object_spec img num w
        rw [g0] at hg0
        have HG0 := Lib.hid hg0
        clear hg0
        have hg1 := snaps_spec snap w
        rw [g1] at hg1
        have HG1 := Lib.hid hg1
        clear hg1
        have hg2 := within_spec off n w
        rw [g2] at hg2
        have HG2 := Lib.hid hg2
        clear hg2
        go_enter Tryz.func14, Tryz.ntmps14
        go_wp2_with fail
        refine HG0.out.mono ?_
        rintro e w2 ⟨rfl, rfl⟩
        go_wp2_with fail
        refine HG1.out.mono ?_
        rintro e w2 ⟨rfl, rfl⟩
        go_wp2_with fail
        refine HG2.out.mono ?_
        rintro e w2 ⟨rfl, rfl⟩
        go_wp2_with fail
        refine HMF.out.mono ?_
        rintro e w2 ⟨rfl, rfl⟩
        go_wp2_with fail
        go_ret2
        rw [HX.out]
        exact ⟨_, I, Hp.sub.refl _, rfl, bytes_nil _, H.out⟩
      | true =>
        have hf : (objB img num && snapB snap && withinB off n) = true := by rw [g0, g1, g2] <;> rfl
        have hm := HM.out true
        obtain ⟨e0, he0⟩ : ∃ e0, cmayS S true = e0 := ⟨_, rfl⟩
        have HX := Lib.hid (show creadS S img num snap off n = _ by unfold creadS; rw [hf, he0])
        rw [he0] at hm
        have HMF := Lib.hid hm
        clear hm hf he0
        have hg0 := object_spec img num w
        rw [g0] at hg0
        have HG0 := Lib.hid hg0
        clear hg0
        have hg1 := snaps_spec snap w
        rw [g1] at hg1
        have HG1 := Lib.hid hg1
        clear hg1
        have hg2 := within_spec off n w
        rw [g2] at hg2
        have HG2 := Lib.hid hg2
        clear hg2
        by_cases h0 : e0 = 0
        · subst h0
          have HX := Lib.hid (HX.out.trans (if_neg (by simp)))
          unfold withinB at g2
          rw [decide_eq_true_eq] at g2
          obtain ⟨N, rfl⟩ : ∃ N : Nat, n = N := ⟨n.toNat, by omega⟩
          obtain ⟨o, rfl⟩ : ∃ o : Nat, off = o := ⟨off.toNat, by omega⟩
          have hmk := make_zero N (by omega)
          simp only [Int.toNat_natCast] at HX
          have ha := at_spec img num snap (H.out.alloc (.cells (zeroA N) 5) |>.pull 1 _ rfl) HK.out
          obtain ⟨⟨⟨k0, k1, k2, k3⟩, bb⟩, hat⟩ : ∃ r, atS S img num snap = r := ⟨_, rfl⟩
          rw [hat] at ha HX
          simp only [K4.val] at ha HX
          have HA := Lib.hid ha
          obtain ⟨g, hg⟩ : ∃ g, w.heap.size = g := ⟨_, rfl⟩
          rw [hg] at HA
          have HN := Lib.hid (show N ≤ 64 by omega)
          clear ha hat g2
          go_enter Tryz.func14, Tryz.ntmps14
          go_wp2_with fail
          refine HG0.out.mono ?_
          rintro e w2 ⟨rfl, rfl⟩
          go_wp2_with fail
          refine HG1.out.mono ?_
          rintro e w2 ⟨rfl, rfl⟩
          go_wp2_with fail
          refine HG2.out.mono ?_
          rintro e w2 ⟨rfl, rfl⟩
          go_wp2_with fail
          refine HMF.out.mono ?_
          rintro e w2 ⟨rfl, rfl⟩
          go_wp2_with fail
          refine HA.out.mono ?_
          rintro e w3 ⟨I3, hs3, rfl, h3⟩
          obtain ⟨I4, hs4, hI4, h4⟩ := (h3.alloc (.cells #[.int .i64 k0, .int .i64 k1, .int .i64 k2, .int .i64 k3] 81)).freeze
          obtain ⟨x0, x1, x2, x3⟩ := imm_cells4 h4 hI4
          have hal := all_spec ⟨k0, k1, k2, k3⟩ h4 HK.out
          have hasm := allS_small HK.out ⟨k0, k1, k2, k3⟩
          obtain ⟨bs, hbs⟩ : ∃ bs, allS S ⟨k0, k1, k2, k3⟩ = bs := ⟨_, rfl⟩
          rw [hbs] at hal hasm HX
          simp only [K4.val] at hal
          have HAL := Lib.hid hal
          have h4 := h4.pull 1 _ rfl
          have H4 := Lib.hid h4
          have HS4 := Lib.hid (hs3.trans hs4)
          clear h3 hs3 hs4 hI4 h4 hal hmk hbs
          cases bb with
          | false =>
            clear x0 x1 x2 x3
            have hz : (zeroA N) = ((padB [] o N).map byteV).toArray := by rw [pad_none]; simp [zeroA, byteV, List.map_replicate]
            have h5 := H4.out
            rw [hz] at h5
            obtain ⟨I5, hs5, hr5, h5⟩ := pad_bytes (padB_len _ _ _) (by have := HN.out; omega) h5
            have H5 := Lib.hid h5
            have HS5 := Lib.hid (HS4.out.trans hs5)
            have HR5 := Lib.hid hr5
            clear h5 hs5 hr5 hz
            go_wp2_with fail
            go_ret2
            rw [HX.out]
            exact ⟨_, I5, HS5.out, rfl, HR5.out, H5.out⟩
          | true =>
            go_wp2_with fail
            refine HAL.out.mono ?_
            rintro e w5 ⟨hb5, v5, rfl, ho5⟩
            have h5 := (H4.out.keep hb5)
            rcases ho5.2 with ⟨rfl, e0⟩ | ⟨g5, cap, cur, rfl, hb, hgx, hnc, hcm, hcs, ht⟩
            · have hbs0 : bs = [] := List.eq_nil_of_length_eq_zero e0
              subst hbs0
              have hmin : min (o : Int) (0 : Int) = 0 := by omega
              have hr6 := run_copy_none w5 28 28 3 5 (some ⟨g, 0, none⟩) none N N 0 0 Tryz.underlying28 (by kernel_rfl) (Nat.zero_min _)
              have hz : (zeroA N) = ((padB [] o N).map byteV).toArray := by rw [pad_none]; simp [zeroA, byteV, List.map_replicate]
              rw [hz] at h5
              obtain ⟨I6, hs6, hr7, h6⟩ := pad_bytes (padB_len _ _ _) (by have := HN.out; omega) h5
              have H6 := Lib.hid h6
              have HS6 := Lib.hid (HS4.out.trans hs6)
              have HR7 := Lib.hid hr7
              clear h5 hs6 hr7 hz h6 hb5 ho5 x0 x1 x2 x3
              go_wp2_with fail
              go_ret2
              rw [HX.out]
              exact ⟨_, I6, HS6.out, rfl, HR7.out, H6.out⟩
            · have hcl := fun j u hu => ho5.cells (g := g5) rfl j u hu
              obtain ⟨n, hn⟩ : ∃ n, bs.length = n := ⟨_, rfl⟩
              obtain ⟨lo, hlo⟩ : ∃ lo, lo = min o n := ⟨_, rfl⟩
              have hmin : min (o : Int) (n : Int) = (lo : Int) := by omega
              rw [hn] at hnc
              rw [hn]
              have hlo0 : (0 : Int) ≤ (lo : Int) := by omega
              have hlon : (lo : Int) ≤ (n : Int) := by omega
              have hlon2 : lo ≤ n := by omega
              have HLO := Lib.hid hlo
              have hcl2 : ∀ j v, ((bs.drop lo).map byteV)[j]? = some v → w5.cell? ⟨g5, lo + j, none⟩ = some v := fun j v hv => by
                have := hcl (lo + j) v (by
                  rw [List.getElem?_map, List.getElem?_drop] at hv
                  rw [List.getElem?_map]
                  exact hv)
                rw [add_plain, Nat.zero_add] at this
                exact this
              by_cases hco : cap = lo
              · obtain rfl : n = lo := by omega
                subst hco
                obtain ⟨w6, hr6, hsz6, h6⟩ := pad_copy (c := 0) (a := ⟨g5, 0, none⟩) h5 hn HLO.out (fun j v hv => by rw [List.drop_of_length_le (by omega)] at hv; simp at hv) 3
                rw [Nat.sub_self] at hr6
                obtain ⟨I7, hs7, hr7, h7⟩ := pad_bytes (padB_len _ _ _) (by have := HN.out; omega) h6
                have HR6 := Lib.hid hr6
                have H7 := Lib.hid h7
                have HS7 := Lib.hid (HS4.out.trans hs7)
                have HR7 := Lib.hid hr7
                clear h5 h6 h7 hs7 hr6 hr7 hb5 ho5 hcl hcl2 hlo HLO x0 x1 x2 x3
                have hr6 := HR6.out
                go_wp2_with fail
                go_ret2
                rw [HX.out]
                exact ⟨_, I7, HS7.out, rfl, HR7.out, H7.out⟩
              · obtain ⟨w6, hr6, hsz6, h6⟩ := pad_copy (c := cap - lo) (a := ⟨g5, lo, none⟩) h5 hn HLO.out (fun j v hv => by rw [add_plain]; exact hcl2 j v hv) 3
                obtain ⟨I7, hs7, hr7, h7⟩ := pad_bytes (padB_len _ _ _) (by have := HN.out; omega) h6
                have HR6 := Lib.hid hr6
                have H7 := Lib.hid h7
                have HS7 := Lib.hid (HS4.out.trans hs7)
                have HR7 := Lib.hid hr7
                clear h5 h6 h7 hs7 hr6 hr7 hb5 ho5 hcl hcl2 hlo HLO x0 x1 x2 x3
                have hr6 := HR6.out
                go_wp2_with fail
                go_ret2
                rw [HX.out]
                exact ⟨_, I7, HS7.out, rfl, HR7.out, H7.out⟩
        · have d0 : (e0 != 0) = true := by simpa using h0
          have HX2 := Lib.hid (HX.out.trans (if_pos h0))
          go_enter Tryz.func14, Tryz.ntmps14
          go_wp2_with fail
          refine HG0.out.mono ?_
          rintro e w2 ⟨rfl, rfl⟩
          go_wp2_with fail
          refine HG1.out.mono ?_
          rintro e w2 ⟨rfl, rfl⟩
          go_wp2_with fail
          refine HG2.out.mono ?_
          rintro e w2 ⟨rfl, rfl⟩
          go_wp2_with fail
          refine HMF.out.mono ?_
          rintro e w2 ⟨rfl, rfl⟩
          go_wp2_with fail
          go_ret2
          rw [HX2.out]
          exact ⟨_, I, Hp.sub.refl _, rfl, bytes_nil _, H.out⟩
end
end Go.Proofs.YtbepmbcbcklmlaaGreat
