/- The lock's functions. -/
import Derived.Test.YtnokhjhhadnckaaGet
import Derived.Test.YtnokhjhhadnckaaOne
set_option linter.unusedSimpArgs false
set_option linter.unusedVariables false
set_option linter.unusedSectionVars false
namespace Go.Proofs.Ytnokhjhhadnckaa
open Go.RowKit
def kL : K4 := ⟨5, 0, 0, 0⟩
def nmO : ByteArray := ⟨#[111]⟩
def lmayS (S : Str) (who : Int) : Int := if S.on = false then 7 else if who < 1 ∨ 1073741824 < who then 1 else 0
/-- The number in an attribute: none is 0. -/
def numV (b : List Int) : Int := if b.length < 8 then 0 else wrap64 (getB (b.take 8))
def whoS (S : Str) : Int × Int := if S.on = false then (0, 7) else (numV (attrS S kL nmO).1, 0)
/-- An attribute is kept: the object is made first, if there is none. -/
def keepS (S : Str) (K : K4) (nm : ByteArray) (b : List Int) : Int × Str :=
  if whyS S K ≠ 0 ∧ (makeS S K).1 ≠ 0 then makeS S K
  else if (setS (if whyS S K ≠ 0 then (makeS S K).2 else S) K nm b).1 ≠ 0 then setS (if whyS S K ≠ 0 then (makeS S K).2 else S) K nm b
  else barrierS (setS (if whyS S K ≠ 0 then (makeS S K).2 else S) K nm b).2
def brkS (S : Str) (who : Int) : Int × Str := if lmayS S who ≠ 0 then (lmayS S who, S) else keepS S kL nmO (putB who 8)
def takeS (S : Str) (who : Int) : Int × Str := if lmayS S who ≠ 0 then (lmayS S who, S) else if (whoS S).1 ≠ 0 ∧ (whoS S).1 ≠ who then (8, S) else brkS S who
def gbackS (S : Str) (who : Int) : Int × Str := if lmayS S who ≠ 0 then (lmayS S who, S) else if (whoS S).1 ≠ who then (8, S) else keepS S kL nmO []
theorem keepS_keeps {S : Str} {K : K4} {nm : ByteArray} {b : List Int} {m : Nat} (h : Keeps S (m + 4)) : Keeps (keepS S K nm b).2 m := by
  have h1 : Keeps (makeS S K).2 (m + 2) := makeS_keeps h
  have h2 : Keeps (if whyS S K ≠ 0 then (makeS S K).2 else S) (m + 2) := by
    split
    · exact h1
    · exact h.fewer (by omega)
  have h3 := setS_keeps (k := K) (nm := nm) (v := b) h2
  unfold keepS
  generalize (if whyS S K ≠ 0 then (makeS S K).2 else S) = S1 at h2 h3 ⊢
  split
  · exact h1.fewer (by omega)
  · split
    · exact h3
    · exact barrierS_keeps h3
section
variable {W w : World} {I : Hp} {l : List HP} {p : Nat} {S : Str}
set_option maxRecDepth 4000
set_option maxHeartbeats 4000000
theorem lown_spec (w : World) : Calls Try.prog 80 #[] w fun e w' => e = .returned (.agg #[.int .i64 5, .int .i64 0, .int .i64 0, .int .i64 0]) ∧ Below w.heap.size w w' := by
  go_enter Try.func80, Try.ntmps80
  go_wp2
  exact bodyPost_ret (v := .agg #[.int .i64 5, .int .i64 0, .int .i64 0, .int .i64 0]) (by simp [results, Try.results80, go_sem]) rfl ⟨rfl, below_alloc _ _⟩
theorem lmay_spec (who : Int) (h : St W I w (storeHP p S :: l)) : Calls Try.prog 76 #[.pointer (some ⟨p, 0, none⟩), .int .i64 who] w fun e w' => e = .returned (.int .i64 (lmayS S who)) ∧ w = w' := by
  have H := Lib.hid h
  clear h
  unfold lmayS
  cases ho : S.on with
  | false =>
    go_enter Try.func76, Try.ntmps76
    go_wp2_with fail
    refine (on_spec H.out).mono ?_
    rw [ho]
    rintro e w1 ⟨rfl, rfl⟩
    go_wp2_with fail
    go_ret
    exact ⟨rfl, rfl⟩
  | true =>
    by_cases h1 : who < 1
    · have hr : (if who < 1 ∨ 1073741824 < who then (1 : Int) else 0) = 1 := if_pos (.inl h1)
      have HR := Lib.hid hr
      clear hr
      go_enter Try.func76, Try.ntmps76
      go_wp2_with fail
      refine (on_spec H.out).mono ?_
      rw [ho]
      rintro e w1 ⟨rfl, rfl⟩
      go_wp2_with fail
      go_ret
      exact ⟨by simp [HR.out], rfl⟩
    · by_cases h2 : 1073741824 < who
      · have hr : (if who < 1 ∨ 1073741824 < who then (1 : Int) else 0) = 1 := if_pos (.inr h2)
        have HR := Lib.hid hr
        clear hr
        go_enter Try.func76, Try.ntmps76
        go_wp2_with fail
        refine (on_spec H.out).mono ?_
        rw [ho]
        rintro e w1 ⟨rfl, rfl⟩
        go_wp2_with fail
        go_ret
        exact ⟨by simp [HR.out], rfl⟩
      · have hr : (if who < 1 ∨ 1073741824 < who then (1 : Int) else 0) = 0 := if_neg (by omega)
        have HR := Lib.hid hr
        clear hr
        go_enter Try.func76, Try.ntmps76
        go_wp2_with fail
        refine (on_spec H.out).mono ?_
        rw [ho]
        rintro e w1 ⟨rfl, rfl⟩
        go_wp2_with fail
        go_ret
        exact ⟨by simp [HR.out], rfl⟩
theorem getnum_spec (v : Value) (b : List Int) (w : World) (hs : SliceSrc w 1 v b.length (b.map byteV)) (hb : ∀ x ∈ b, isByte x) (hbl : b.length ≤ 1000000) :
    Calls Try.prog 81 #[v, .int .i64 0, .int .i64 8] w fun e w' => ∃ n ok, e = .returned (.tuple #[.int .u64 n, .bool ok]) ∧ IntKind.i64.wrap n = numV b ∧ w = w' := by
  by_cases h8 : b.length < 8
  · obtain ⟨A, c, rfl, hsrc, _⟩ := hs
    have h4 : decide (((b.length : Nat) : Int) < 8) = true := by rw [decide_eq_true_eq]; omega
    have hbn : (b.length : Int) < 8 := by omega
    have HN := Lib.hid (show numV b = 0 by simp [numV, h8])
    clear hsrc
    go_enter Try.func81, Try.ntmps81
    go_wp2_with fail
    go_ret2
    exact ⟨0, false, rfl, by rw [HN.out]; rfl, rfl⟩
  · have hc := get_ok v b 0 8 w hs hb (by decide) (by decide) (by omega) hbl
    refine hc.mono ?_
    rintro e w' ⟨rfl, rfl⟩
    refine ⟨_, _, rfl, ?_, rfl⟩
    rw [numV, if_neg h8, List.drop_zero, wrap_eq]
theorem who_spec {m : Nat} (h : St W I w (storeHP p S :: l)) (hk : Inv S m) (hb : ∀ x ∈ (attrS S kL nmO).1, isByte x) (hbl : (attrS S kL nmO).1.length ≤ 1000000) :
    Calls Try.prog 43 #[.pointer (some ⟨p, 0, none⟩)] w fun e w' => e = .returned (.tuple #[.int .i64 (whoS S).1, .int .i64 (whoS S).2]) ∧ Below w.heap.size w w' := by
  have H := Lib.hid h
  have HK := Lib.hid hk
  have HB := Lib.hid hb
  clear h hk hb
  cases ho : S.on with
  | false =>
    have hm : lmayS S 1 = 7 := by simp [lmayS, ho]
    have HW := Lib.hid (show whoS S = (0, 7) by simp [whoS, ho])
    go_enter Try.func43, Try.ntmps43
    go_wp2_with fail
    refine (lmay_spec 1 H.out).mono ?_
    rw [hm]
    rintro e w1 ⟨rfl, rfl⟩
    go_wp2_with fail
    go_ret2
    rw [HW.out]
    exact ⟨rfl, Below.refl _ _⟩
  | true =>
    have hm : lmayS S 1 = 0 := by simp [lmayS, ho]
    have HW := Lib.hid (show whoS S = (numV (attrS S kL nmO).1, 0) by simp [whoS, ho])
    go_enter Try.func43, Try.ntmps43
    go_wp2_with fail
    refine (lmay_spec 1 H.out).mono ?_
    rw [hm]
    rintro e w1 ⟨rfl, rfl⟩
    go_wp2_with fail
    refine (lown_spec w).mono ?_
    rintro e w1 ⟨rfl, hb1⟩
    have HB1 := Lib.hid hb1
    have H1 := Lib.hid (H.out.keep hb1)
    clear hb1
    go_wp2_with fail
    have hc := attr_spec kL nmO H1.out HK.out
    simp only [K4.val, kL] at hc
    refine hc.mono ?_
    clear hc
    rintro e w2 ⟨hb2, v2, rfl, ho2⟩
    have hsrc := SliceSrc.of_owns ho2 (bytes_one (attrS S kL nmO).1)
    obtain ⟨A2, c2, rfl⟩ := is_slice ho2
    have HS := Lib.hid hsrc
    have HB2 := Lib.hid (HB1.out.trans (hb2.mono HB1.out.size))
    clear hsrc hb2 ho2
    go_wp2_with fail
    refine (getnum_spec _ (attrS S kL nmO).1 w2 HS.out HB.out hbl).mono ?_
    rintro e w3 ⟨n, ok, rfl, hn, rfl⟩
    go_wp2_with fail
    go_ret2
    rw [HW.out]
    exact ⟨rfl, HB2.out⟩
theorem give_spec (bv : Value) (b : List Int) {m : Nat} (h : St W I w (storeHP p S :: l)) (hk : Keeps S (m + 4)) (hs : BytesI I bv b) (hbl : b.length ≤ 1000000)
    (hnf : (setS (if whyS S kL ≠ 0 then (makeS S kL).2 else S) kL nmO b).1 ≠ 6) :
    Calls Try.prog 77 #[.pointer (some ⟨p, 0, none⟩), bv] w fun e w' => ∃ I', I.sub I' ∧ e = .returned (.int .i64 (keepS S kL nmO b).1) ∧ St W I' w' (storeHP p (keepS S kL nmO b).2 :: l) := by
  have H := Lib.hid h
  have HK := Lib.hid hk
  have HNF := Lib.hid hnf
  have HBS := Lib.hid hs
  obtain ⟨Ab, cb, rfl, _⟩ := hs
  clear h hk hnf
  go_enter Try.func77, Try.ntmps77
  go_wp2_with fail
  refine (lown_spec w).mono ?_
  rintro e w1 ⟨rfl, hb1⟩
  have HB1 := Lib.hid hb1
  have H1 := Lib.hid (H.out.keep hb1)
  clear hb1
  go_wp2_with fail
  have hc := size_of kL H1.out
  simp only [K4.val, kL] at hc
  refine hc.mono ?_
  clear hc
  rintro e w2 ⟨hb2, rfl⟩
  have HB2 := Lib.hid (HB1.out.trans (hb2.mono HB1.out.size))
  have H2 := Lib.hid (H1.out.keep hb2)
  clear hb2
  by_cases hw : whyS S kL = 0
  · have hw2 : whyS S ⟨5, 0, 0, 0⟩ = 0 := hw
    rw [hw2]
    obtain ⟨y, S2, hset⟩ : ∃ y S2, setS S kL nmO b = (y, S2) := ⟨_, _, rfl⟩
    have hks := setS_keeps (k := kL) (nm := nmO) (v := b) (HK.out.fewer (show m + 2 ≤ m + 4 by omega))
    have hy6 : y ≠ 6 := by have := HNF.out; rw [if_neg (by simp [hw]), hset] at this; exact this
    have hg : keepS S kL nmO b = if y ≠ 0 then (y, S2) else barrierS S2 := by
      unfold keepS
      rw [if_neg (by simp [hw]), if_neg (by simp [hw] : ¬ whyS S kL ≠ 0), hset]
    rw [hset] at hks
    have HG := Lib.hid hg
    have HKS := Lib.hid hks
    have HW := Lib.hid hw
    have HSET := Lib.hid hset
    have hb6 : (y == 6) = false := by simpa using hy6
    clear hw hw2 hg hks hset hy6
    go_wp2_with fail
    refine (lown_spec w2).mono ?_
    rintro e w3 ⟨rfl, hb3⟩
    have HB3 := Lib.hid (HB2.out.trans (hb3.mono HB2.out.size))
    have H3 := Lib.hid (H2.out.keep hb3)
    clear hb3
    go_wp2_with fail
    have hc := set_spec kL nmO _ b H3.out (HK.out.fewer (Nat.le_refl _)) (bytes_src H3.out HBS.out) (by omega)
    rw [HSET.out] at hc
    simp only [K4.val, kL, nmO] at hc
    refine hc.mono ?_
    clear hc
    rintro e w4 ⟨I4, hs4, rfl, h4⟩
    have H4 := Lib.hid h4
    have HS4 := Lib.hid hs4
    clear h4 hs4
    by_cases hy : y = 0
    · subst hy
      rw [if_neg (by simp)] at HG
      clear hb6
      go_wp2_with fail
      refine (barrier_spec H4.out HKS.out).mono ?_
      rintro e w5 ⟨I5, hs5, rfl, h5⟩
      have H5 := Lib.hid h5
      have HS5 := Lib.hid hs5
      clear h5 hs5
      go_wp2_with fail
      go_ret
      rw [HG.out]
      exact ⟨I5, HS4.out.trans HS5.out, rfl, H5.out⟩
    · rw [if_pos hy] at HG
      have hb0 : (y != 0) = true := by simpa using hy
      clear hy
      go_wp2_with fail
      go_ret
      rw [HG.out]
      exact ⟨I4, HS4.out, rfl, H4.out⟩
  · have hwb : (whyS S ⟨5, 0, 0, 0⟩ != 0) = true := by
      have : whyS S ⟨5, 0, 0, 0⟩ ≠ 0 := hw
      simpa using this
    obtain ⟨z, S1, hmk⟩ : ∃ z S1, makeS S kL = (z, S1) := ⟨_, _, rfl⟩
    obtain ⟨y, S2, hset⟩ : ∃ y S2, setS S1 kL nmO b = (y, S2) := ⟨_, _, rfl⟩
    have hkm : Keeps (makeS S kL).2 (m + 2) := makeS_keeps HK.out
    rw [hmk] at hkm
    have hks := setS_keeps (k := kL) (nm := nmO) (v := b) hkm
    have hy6 : y ≠ 6 := by have := HNF.out; rw [if_pos hw, hmk, hset] at this; exact this
    have hg : keepS S kL nmO b = if z ≠ 0 then (z, S1) else if y ≠ 0 then (y, S2) else barrierS S2 := by
      unfold keepS
      rw [if_pos hw, hmk, hset]
      by_cases hz : z = 0
      · subst hz
        rw [if_neg (by simp)]
        rfl
      · rw [if_pos ⟨hw, hz⟩, if_pos hz]
    rw [hset] at hks
    have HG := Lib.hid hg
    have HKM := Lib.hid hkm
    have HKS := Lib.hid hks
    have HSET := Lib.hid hset
    have HMK := Lib.hid hmk
    have hb6 : (y == 6) = false := by simpa using hy6
    clear hw hg hkm hks hset hmk hy6
    go_wp2_with fail
    refine (lown_spec w2).mono ?_
    rintro e w3 ⟨rfl, hb3⟩
    have HB3 := Lib.hid (HB2.out.trans (hb3.mono HB2.out.size))
    have H3 := Lib.hid (H2.out.keep hb3)
    clear hb3
    go_wp2_with fail
    have hc := make_spec kL H3.out HK.out
    rw [HMK.out] at hc
    simp only [K4.val, kL] at hc
    refine hc.mono ?_
    clear hc
    rintro e w4 ⟨I4, hs4, rfl, h4⟩
    have H4 := Lib.hid h4
    have HS4 := Lib.hid hs4
    clear h4 hs4
    by_cases hz : z = 0
    · subst hz
      rw [if_neg (by simp)] at HG
      go_wp2_with fail
      refine (lown_spec w4).mono ?_
      rintro e w5 ⟨rfl, hb5⟩
      have HB5 := Lib.hid hb5
      have H5 := Lib.hid (H4.out.keep hb5)
      clear hb5
      go_wp2_with fail
      have hc := set_spec kL nmO _ b H5.out HKM.out (bytes_src H5.out ((bytesIP _ _).mono HS4.out HBS.out)) (by omega)
      rw [HSET.out] at hc
      simp only [K4.val, kL, nmO] at hc
      refine hc.mono ?_
      clear hc
      rintro e w6 ⟨I6, hs6, rfl, h6⟩
      have H6 := Lib.hid h6
      have HS6 := Lib.hid hs6
      clear h6 hs6
      by_cases hy : y = 0
      · subst hy
        rw [if_neg (by simp)] at HG
        clear hb6
        go_wp2_with fail
        refine (barrier_spec H6.out HKS.out).mono ?_
        rintro e w7 ⟨I7, hs7, rfl, h7⟩
        have H7 := Lib.hid h7
        have HS7 := Lib.hid hs7
        clear h7 hs7
        go_wp2_with fail
        go_ret
        rw [HG.out]
        exact ⟨I7, (HS4.out.trans HS6.out).trans HS7.out, rfl, H7.out⟩
      · rw [if_pos hy] at HG
        have hb0 : (y != 0) = true := by simpa using hy
        clear hy
        go_wp2_with fail
        go_ret
        rw [HG.out]
        exact ⟨I6, HS4.out.trans HS6.out, rfl, H6.out⟩
    · rw [if_pos hz] at HG
      have hz0 : (z != 0) = true := by simpa using hz
      clear hz
      go_wp2_with fail
      go_ret
      rw [HG.out]
      exact ⟨I4, HS4.out, rfl, H4.out⟩
theorem brk_spec (who : Int) {m : Nat} (h : St W I w (storeHP p S :: l)) (hk : Keeps S (m + 4)) (hnf : (setS (if whyS S kL ≠ 0 then (makeS S kL).2 else S) kL nmO (putB who 8)).1 ≠ 6) :
    Calls Try.prog 40 #[.pointer (some ⟨p, 0, none⟩), .int .i64 who] w fun e w' => ∃ I', I.sub I' ∧ e = .returned (.int .i64 (brkS S who).1) ∧ St W I' w' (storeHP p (brkS S who).2 :: l) := by
  have H := Lib.hid h
  have HK := Lib.hid hk
  have HNF := Lib.hid hnf
  clear h hk hnf
  by_cases hm : lmayS S who = 0
  · have HG := Lib.hid (show brkS S who = keepS S kL nmO (putB who 8) by simp [brkS, hm])
    have hw : 1 ≤ who ∧ who ≤ 1073741824 := by
      unfold lmayS at hm
      split at hm
      · cases hm
      · split at hm
        · cases hm
        · omega
    have hw1 := hw.1
    have hw2 := hw.2
    have HM := Lib.hid hm
    clear hm hw
    go_enter Try.func40, Try.ntmps40
    go_wp2_with fail
    refine (lmay_spec who H.out).mono ?_
    rw [HM.out]
    rintro e w1 ⟨rfl, rfl⟩
    go_wp2_with fail
    have hput := put_spec (.slice none 0 0) [] who 8 w ⟨none, 0, rfl, ⟨rfl, fun h => absurd h (by decide), fun u hu => by cases hu⟩, fun _ => rfl⟩ (by omega) (by omega) (by decide) (by decide) (by decide)
    rw [List.nil_append] at hput
    refine hput.mono ?_
    rintro e w2 ⟨v2, rfl, hb2, ho2⟩
    obtain ⟨A2, c2, rfl⟩ := is_slice ho2
    obtain ⟨I2, hI2, hB2, h3⟩ := own_at_call H.out hb2 ho2
    have H3 := Lib.hid h3
    have HI2 := Lib.hid hI2
    have HB2 := Lib.hid hB2
    clear hput hb2 ho2 h3 hI2 hB2
    go_wp2_with fail
    refine (give_spec _ (putB who 8) H3.out HK.out HB2.out (by rw [putB_length]; decide) HNF.out).mono ?_
    rintro e w4 ⟨I4, hs4, rfl, h4⟩
    have H4 := Lib.hid h4
    have HS4 := Lib.hid hs4
    clear h4 hs4
    go_wp2_with fail
    go_ret
    rw [HG.out]
    exact ⟨I4, HI2.out.trans HS4.out, rfl, H4.out⟩
  · have HG := Lib.hid (show brkS S who = (lmayS S who, S) by simp [brkS, hm])
    have hm0 : (lmayS S who != 0) = true := by simpa using hm
    clear hm
    go_enter Try.func40, Try.ntmps40
    go_wp2_with fail
    refine (lmay_spec who H.out).mono ?_
    rintro e w1 ⟨rfl, rfl⟩
    go_wp2_with fail
    go_ret
    rw [HG.out]
    exact ⟨I, Hp.sub.refl _, rfl, H.out⟩
theorem take_spec (who : Int) {m : Nat} (h : St W I w (storeHP p S :: l)) (hk : Keeps S (m + 4)) (hb : ∀ x ∈ (attrS S kL nmO).1, isByte x) (hbl : (attrS S kL nmO).1.length ≤ 1000000) (hnf : (setS (if whyS S kL ≠ 0 then (makeS S kL).2 else S) kL nmO (putB who 8)).1 ≠ 6) :
    Calls Try.prog 37 #[.pointer (some ⟨p, 0, none⟩), .int .i64 who] w fun e w' => ∃ I', I.sub I' ∧ e = .returned (.int .i64 (takeS S who).1) ∧ St W I' w' (storeHP p (takeS S who).2 :: l) := by
  have H := Lib.hid h
  have HK := Lib.hid hk
  have HNF := Lib.hid hnf
  have HB := Lib.hid hb
  clear h hk hnf hb
  by_cases hm : lmayS S who = 0
  · have HM := Lib.hid hm
    go_enter Try.func37, Try.ntmps37
    have ht0 : takeS S who = if (whoS S).1 ≠ 0 ∧ (whoS S).1 ≠ who then (8, S) else brkS S who := by simp [takeS, hm]
    obtain ⟨n, hn⟩ : ∃ n, (whoS S).1 = n := ⟨_, rfl⟩
    rw [hn] at ht0
    have hwc := who_spec H.out HK.out.inv HB.out hbl
    rw [hn] at hwc
    have HWC := Lib.hid hwc
    have HT0 := Lib.hid ht0
    clear hm hn hwc ht0
    have hcases : (n ≠ 0 ∧ n ≠ who) ∨ n = 0 ∨ (n ≠ 0 ∧ n = who) := by
      by_cases h0 : n = 0
      · exact .inr (.inl h0)
      · by_cases h1 : n = who
        · exact .inr (.inr ⟨h0, h1⟩)
        · exact .inl ⟨h0, h1⟩
    rcases hcases with ⟨h0, h1⟩ | h0 | ⟨h0, h1⟩
    · have HG := Lib.hid (HT0.out.trans (if_pos ⟨h0, h1⟩))
      have hb0 : (n != 0) = true := by simpa using h0
      have hb1 : (n != who) = true := by simpa using h1
      clear h0 h1
      go_wp2_with fail
      refine (lmay_spec who H.out).mono ?_
      rw [HM.out]
      rintro e w1 ⟨rfl, rfl⟩
      go_wp2_with fail
      refine HWC.out.mono ?_
      rintro e w2 ⟨rfl, hb2⟩
      have H2 := Lib.hid (H.out.keep hb2)
      clear hb2
      go_wp2_with fail
      go_ret
      rw [HG.out]
      exact ⟨I, Hp.sub.refl _, rfl, H2.out⟩
    · have HG := Lib.hid (HT0.out.trans (if_neg fun h => h.1 h0))
      have hb0 : (n != 0) = false := by simpa using h0
      clear h0
      go_wp2_with fail
      refine (lmay_spec who H.out).mono ?_
      rw [HM.out]
      rintro e w1 ⟨rfl, rfl⟩
      go_wp2_with fail
      refine HWC.out.mono ?_
      rintro e w2 ⟨rfl, hb2⟩
      have H2 := Lib.hid (H.out.keep hb2)
      clear hb2
      go_wp2_with fail
      refine (brk_spec who H2.out HK.out HNF.out).mono ?_
      rintro e w3 ⟨I3, hs3, rfl, h3⟩
      have H3 := Lib.hid h3
      have HS3 := Lib.hid hs3
      clear h3 hs3
      go_wp2_with fail
      go_ret
      rw [HG.out]
      exact ⟨I3, HS3.out, rfl, H3.out⟩
    · have HG := Lib.hid (HT0.out.trans (if_neg fun h => h.2 h1))
      have hb0 : (n != 0) = true := by simpa using h0
      have hb1 : (n != who) = false := by simpa using h1
      clear h0 h1
      go_wp2_with fail
      refine (lmay_spec who H.out).mono ?_
      rw [HM.out]
      rintro e w1 ⟨rfl, rfl⟩
      go_wp2_with fail
      refine HWC.out.mono ?_
      rintro e w2 ⟨rfl, hb2⟩
      have H2 := Lib.hid (H.out.keep hb2)
      clear hb2
      go_wp2_with fail
      refine (brk_spec who H2.out HK.out HNF.out).mono ?_
      rintro e w3 ⟨I3, hs3, rfl, h3⟩
      have H3 := Lib.hid h3
      have HS3 := Lib.hid hs3
      clear h3 hs3
      go_wp2_with fail
      go_ret
      rw [HG.out]
      exact ⟨I3, HS3.out, rfl, H3.out⟩
  · have HG := Lib.hid (show takeS S who = (lmayS S who, S) by simp [takeS, hm])
    have hm0 : (lmayS S who != 0) = true := by simpa using hm
    clear hm
    go_enter Try.func37, Try.ntmps37
    go_wp2_with fail
    refine (lmay_spec who H.out).mono ?_
    rintro e w1 ⟨rfl, rfl⟩
    go_wp2_with fail
    go_ret
    rw [HG.out]
    exact ⟨I, Hp.sub.refl _, rfl, H.out⟩
theorem gback_spec (who : Int) {m : Nat} (h : St W I w (storeHP p S :: l)) (hk : Keeps S (m + 4)) (hb : ∀ x ∈ (attrS S kL nmO).1, isByte x) (hbl : (attrS S kL nmO).1.length ≤ 1000000) (hnf : (setS (if whyS S kL ≠ 0 then (makeS S kL).2 else S) kL nmO []).1 ≠ 6) :
    Calls Try.prog 38 #[.pointer (some ⟨p, 0, none⟩), .int .i64 who] w fun e w' => ∃ I', I.sub I' ∧ e = .returned (.int .i64 (gbackS S who).1) ∧ St W I' w' (storeHP p (gbackS S who).2 :: l) := by
  have H := Lib.hid h
  have HK := Lib.hid hk
  have HNF := Lib.hid hnf
  have HB := Lib.hid hb
  clear h hk hnf hb
  by_cases hm : lmayS S who = 0
  · have HM := Lib.hid hm
    go_enter Try.func38, Try.ntmps38
    have ht0 : gbackS S who = if (whoS S).1 ≠ who then (8, S) else keepS S kL nmO [] := by simp [gbackS, hm]
    obtain ⟨n, hn⟩ : ∃ n, (whoS S).1 = n := ⟨_, rfl⟩
    rw [hn] at ht0
    have hwc := who_spec H.out HK.out.inv HB.out hbl
    rw [hn] at hwc
    have HWC := Lib.hid hwc
    have HT0 := Lib.hid ht0
    clear hm hn hwc ht0
    by_cases h1 : n = who
    · have HG := Lib.hid (HT0.out.trans (if_neg fun h => h h1))
      have hb1 : (n != who) = false := by simpa using h1
      clear h1
      go_wp2_with fail
      refine (lmay_spec who H.out).mono ?_
      rw [HM.out]
      rintro e w1 ⟨rfl, rfl⟩
      go_wp2_with fail
      refine HWC.out.mono ?_
      rintro e w2 ⟨rfl, hb2⟩
      have H2 := Lib.hid (H.out.keep hb2)
      clear hb2
      go_wp2_with fail
      refine (give_spec (.slice none 0 0) [] H2.out HK.out (bytes_nil I) (by decide) HNF.out).mono ?_
      rintro e w3 ⟨I3, hs3, rfl, h3⟩
      have H3 := Lib.hid h3
      have HS3 := Lib.hid hs3
      clear h3 hs3
      go_wp2_with fail
      go_ret
      rw [HG.out]
      exact ⟨I3, HS3.out, rfl, H3.out⟩
    · have HG := Lib.hid (HT0.out.trans (if_pos h1))
      have hb1 : (n != who) = true := by simpa using h1
      clear h1
      go_wp2_with fail
      refine (lmay_spec who H.out).mono ?_
      rw [HM.out]
      rintro e w1 ⟨rfl, rfl⟩
      go_wp2_with fail
      refine HWC.out.mono ?_
      rintro e w2 ⟨rfl, hb2⟩
      have H2 := Lib.hid (H.out.keep hb2)
      clear hb2
      go_wp2_with fail
      go_ret
      rw [HG.out]
      exact ⟨I, Hp.sub.refl _, rfl, H2.out⟩
  · have HG := Lib.hid (show gbackS S who = (lmayS S who, S) by simp [gbackS, hm])
    have hm0 : (lmayS S who != 0) = true := by simpa using hm
    clear hm
    go_enter Try.func38, Try.ntmps38
    go_wp2_with fail
    refine (lmay_spec who H.out).mono ?_
    rintro e w1 ⟨rfl, rfl⟩
    go_wp2_with fail
    go_ret
    rw [HG.out]
    exact ⟨I, Hp.sub.refl _, rfl, H.out⟩
end
end Go.Proofs.Ytnokhjhhadnckaa
