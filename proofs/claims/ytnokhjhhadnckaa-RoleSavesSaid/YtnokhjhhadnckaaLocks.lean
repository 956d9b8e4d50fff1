/- The lock's functions. An attribute that is kept in an object of its own: done, or not done, wholly. No program in sight. Who owns a store, behind each of the lock's calls. No program in sight. The lock's calls as the document's answer; hectographlaw19.known. -/
import Derived.Test.YtnokhjhhadnckaaPutGet
import Derived.Test.YtnokhjhhadnckaaViews
/- The lock's functions. -/
set_option linter.unusedSimpArgs false
set_option linter.unusedVariables false
set_option linter.unusedSectionVars false
namespace Go.Proofs.Ytnokhjhhadnckaa
open Go.RowKit
def kL : K4 := ⟨5, 0, 0, 0⟩
def nmO : ByteArray := ⟨#[111]⟩
def lmayS (S : Str) (who : Int) : Int := if S.on = false then 7 else if who < 1 ∨ 1073741824 < who then 1 else 0
/-- The number in an attribute: none is 0. -/
def numV (b : List Int) : Int := if b.length < 8 then 0 else wrap64 (getB (b.take 8))
def whoS (S : Str) : Int × Int := if S.on = false then (0, 7) else (numV (attrS S kL nmO).1, 0)
/-- An attribute is kept: the object is made first, if there is none. -/
def keepS (S : Str) (K : K4) (nm : ByteArray) (b : List Int) : Int × Str :=
  if whyS S K ≠ 0 ∧ (makeS S K).1 ≠ 0 then makeS S K
  else if (setS (if whyS S K ≠ 0 then (makeS S K).2 else S) K nm b).1 ≠ 0 then setS (if whyS S K ≠ 0 then (makeS S K).2 else S) K nm b
  else barrierS (setS (if whyS S K ≠ 0 then (makeS S K).2 else S) K nm b).2
def brkS (S : Str) (who : Int) : Int × Str := if lmayS S who ≠ 0 then (lmayS S who, S) else keepS S kL nmO (putB who 8)
def takeS (S : Str) (who : Int) : Int × Str := if lmayS S who ≠ 0 then (lmayS S who, S) else if (whoS S).1 ≠ 0 ∧ (whoS S).1 ≠ who then (8, S) else brkS S who
def gbackS (S : Str) (who : Int) : Int × Str := if lmayS S who ≠ 0 then (lmayS S who, S) else if (whoS S).1 ≠ who then (8, S) else keepS S kL nmO []
theorem keepS_keeps {S : Str} {K : K4} {nm : ByteArray} {b : List Int} {m : Nat} (h : Keeps S (m + 4)) : Keeps (keepS S K nm b).2 m := by
  have h1 : Keeps (makeS S K).2 (m + 2) := makeS_keeps h
  have h2 : Keeps (if whyS S K ≠ 0 then (makeS S K).2 else S) (m + 2) := by
    split
    · exact h1
    · exact h.fewer (by omega)
  have h3 := setS_keeps (k := K) (nm := nm) (v := b) h2
  unfold keepS
  generalize (if whyS S K ≠ 0 then (makeS S K).2 else S) = S1 at h2 h3 ⊢
  split
  · exact h1.fewer (by omega)
  · split
    · exact h3
    · exact barrierS_keeps h3
section
variable {W w : World} {I : Hp} {l : List HP} {p : Nat} {S : Str}
set_option maxRecDepth 4000
set_option maxHeartbeats 4000000
theorem lown_spec (w : World) : Calls Try.prog 80 #[] w fun e w' => e = .returned (.agg #[.int .i64 5, .int .i64 0, .int .i64 0, .int .i64 0]) ∧ Below w.heap.size w w' := by
  go_enter Try.func80, Try.ntmps80
  go_wp2
  exact bodyPost_ret (v := .agg #[.int .i64 5, .int .i64 0, .int .i64 0, .int .i64 0]) (by simp [results, Try.results80, go_sem]) rfl ⟨rfl, below_alloc _ _⟩
theorem lmay_spec (who : Int) (h : St W I w (storeHP p S :: l)) : Calls Try.prog 76 #[.pointer (some ⟨p, 0, none⟩), .int .i64 who] w fun e w' => e = .returned (.int .i64 (lmayS S who)) ∧ w = w' := by
  have H := Lib.hid h
  clear h
  unfold lmayS
  cases ho : S.on with
  | false =>
    go_enter Try.func76, Try.ntmps76
    go_wp2_with fail
    refine (on_spec H.out).mono ?_
    rw [ho]
    rintro e w1 ⟨rfl, rfl⟩
    go_wp2_with fail
    go_ret
    exact ⟨rfl, rfl⟩
  | true =>
    by_cases h1 : who < 1
    · have hr : (if who < 1 ∨ 1073741824 < who then (1 : Int) else 0) = 1 := if_pos (.inl h1)
      have HR := Lib.hid hr
      clear hr
      go_enter Try.func76, Try.ntmps76
      go_wp2_with fail
      refine (on_spec H.out).mono ?_
      rw [ho]
      rintro e w1 ⟨rfl, rfl⟩
      go_wp2_with fail
      go_ret
      exact ⟨by simp [HR.out], rfl⟩
    · by_cases h2 : 1073741824 < who
      · have hr : (if who < 1 ∨ 1073741824 < who then (1 : Int) else 0) = 1 := if_pos (.inr h2)
        have HR := Lib.hid hr
        clear hr
        go_enter Try.func76, Try.ntmps76
        go_wp2_with fail
        refine (on_spec H.out).mono ?_
        rw [ho]
        rintro e w1 ⟨rfl, rfl⟩
        go_wp2_with fail
        go_ret
        exact ⟨by simp [HR.out], rfl⟩
      · have hr : (if who < 1 ∨ 1073741824 < who then (1 : Int) else 0) = 0 := if_neg (by omega)
        have HR := Lib.hid hr
        clear hr
        go_enter Try.func76, Try.ntmps76
        go_wp2_with fail
        refine (on_spec H.out).mono ?_
        rw [ho]
        rintro e w1 ⟨rfl, rfl⟩
        go_wp2_with fail
        go_ret
        exact ⟨by simp [HR.out], rfl⟩
theorem getnum_spec (v : Value) (b : List Int) (w : World) (hs : SliceSrc w 1 v b.length (b.map byteV)) (hb : ∀ x ∈ b, isByte x) (hbl : b.length ≤ 1000000) :
    Calls Try.prog 81 #[v, .int .i64 0, .int .i64 8] w fun e w' => ∃ n ok, e = .returned (.tuple #[.int .u64 n, .bool ok]) ∧ IntKind.i64.wrap n = numV b ∧ w = w' := by
  by_cases h8 : b.length < 8
  · obtain ⟨A, c, rfl, hsrc, _⟩ := hs
    have h4 : decide (((b.length : Nat) : Int) < 8) = true := by rw [decide_eq_true_eq]; omega
    have hbn : (b.length : Int) < 8 := by omega
    have HN := Lib.hid (show numV b = 0 by simp [numV, h8])
    clear hsrc
    go_enter Try.func81, Try.ntmps81
    go_wp2_with fail
    go_ret2
    exact ⟨0, false, rfl, by rw [HN.out]; rfl, rfl⟩
  · have hc := get_ok v b 0 8 w hs hb (by decide) (by decide) (by omega) hbl
    refine hc.mono ?_
    rintro e w' ⟨rfl, rfl⟩
    refine ⟨_, _, rfl, ?_, rfl⟩
    rw [numV, if_neg h8, List.drop_zero, wrap_eq]
theorem who_spec {m : Nat} (h : St W I w (storeHP p S :: l)) (hk : Inv S m) (hb : ∀ x ∈ (attrS S kL nmO).1, isByte x) (hbl : (attrS S kL nmO).1.length ≤ 1000000) :
    Calls Try.prog 43 #[.pointer (some ⟨p, 0, none⟩)] w fun e w' => e = .returned (.tuple #[.int .i64 (whoS S).1, .int .i64 (whoS S).2]) ∧ Below w.heap.size w w' := by
  have H := Lib.hid h
  have HK := Lib.hid hk
  have HB := Lib.hid hb
  clear h hk hb
  cases ho : S.on with
  | false =>
    have hm : lmayS S 1 = 7 := by simp [lmayS, ho]
    have HW := Lib.hid (show whoS S = (0, 7) by simp [whoS, ho])
    go_enter Try.func43, Try.ntmps43
    go_wp2_with fail
    refine (lmay_spec 1 H.out).mono ?_
    rw [hm]
    rintro e w1 ⟨rfl, rfl⟩
    go_wp2_with fail
    go_ret2
    rw [HW.out]
    exact ⟨rfl, Below.refl _ _⟩
  | true =>
    have hm : lmayS S 1 = 0 := by simp [lmayS, ho]
    have HW := Lib.hid (show whoS S = (numV (attrS S kL nmO).1, 0) by simp [whoS, ho])
    go_enter Try.func43, Try.ntmps43
    go_wp2_with fail
    refine (lmay_spec 1 H.out).mono ?_
    rw [hm]
    rintro e w1 ⟨rfl, rfl⟩
    go_wp2_with fail
    refine (lown_spec w).mono ?_
    rintro e w1 ⟨rfl, hb1⟩
    have HB1 := Lib.hid hb1
    have H1 := Lib.hid (H.out.keep hb1)
    clear hb1
    go_wp2_with fail
    have hc := attr_spec kL nmO H1.out HK.out
    simp only [K4.val, kL] at hc
    refine hc.mono ?_
    clear hc
    rintro e w2 ⟨hb2, v2, rfl, ho2⟩
    have hsrc := SliceSrc.of_owns ho2 (bytes_one (attrS S kL nmO).1)
    obtain ⟨A2, c2, rfl⟩ := is_slice ho2
    have HS := Lib.hid hsrc
    have HB2 := Lib.hid (HB1.out.trans (hb2.mono HB1.out.size))
    clear hsrc hb2 ho2
    go_wp2_with fail
    refine (getnum_spec _ (attrS S kL nmO).1 w2 HS.out HB.out hbl).mono ?_
    rintro e w3 ⟨n, ok, rfl, hn, rfl⟩
    go_wp2_with fail
    go_ret2
    rw [HW.out]
    exact ⟨rfl, HB2.out⟩
theorem give_spec (bv : Value) (b : List Int) {m : Nat} (h : St W I w (storeHP p S :: l)) (hk : Keeps S (m + 4)) (hs : BytesI I bv b) (hbl : b.length ≤ 1000000)
    (hnf : (setS (if whyS S kL ≠ 0 then (makeS S kL).2 else S) kL nmO b).1 ≠ 6) :
    Calls Try.prog 77 #[.pointer (some ⟨p, 0, none⟩), bv] w fun e w' => ∃ I', I.sub I' ∧ e = .returned (.int .i64 (keepS S kL nmO b).1) ∧ St W I' w' (storeHP p (keepS S kL nmO b).2 :: l) := by
  have H := Lib.hid h
  have HK := Lib.hid hk
  have HNF := Lib.hid hnf
  have HBS := Lib.hid hs
  obtain ⟨Ab, cb, rfl, _⟩ := hs
  clear h hk hnf
  go_enter Try.func77, Try.ntmps77
  go_wp2_with fail
  refine (lown_spec w).mono ?_
  rintro e w1 ⟨rfl, hb1⟩
  have HB1 := Lib.hid hb1
  have H1 := Lib.hid (H.out.keep hb1)
  clear hb1
  go_wp2_with fail
  have hc := size_of kL H1.out
  simp only [K4.val, kL] at hc
  refine hc.mono ?_
  clear hc
  rintro e w2 ⟨hb2, rfl⟩
  have HB2 := Lib.hid (HB1.out.trans (hb2.mono HB1.out.size))
  have H2 := Lib.hid (H1.out.keep hb2)
  clear hb2
  by_cases hw : whyS S kL = 0
  · have hw2 : whyS S ⟨5, 0, 0, 0⟩ = 0 := hw
    rw [hw2]
    obtain ⟨y, S2, hset⟩ : ∃ y S2, setS S kL nmO b = (y, S2) := ⟨_, _, rfl⟩
    have hks := setS_keeps (k := kL) (nm := nmO) (v := b) (HK.out.fewer (show m + 2 ≤ m + 4 by omega))
    have hy6 : y ≠ 6 := by have := HNF.out; rw [if_neg (by simp [hw]), hset] at this; exact this
    have hg : keepS S kL nmO b = if y ≠ 0 then (y, S2) else barrierS S2 := by
      unfold keepS
      rw [if_neg (by simp [hw]), if_neg (by simp [hw] : ¬ whyS S kL ≠ 0), hset]
    rw [hset] at hks
    have HG := Lib.hid hg
    have HKS := Lib.hid hks
    have HW := Lib.hid hw
    have HSET := Lib.hid hset
    have hb6 : (y == 6) = false := by simpa using hy6
    clear hw hw2 hg hks hset hy6
    go_wp2_with fail
    refine (lown_spec w2).mono ?_
    rintro e w3 ⟨rfl, hb3⟩
    have HB3 := Lib.hid (HB2.out.trans (hb3.mono HB2.out.size))
    have H3 := Lib.hid (H2.out.keep hb3)
    clear hb3
    go_wp2_with fail
    have hc := set_spec kL nmO _ b H3.out (HK.out.fewer (Nat.le_refl _)) (bytes_src H3.out HBS.out) (by omega)
    rw [HSET.out] at hc
    simp only [K4.val, kL, nmO] at hc
    refine hc.mono ?_
    clear hc
    rintro e w4 ⟨I4, hs4, rfl, h4⟩
    have H4 := Lib.hid h4
    have HS4 := Lib.hid hs4
    clear h4 hs4
    by_cases hy : y = 0
    · subst hy
      rw [if_neg (by simp)] at HG
      clear hb6
      go_wp2_with fail
      refine (barrier_spec H4.out HKS.out).mono ?_
      rintro e w5 ⟨I5, hs5, rfl, h5⟩
      have H5 := Lib.hid h5
      have HS5 := Lib.hid hs5
      clear h5 hs5
      go_wp2_with fail
      go_ret
      rw [HG.out]
      exact ⟨I5, HS4.out.trans HS5.out, rfl, H5.out⟩
    · rw [if_pos hy] at HG
      have hb0 : (y != 0) = true := by simpa using hy
      clear hy
      go_wp2_with fail
      go_ret
      rw [HG.out]
      exact ⟨I4, HS4.out, rfl, H4.out⟩
  · have hwb : (whyS S ⟨5, 0, 0, 0⟩ != 0) = true := by
      have : whyS S ⟨5, 0, 0, 0⟩ ≠ 0 := hw
      simpa using this
    obtain ⟨z, S1, hmk⟩ : ∃ z S1, makeS S kL = (z, S1) := ⟨_, _, rfl⟩
    obtain ⟨y, S2, hset⟩ : ∃ y S2, setS S1 kL nmO b = (y, S2) := ⟨_, _, rfl⟩
    have hkm : Keeps (makeS S kL).2 (m + 2) := makeS_keeps HK.out
    rw [hmk] at hkm
    have hks := setS_keeps (k := kL) (nm := nmO) (v := b) hkm
    have hy6 : y ≠ 6 := by have := HNF.out; rw [if_pos hw, hmk, hset] at this; exact this
    have hg : keepS S kL nmO b = if z ≠ 0 then (z, S1) else if y ≠ 0 then (y, S2) else barrierS S2 := by
      unfold keepS
      rw [if_pos hw, hmk, hset]
      by_cases hz : z = 0
      · subst hz
        rw [if_neg (by simp)]
        rfl
      · rw [if_pos ⟨hw, hz⟩, if_pos hz]
    rw [hset] at hks
    have HG := Lib.hid hg
    have HKM := Lib.hid hkm
    have HKS := Lib.hid hks
    have HSET := Lib.hid hset
    have HMK := Lib.hid hmk
    have hb6 : (y == 6) = false := by simpa using hy6
    clear hw hg hkm hks hset hmk hy6
    go_wp2_with fail
    refine (lown_spec w2).mono ?_
    rintro e w3 ⟨rfl, hb3⟩
    have HB3 := Lib.hid (HB2.out.trans (hb3.mono HB2.out.size))
    have H3 := Lib.hid (H2.out.keep hb3)
    clear hb3
    go_wp2_with fail
    have hc := make_spec kL H3.out HK.out
    rw [HMK.out] at hc
    simp only [K4.val, kL] at hc
    refine hc.mono ?_
    clear hc
    rintro e w4 ⟨I4, hs4, rfl, h4⟩
    have H4 := Lib.hid h4
    have HS4 := Lib.hid hs4
    clear h4 hs4
    by_cases hz : z = 0
    · subst hz
      rw [if_neg (by simp)] at HG
      go_wp2_with fail
      refine (lown_spec w4).mono ?_
      rintro e w5 ⟨rfl, hb5⟩
      have HB5 := Lib.hid hb5
      have H5 := Lib.hid (H4.out.keep hb5)
      clear hb5
      go_wp2_with fail
      have hc := set_spec kL nmO _ b H5.out HKM.out (bytes_src H5.out ((bytesIP _ _).mono HS4.out HBS.out)) (by omega)
      rw [HSET.out] at hc
      simp only [K4.val, kL, nmO] at hc
      refine hc.mono ?_
      clear hc
      rintro e w6 ⟨I6, hs6, rfl, h6⟩
      have H6 := Lib.hid h6
      have HS6 := Lib.hid hs6
      clear h6 hs6
      by_cases hy : y = 0
      · subst hy
        rw [if_neg (by simp)] at HG
        clear hb6
        go_wp2_with fail
        refine (barrier_spec H6.out HKS.out).mono ?_
        rintro e w7 ⟨I7, hs7, rfl, h7⟩
        have H7 := Lib.hid h7
        have HS7 := Lib.hid hs7
        clear h7 hs7
        go_wp2_with fail
        go_ret
        rw [HG.out]
        exact ⟨I7, (HS4.out.trans HS6.out).trans HS7.out, rfl, H7.out⟩
      · rw [if_pos hy] at HG
        have hb0 : (y != 0) = true := by simpa using hy
        clear hy
        go_wp2_with fail
        go_ret
        rw [HG.out]
        exact ⟨I6, HS4.out.trans HS6.out, rfl, H6.out⟩
    · rw [if_pos hz] at HG
      have hz0 : (z != 0) = true := by simpa using hz
      clear hz
      go_wp2_with fail
      go_ret
      rw [HG.out]
      exact ⟨I4, HS4.out, rfl, H4.out⟩
theorem brk_spec (who : Int) {m : Nat} (h : St W I w (storeHP p S :: l)) (hk : Keeps S (m + 4)) (hnf : (setS (if whyS S kL ≠ 0 then (makeS S kL).2 else S) kL nmO (putB who 8)).1 ≠ 6) :
    Calls Try.prog 40 #[.pointer (some ⟨p, 0, none⟩), .int .i64 who] w fun e w' => ∃ I', I.sub I' ∧ e = .returned (.int .i64 (brkS S who).1) ∧ St W I' w' (storeHP p (brkS S who).2 :: l) := by
  have H := Lib.hid h
  have HK := Lib.hid hk
  have HNF := Lib.hid hnf
  clear h hk hnf
  by_cases hm : lmayS S who = 0
  · have HG := Lib.hid (show brkS S who = keepS S kL nmO (putB who 8) by simp [brkS, hm])
    have hw : 1 ≤ who ∧ who ≤ 1073741824 := by
      unfold lmayS at hm
      split at hm
      · cases hm
      · split at hm
        · cases hm
        · omega
    have hw1 := hw.1
    have hw2 := hw.2
    have HM := Lib.hid hm
    clear hm hw
    go_enter Try.func40, Try.ntmps40
    go_wp2_with fail
    refine (lmay_spec who H.out).mono ?_
    rw [HM.out]
    rintro e w1 ⟨rfl, rfl⟩
    go_wp2_with fail
    have hput := put_spec (.slice none 0 0) [] who 8 w ⟨none, 0, rfl, ⟨rfl, fun h => absurd h (by decide), fun u hu => by cases hu⟩, fun _ => rfl⟩ (by omega) (by omega) (by decide) (by decide) (by decide)
    rw [List.nil_append] at hput
    refine hput.mono ?_
    rintro e w2 ⟨v2, rfl, hb2, ho2⟩
    obtain ⟨A2, c2, rfl⟩ := is_slice ho2
    obtain ⟨I2, hI2, hB2, h3⟩ := own_at_call H.out hb2 ho2
    have H3 := Lib.hid h3
    have HI2 := Lib.hid hI2
    have HB2 := Lib.hid hB2
    clear hput hb2 ho2 h3 hI2 hB2
    go_wp2_with fail
    refine (give_spec _ (putB who 8) H3.out HK.out HB2.out (by rw [putB_length]; decide) HNF.out).mono ?_
    rintro e w4 ⟨I4, hs4, rfl, h4⟩
    have H4 := Lib.hid h4
    have HS4 := Lib.hid hs4
    clear h4 hs4
    go_wp2_with fail
    go_ret
    rw [HG.out]
    exact ⟨I4, HI2.out.trans HS4.out, rfl, H4.out⟩
  · have HG := Lib.hid (show brkS S who = (lmayS S who, S) by simp [brkS, hm])
    have hm0 : (lmayS S who != 0) = true := by simpa using hm
    clear hm
    go_enter Try.func40, Try.ntmps40
    go_wp2_with fail
    refine (lmay_spec who H.out).mono ?_
    rintro e w1 ⟨rfl, rfl⟩
    go_wp2_with fail
    go_ret
    rw [HG.out]
    exact ⟨I, Hp.sub.refl _, rfl, H.out⟩
theorem take_spec (who : Int) {m : Nat} (h : St W I w (storeHP p S :: l)) (hk : Keeps S (m + 4)) (hb : ∀ x ∈ (attrS S kL nmO).1, isByte x) (hbl : (attrS S kL nmO).1.length ≤ 1000000) (hnf : (setS (if whyS S kL ≠ 0 then (makeS S kL).2 else S) kL nmO (putB who 8)).1 ≠ 6) :
    Calls Try.prog 37 #[.pointer (some ⟨p, 0, none⟩), .int .i64 who] w fun e w' => ∃ I', I.sub I' ∧ e = .returned (.int .i64 (takeS S who).1) ∧ St W I' w' (storeHP p (takeS S who).2 :: l) := by
  have H := Lib.hid h
  have HK := Lib.hid hk
  have HNF := Lib.hid hnf
  have HB := Lib.hid hb
  clear h hk hnf hb
  by_cases hm : lmayS S who = 0
  · have HM := Lib.hid hm
    go_enter Try.func37, Try.ntmps37
    have ht0 : takeS S who = if (whoS S).1 ≠ 0 ∧ (whoS S).1 ≠ who then (8, S) else brkS S who := by simp [takeS, hm]
    obtain ⟨n, hn⟩ : ∃ n, (whoS S).1 = n := ⟨_, rfl⟩
    rw [hn] at ht0
    have hwc := who_spec H.out HK.out.inv HB.out hbl
    rw [hn] at hwc
    have HWC := Lib.hid hwc
    have HT0 := Lib.hid ht0
    clear hm hn hwc ht0
    have hcases : (n ≠ 0 ∧ n ≠ who) ∨ n = 0 ∨ (n ≠ 0 ∧ n = who) := by
      by_cases h0 : n = 0
      · exact .inr (.inl h0)
      · by_cases h1 : n = who
        · exact .inr (.inr ⟨h0, h1⟩)
        · exact .inl ⟨h0, h1⟩
    rcases hcases with ⟨h0, h1⟩ | h0 | ⟨h0, h1⟩
    · have HG := Lib.hid (HT0.out.trans (if_pos ⟨h0, h1⟩))
      have hb0 : (n != 0) = true := by simpa using h0
      have hb1 : (n != who) = true := by simpa using h1
      clear h0 h1
      go_wp2_with fail
      refine (lmay_spec who H.out).mono ?_
      rw [HM.out]
      rintro e w1 ⟨rfl, rfl⟩
      go_wp2_with fail
      refine HWC.out.mono ?_
      rintro e w2 ⟨rfl, hb2⟩
      have H2 := Lib.hid (H.out.keep hb2)
      clear hb2
      go_wp2_with fail
      go_ret
      rw [HG.out]
      exact ⟨I, Hp.sub.refl _, rfl, H2.out⟩
    · have HG := Lib.hid (HT0.out.trans (if_neg fun h => h.1 h0))
      have hb0 : (n != 0) = false := by simpa using h0
      clear h0
      go_wp2_with fail
      refine (lmay_spec who H.out).mono ?_
      rw [HM.out]
      rintro e w1 ⟨rfl, rfl⟩
      go_wp2_with fail
      refine HWC.out.mono ?_
      rintro e w2 ⟨rfl, hb2⟩
      have H2 := Lib.hid (H.out.keep hb2)
      clear hb2
      go_wp2_with fail
      refine (brk_spec who H2.out HK.out HNF.out).mono ?_
      rintro e w3 ⟨I3, hs3, rfl, h3⟩
      have H3 := Lib.hid h3
      have HS3 := Lib.hid hs3
      clear h3 hs3
      go_wp2_with fail
      go_ret
      rw [HG.out]
      exact ⟨I3, HS3.out, rfl, H3.out⟩
    · have HG := Lib.hid (HT0.out.trans (if_neg fun h => h.2 h1))
      have hb0 : (n != 0) = true := by simpa using h0
      have hb1 : (n != who) = false := by simpa using h1
      clear h0 h1
      go_wp2_with fail
      refine (lmay_spec who H.out).mono ?_
      rw [HM.out]
      rintro e w1 ⟨rfl, rfl⟩
      go_wp2_with fail
      refine HWC.out.mono ?_
      rintro e w2 ⟨rfl, hb2⟩
      have H2 := Lib.hid (H.out.keep hb2)
      clear hb2
      go_wp2_with fail
      refine (brk_spec who H2.out HK.out HNF.out).mono ?_
      rintro e w3 ⟨I3, hs3, rfl, h3⟩
      have H3 := Lib.hid h3
      have HS3 := Lib.hid hs3
      clear h3 hs3
      go_wp2_with fail
      go_ret
      rw [HG.out]
      exact ⟨I3, HS3.out, rfl, H3.out⟩
  · have HG := Lib.hid (show takeS S who = (lmayS S who, S) by simp [takeS, hm])
    have hm0 : (lmayS S who != 0) = true := by simpa using hm
    clear hm
    go_enter Try.func37, Try.ntmps37
    go_wp2_with fail
    refine (lmay_spec who H.out).mono ?_
    rintro e w1 ⟨rfl, rfl⟩
    go_wp2_with fail
    go_ret
    rw [HG.out]
    exact ⟨I, Hp.sub.refl _, rfl, H.out⟩
theorem gback_spec (who : Int) {m : Nat} (h : St W I w (storeHP p S :: l)) (hk : Keeps S (m + 4)) (hb : ∀ x ∈ (attrS S kL nmO).1, isByte x) (hbl : (attrS S kL nmO).1.length ≤ 1000000) (hnf : (setS (if whyS S kL ≠ 0 then (makeS S kL).2 else S) kL nmO []).1 ≠ 6) :
    Calls Try.prog 38 #[.pointer (some ⟨p, 0, none⟩), .int .i64 who] w fun e w' => ∃ I', I.sub I' ∧ e = .returned (.int .i64 (gbackS S who).1) ∧ St W I' w' (storeHP p (gbackS S who).2 :: l) := by
  have H := Lib.hid h
  have HK := Lib.hid hk
  have HNF := Lib.hid hnf
  have HB := Lib.hid hb
  clear h hk hnf hb
  by_cases hm : lmayS S who = 0
  · have HM := Lib.hid hm
    go_enter Try.func38, Try.ntmps38
    have ht0 : gbackS S who = if (whoS S).1 ≠ who then (8, S) else keepS S kL nmO [] := by simp [gbackS, hm]
    obtain ⟨n, hn⟩ : ∃ n, (whoS S).1 = n := ⟨_, rfl⟩
    rw [hn] at ht0
    have hwc := who_spec H.out HK.out.inv HB.out hbl
    rw [hn] at hwc
    have HWC := Lib.hid hwc
    have HT0 := Lib.hid ht0
    clear hm hn hwc ht0
    by_cases h1 : n = who
    · have HG := Lib.hid (HT0.out.trans (if_neg fun h => h h1))
      have hb1 : (n != who) = false := by simpa using h1
      clear h1
      go_wp2_with fail
      refine (lmay_spec who H.out).mono ?_
      rw [HM.out]
      rintro e w1 ⟨rfl, rfl⟩
      go_wp2_with fail
      refine HWC.out.mono ?_
      rintro e w2 ⟨rfl, hb2⟩
      have H2 := Lib.hid (H.out.keep hb2)
      clear hb2
      go_wp2_with fail
      refine (give_spec (.slice none 0 0) [] H2.out HK.out (bytes_nil I) (by decide) HNF.out).mono ?_
      rintro e w3 ⟨I3, hs3, rfl, h3⟩
      have H3 := Lib.hid h3
      have HS3 := Lib.hid hs3
      clear h3 hs3
      go_wp2_with fail
      go_ret
      rw [HG.out]
      exact ⟨I3, HS3.out, rfl, H3.out⟩
    · have HG := Lib.hid (HT0.out.trans (if_pos h1))
      have hb1 : (n != who) = true := by simpa using h1
      clear h1
      go_wp2_with fail
      refine (lmay_spec who H.out).mono ?_
      rw [HM.out]
      rintro e w1 ⟨rfl, rfl⟩
      go_wp2_with fail
      refine HWC.out.mono ?_
      rintro e w2 ⟨rfl, hb2⟩
      have H2 := Lib.hid (H.out.keep hb2)
      clear hb2
      go_wp2_with fail
      go_ret
      rw [HG.out]
      exact ⟨I, Hp.sub.refl _, rfl, H2.out⟩
  · have HG := Lib.hid (show gbackS S who = (lmayS S who, S) by simp [gbackS, hm])
    have hm0 : (lmayS S who != 0) = true := by simpa using hm
    clear hm
    go_enter Try.func38, Try.ntmps38
    go_wp2_with fail
    refine (lmay_spec who H.out).mono ?_
    rintro e w1 ⟨rfl, rfl⟩
    go_wp2_with fail
    go_ret
    rw [HG.out]
    exact ⟨I, Hp.sub.refl _, rfl, H.out⟩
end
end Go.Proofs.Ytnokhjhhadnckaa
/- An attribute that is kept in an object of its own: done, or not done, wholly. No program in sight. -/
namespace Go.Proofs.Ytnokhjhhadnckaa
open Go.RowKit
def kObj (nm : ByteArray) (v : List Int) : Option TS := some ⟨[], if v = [] then [] else [(nm, v)]⟩
/-- The object's attribute is v: no object, and none. -/
def objV (nm : ByteArray) (x : Option TS) (v : List Int) : Prop := (x = none ∧ v = []) ∨ x = kObj nm v
theorem kObj_size (nm : ByteArray) (v : List Int) : sizeO (kObj nm v) = if v = [] then 0 else (nm.size : Int) + v.length := by
  unfold kObj sizeO TS.size attrSize
  by_cases hv : v = [] <;> simp [hv]
theorem kObj_fine (nm : ByteArray) (v : List Int) (h1 : nm.size ≤ 20) (h2 : v.length ≤ 4096) : fine (kObj nm v) := by
  unfold fine
  rw [kObj_size]
  split <;> omega
theorem none_fine : fine none := by unfold fine sizeO; simp
theorem step_made (x : Option TS) (nm : ByteArray) : stepD x madeD = kObj nm [] := by simp [stepD, madeD, kObj]
theorem step_set (nm : ByteArray) (v b : List Int) : stepD (kObj nm v) (setD nm b) = kObj nm b := by
  show (some ({ b := [], attr := setAttr (if v = [] then [] else [(nm, v)]) nm b } : TS)) = _
  unfold kObj setAttr
  by_cases hb : b = []
  · rw [if_pos hb, if_pos hb]
    by_cases hv : v = []
    · rw [if_pos hv]; rfl
    · rw [if_neg hv]; simp [del]
  · rw [if_neg hb, if_neg hb]
    by_cases hv : v = []
    · rw [if_pos hv]; rfl
    · rw [if_neg hv]; simp [put, del]
theorem keptN_le (n : Int) (k : Nat) : keptN n k ≤ k := by unfold keptN; omega
theorem stays_some {y : Option TS} {ds : List Dd} (h : ∀ d ∈ ds, d.kind ≠ 1) (n torn : Int) : ∃ m, m ≤ ds.length ∧ stays y ds n torn = (ds.take m).foldl stepD y := by
  refine ⟨keptN n ds.length, keptN_le _ _, ?_⟩
  unfold stays
  split
  · rename_i d hd
    rw [if_neg (fun q => h d (List.mem_of_getElem? hd) q.1)]
  · rfl
/-- A fuse that takes the power. -/
theorem One.burnt {S : Str} {K : K4} {x y : Option TS} {ds : List Dd} (h : One S K x y ds) (hon : S.on = true) (hb : (burnsS S).1 = true) (hk : ∀ d ∈ ds, d.kind ≠ 1) (h1 : fine x) (h2 : ∀ m, m ≤ ds.length → fine ((ds.take m).foldl stepD y)) :
    ∃ m, m ≤ ds.length ∧ One (burnsS S).2 K ((ds.take m).foldl stepD y) ((ds.take m).foldl stepD y) [] ∧ (burnsS S).2.on = false ∧ (burnsS S).2.room = S.room ∧ (burnsS S).2.armed = false := by
  obtain ⟨_, _, e⟩ := burns_true hb
  obtain ⟨m, hm, hs⟩ := stays_some (y := y) hk (keepAt S.keep 0) S.torn
  have hf := h.fell hon S.keep S.torn h1 (by rw [hs]; exact h2 m hm)
  rw [hs] at hf
  rw [e]
  exact ⟨m, hm, hf⟩
/-- How it ends: done, or the power went. -/
def Kept (S : Str) (K : K4) (nm : ByteArray) (v b : List Int) (r : Int × Str) : Prop :=
  (r.1 = 0 ∧ r.2.on = true ∧ One r.2 K (kObj nm b) (kObj nm b) [] ∧ r.2.room = S.room ∧ r.2.armed = S.armed) ∨
  (S.armed = true ∧ r.1 = 7 ∧ r.2.on = false ∧ r.2.room = S.room ∧ r.2.armed = false ∧ ∃ z, One r.2 K z z [] ∧ (objV nm z v ∨ objV nm z b))
theorem may_of {S : Str} {K : K4} (hon : S.on = true) (hK : K.ok = true) : mayS S K = 0 := by simp [mayS, hon, hK]
theorem set_room {S : Str} {K : K4} {nm : ByteArray} {v b : List Int} {y : Option TS} {ds : List Dd} (h : One S K (kObj nm v) y ds) (hn1 : 1 ≤ nm.size) (hn2 : nm.size ≤ 20) (hb : b.length ≤ 4096) (hv : v.length ≤ 4096) (hr : (nm.size : Int) + b.length ≤ S.room) (hr2 : S.room ≤ 1048576) :
    setWhy S ⟨[], if v = [] then [] else [(nm, v)]⟩ nm b = 0 := by
  unfold setWhy
  rw [if_neg (by omega), if_neg]
  have hu := h.used
  rw [kObj_size] at hu
  by_cases h0 : v = []
  · rw [if_pos h0] at hu
    have hrs : roomS S = max 0 S.room := by
      unfold roomS
      rw [← wrap_eq, IntKind.wrap_i64, hu]
      omega
    have hg : growS ⟨[], if v = [] then [] else [(nm, v)]⟩ nm b = if b = [] then 0 else (nm.size : Int) + b.length := by
      unfold growS
      rw [if_pos h0]
      simp [get]
    rw [hrs, hg]
    split <;> omega
  · rw [if_neg h0] at hu
    have hrs : roomS S = max 0 (S.room - ((nm.size : Int) + v.length)) := by
      unfold roomS
      rw [← wrap_eq, IntKind.wrap_i64, hu]
      omega
    have hg : growS ⟨[], if v = [] then [] else [(nm, v)]⟩ nm b = (if b = [] then 0 else (nm.size : Int) + b.length) - ((nm.size : Int) + v.length) := by
      unfold growS
      rw [if_neg h0]
      simp [get]
    rw [hrs, hg]
    split <;> omega
theorem One.barriered {S : Str} {K : K4} {x y : Option TS} {ds : List Dd} {nm : ByteArray} {v b : List Int} (h : One S K (kObj nm b) y ds) (hon : S.on = true) (hk : ∀ d ∈ ds, d.kind ≠ 1) (h1 : nm.size ≤ 20) (h2 : b.length ≤ 4096)
    (hz : ∀ m, m ≤ ds.length → fine ((ds.take m).foldl stepD y) ∧ (objV nm ((ds.take m).foldl stepD y) v ∨ objV nm ((ds.take m).foldl stepD y) b)) : Kept S K nm v b (barrierS S) := by
  cases hb : (burnsS S).1 with
  | false =>
    obtain ⟨e1, e2, e3, e4, e5, _⟩ := h.dried hon hb
    exact .inl ⟨e1, e3, e2, e4, e5⟩
  | true =>
    rw [barrier_burnt hon hb]
    obtain ⟨m, hm, g1, g2, g3, g4⟩ := h.burnt hon hb hk (kObj_fine nm b h1 h2) fun m hm => (hz m hm).1
    exact .inr ⟨(burns_true hb).1, rfl, g2, g3, g4, _, g1, (hz m hm).2⟩
theorem One.seted {S : Str} {K : K4} {y : Option TS} {ds : List Dd} {nm : ByteArray} {u v b : List Int} (h : One S K (kObj nm u) y ds) (hon : S.on = true) (hK : K.ok = true) (hk : ∀ d ∈ ds, d.kind ≠ 1) (hn1 : 1 ≤ nm.size) (h1 : nm.size ≤ 20) (h2 : b.length ≤ 4096) (hu : u.length ≤ 4096)
    (hr : (nm.size : Int) + b.length ≤ S.room) (hr2 : S.room ≤ 1048576) (hz : ∀ m, m ≤ ds.length → fine ((ds.take m).foldl stepD y) ∧ objV nm ((ds.take m).foldl stepD y) v) :
    (setS S K nm b).1 ≠ 6 ∧ Kept S K nm v b (if (setS S K nm b).1 ≠ 0 then setS S K nm b else barrierS (setS S K nm b).2) := by
  have hw : whyS S K = 0 := by
    unfold whyS
    rw [if_pos (may_of hon hK), h.get]
    rfl
  have hok := setS_ok hw h.get (set_room h hn1 h1 h2 hu hr hr2)
  cases hb : (burnsS S).1 with
  | true =>
    rw [do_burnt hb] at hok
    rw [hok]
    obtain ⟨m, hm, g1, g2, g3, g4⟩ := h.burnt hon hb hk (kObj_fine nm u h1 hu) fun m hm => (hz m hm).1
    refine ⟨by simp [offE], ?_⟩
    rw [if_pos (by simp [offE])]
    exact .inr ⟨(burns_true hb).1, rfl, g2, g3, g4, _, g1, .inl (hz m hm).2⟩
  | false =>
    obtain ⟨e1, g1, g2⟩ := h.did (setD nm b) hb (kObj_fine nm u h1 hu) (by rw [step_set]; exact kObj_fine nm b h1 h2)
    rw [e1] at hok
    rw [hok]
    refine ⟨by simp [offE], ?_⟩
    rw [if_neg (by simp [offE])]
    rw [step_set] at g1
    have hbr := One.barriered (x := kObj nm b) (v := v) g1 (g2.on.trans hon) (fun d hd => by
      rcases List.mem_append.1 hd with hd | hd
      · exact hk d hd
      · rw [List.mem_singleton.1 hd]; show (4 : Int) ≠ 1; decide) h1 h2 (fun m hm => by
      by_cases hmd : m ≤ ds.length
      · rw [List.take_append_of_le_length hmd]
        exact ⟨(hz m hmd).1, .inl (hz m hmd).2⟩
      · rw [List.take_of_length_le (by simp; omega), List.foldl_append, ← h.fold]
        show fine (stepD (kObj nm u) (setD nm b)) ∧ (objV nm (stepD (kObj nm u) (setD nm b)) v ∨ objV nm (stepD (kObj nm u) (setD nm b)) b)
        rw [step_set]
        exact ⟨kObj_fine nm b h1 h2, .inr (.inr rfl)⟩)
    rcases hbr with ⟨q1, q2, q3, q4, q5⟩ | ⟨q0, q1, q2, q3, q4, q5⟩
    · exact .inl ⟨q1, q2, q3, q4.trans g2.room, q5.trans g2.armed⟩
    · exact .inr ⟨g2.armed ▸ q0, q1, q2, q3.trans g2.room, q4, q5⟩
/-- An attribute is kept, whatever falls. -/
theorem keep_law {S : Str} {K : K4} {nm : ByteArray} {x : Option TS} {v b : List Int} (h : One S K x x []) (hx : objV nm x v) (hon : S.on = true) (hK : K.ok = true) (hn1 : 1 ≤ nm.size) (hn2 : nm.size ≤ 20) (hv : v.length ≤ 4096) (hb : b.length ≤ 4096)
    (hr : (nm.size : Int) + b.length ≤ S.room) (hr2 : S.room ≤ 1048576) :
    (setS (if whyS S K ≠ 0 then (makeS S K).2 else S) K nm b).1 ≠ 6 ∧ Kept S K nm v b (keepS S K nm b) := by
  rcases hx with ⟨rfl, rfl⟩ | rfl
  · have hw : whyS S K = 4 := by
      unfold whyS
      rw [if_pos (may_of hon hK), h.get]
      rfl
    have hwn : whyS S K ≠ 0 := by rw [hw]; decide
    have hl := h.len
    have hm : makeS S K = (offE (doS S K madeD).1, (doS S K madeD).2) := by
      unfold makeS
      rw [if_neg hwn, if_neg (by simp [hw]), if_neg (by omega)]
    cases hbn : (burnsS S).1 with
    | true =>
      rw [do_burnt hbn] at hm
      obtain ⟨m, hmm, g1, g2, g3, g4⟩ := h.burnt hon hbn (fun d hd => by cases hd) none_fine (fun m _ => by simpa using none_fine)
      have hk : keepS S K nm b = (7, (burnsS S).2) := by
        unfold keepS
        rw [hm, if_pos ⟨hwn, by simp [offE]⟩]
        rfl
      rw [if_pos hwn, hm, hk]
      refine ⟨?_, .inr ⟨(burns_true hbn).1, rfl, g2, g3, g4, _, g1, .inl (.inl ⟨by simp, rfl⟩)⟩⟩
      have hw7 : whyS (burnsS S).2 K ≠ 0 := by
        unfold whyS
        have : mayS (burnsS S).2 K = 7 := by simp [mayS, g2]
        rw [this, if_neg (by decide)]
        decide
      have h7 : whyS (burnsS S).2 K = 7 := by
        unfold whyS
        have : mayS (burnsS S).2 K = 7 := by simp [mayS, g2]
        rw [this]
        rfl
      rw [setS_why hw7, h7]
      show (7 : Int) ≠ 6
      decide
    | false =>
      obtain ⟨e1, g1, g2⟩ := h.did madeD hbn none_fine (by rw [step_made _ nm]; exact kObj_fine nm [] hn2 (by simp))
      rw [step_made _ nm] at g1
      rw [e1] at hm
      obtain ⟨q1, q2⟩ := One.seted (u := []) (v := []) (b := b) g1 (g2.on.trans hon) hK (fun d hd => by rw [List.mem_singleton.1 hd]; show (0 : Int) ≠ 1; decide) hn1 hn2 hb (by simp) (by rw [g2.room]; exact hr) (by rw [g2.room]; exact hr2) (fun m hm' => by
        match m, hm' with
        | 0, _ => exact ⟨none_fine, .inl ⟨rfl, rfl⟩⟩
        | 1, _ =>
          show fine (stepD none madeD) ∧ objV nm (stepD none madeD) []
          rw [step_made _ nm]
          exact ⟨kObj_fine nm [] hn2 (by simp), .inr rfl⟩)
      have hk : keepS S K nm b = if (setS (doS S K madeD).2 K nm b).1 ≠ 0 then setS (doS S K madeD).2 K nm b else barrierS (setS (doS S K madeD).2 K nm b).2 := by
        unfold keepS
        rw [hm, if_neg (fun h => h.2 rfl), if_pos hwn]
      rw [if_pos hwn, hm, hk]
      refine ⟨q1, ?_⟩
      rcases q2 with ⟨r1, r2, r3, r4, r5⟩ | ⟨r0, r1, r2, r3, r4, r5⟩
      · exact .inl ⟨r1, r2, r3, r4.trans g2.room, r5.trans g2.armed⟩
      · exact .inr ⟨g2.armed ▸ r0, r1, r2, r3.trans g2.room, r4, r5⟩
  · have hw : whyS S K = 0 := by
      unfold whyS
      rw [if_pos (may_of hon hK), h.get]
      rfl
    have hwn : ¬ whyS S K ≠ 0 := fun h => h hw
    obtain ⟨q1, q2⟩ := One.seted (u := v) (v := v) (b := b) h hon hK (fun d hd => by cases hd) hn1 hn2 hb hv hr hr2 (fun m hm' => by
      have : ([] : List Dd).take m = [] := by simp
      rw [this]
      exact ⟨kObj_fine nm v hn2 hv, .inr rfl⟩)
    have hk : keepS S K nm b = if (setS S K nm b).1 ≠ 0 then setS S K nm b else barrierS (setS S K nm b).2 := by
      unfold keepS
      rw [if_neg (fun h => hwn h.1), if_neg hwn]
    rw [if_neg hwn, hk]
    exact ⟨q1, q2⟩
end Go.Proofs.Ytnokhjhhadnckaa
/- Who owns a store, behind each of the lock's calls. No program in sight. -/
namespace Go.Proofs.Ytnokhjhhadnckaa
open Go.RowKit
theorem getB_put : ∀ (k : Nat) (n : Int), 0 ≤ n → n < 2 ^ (8 * k) → getB (putB n k) = n
  | 0, n, h0, h1 => by
    have : n = 0 := by simp at h1; omega
    subst this; rfl
  | k + 1, n, h0, h1 => by
    have e : putB n (k + 1) = (n % 256) :: putB (n / 256) k := by
      unfold putB
      rw [List.range_succ_eq_map, List.map_cons, List.map_map]
      congr 1
      · simp
      · refine List.map_congr_left fun i _ => ?_
        show n / 2 ^ (8 * (i + 1)) % 256 = n / 256 / 2 ^ (8 * i) % 256
        rw [show 8 * (i + 1) = 8 + 8 * i by omega, Int.pow_add, show (2 : Int) ^ 8 = 256 by rfl, Int.ediv_ediv_of_nonneg (by decide)]
    have h2 : (2 : Int) ^ (8 * (k + 1)) = 256 * 2 ^ (8 * k) := by
      rw [show 8 * (k + 1) = 8 + 8 * k by omega, Int.pow_add]; rfl
    rw [e, getB, getB_put k (n / 256) (by omega) (by omega)]
    omega
theorem putB_bytes (n : Int) (k : Nat) : ∀ x ∈ putB n k, isByte x := fun x hx => by
  obtain ⟨i, _, rfl⟩ := List.mem_map.1 hx
  unfold isByte
  omega
def ownV (v : List Int) (o : Int) : Prop := (v = [] ∧ o = 0) ∨ (v = putB o 8 ∧ 1 ≤ o ∧ o ≤ 1073741824)
theorem ownV_num {v : List Int} {o : Int} (h : ownV v o) : numV v = o := by
  rcases h with ⟨rfl, rfl⟩ | ⟨rfl, h1, h2⟩
  · rfl
  · have hl := putB_length o 8
    unfold numV
    rw [if_neg (by omega), List.take_of_length_le (by omega), getB_put 8 o (by omega) (by omega), ← wrap_eq, IntKind.wrap_i64]
    omega
theorem ownV_bytes {v : List Int} {o : Int} (h : ownV v o) : ∀ x ∈ v, isByte x := by
  rcases h with ⟨rfl, _⟩ | ⟨rfl, _⟩
  · intro x hx; cases hx
  · exact putB_bytes o 8
theorem ownV_len {v : List Int} {o : Int} (h : ownV v o) : v.length ≤ 8 := by
  rcases h with ⟨rfl, _⟩ | ⟨rfl, _⟩
  · simp
  · rw [putB_length]; exact Nat.le_refl _
theorem ownV_bound {v : List Int} {o : Int} (h : ownV v o) : 0 ≤ o ∧ o ≤ 1073741824 := by
  rcases h with ⟨_, rfl⟩ | ⟨_, h1, h2⟩ <;> omega
/-- The store has the lock's object alone, all of it dry; o owns it. -/
structure LkJ (S : Str) (o : Int) : Prop where
  room : S.room = 1000
  one : ∃ x v, One S kL x x [] ∧ objV nmO x v ∧ ownV v o
theorem LkJ.new : LkJ (newS 1000) 0 := ⟨rfl, none, [], One.new 1000 kL, .inl ⟨rfl, rfl⟩, .inl ⟨rfl, rfl⟩⟩
theorem kL_ok : kL.ok = true := by decide
theorem LkJ.attr {S : Str} {o : Int} (h : LkJ S o) (hon : S.on = true) : ∃ v, (attrS S kL nmO).1 = v ∧ ownV v o := by
  obtain ⟨x, v, h1, h2, h3⟩ := h.one
  refine ⟨v, ?_, h3⟩
  have hm := may_of hon kL_ok
  have hg := h1.get
  rcases h2 with ⟨rfl, rfl⟩ | rfl
  · have hw : whyS S kL = 4 := by unfold whyS; rw [if_pos hm, hg]; rfl
    simp [attrS, hw]
  · have hw : whyS S kL = 0 := by unfold whyS; rw [if_pos hm, hg]; rfl
    unfold attrS
    rw [if_pos hw, hg]
    unfold kObj
    by_cases hv : v = []
    · subst hv; rfl
    · simp [hv, get]
theorem LkJ.bytes {S : Str} {o : Int} (h : LkJ S o) (hon : S.on = true) : (∀ x ∈ (attrS S kL nmO).1, isByte x) ∧ (attrS S kL nmO).1.length ≤ 1000000 := by
  obtain ⟨v, e, hv⟩ := h.attr hon
  rw [e]
  exact ⟨ownV_bytes hv, Nat.le_trans (ownV_len hv) (by decide)⟩
theorem LkJ.who {S : Str} {o : Int} (h : LkJ S o) (hon : S.on = true) : whoS S = (o, 0) := by
  obtain ⟨v, e, hv⟩ := h.attr hon
  unfold whoS
  rw [if_neg (by simp [hon]), e, ownV_num hv]
/-- How a call that writes ends: done, or the power went. -/
def Went (S : Str) (o o' : Int) (r : Int × Str) : Prop :=
  (r.1 = 0 ∧ r.2.on = true ∧ LkJ r.2 o' ∧ r.2.armed = S.armed) ∨ (S.armed = true ∧ r.1 = 7 ∧ r.2.on = false ∧ r.2.armed = false ∧ ∃ n, LkJ r.2 n ∧ (n = o ∨ n = o'))
theorem LkJ.keep {S : Str} {o o' : Int} {b : List Int} (h : LkJ S o) (hon : S.on = true) (hb : ownV b o') :
    (setS (if whyS S kL ≠ 0 then (makeS S kL).2 else S) kL nmO b).1 ≠ 6 ∧ Went S o o' (keepS S kL nmO b) := by
  obtain ⟨x, v, h1, h2, h3⟩ := h.one
  have hbl := ownV_len hb
  have hvl := ownV_len h3
  obtain ⟨q1, q2⟩ := keep_law (b := b) h1 h2 hon kL_ok (by decide) (by decide) (by omega) (by omega) (by rw [h.room]; show ((1 : Nat) : Int) + _ ≤ _; omega) (by rw [h.room]; decide)
  refine ⟨q1, ?_⟩
  rcases q2 with ⟨r1, r2, r3, r4, r5⟩ | ⟨r0, r1, r2, r3, r4, z, r5, r6⟩
  · exact .inl ⟨r1, r2, ⟨r4.trans h.room, _, b, r3, .inr rfl, hb⟩, r5⟩
  · refine .inr ⟨r0, r1, r2, r4, ?_⟩
    rcases r6 with r6 | r6
    · exact ⟨o, ⟨r3.trans h.room, z, v, r5, r6, h3⟩, .inl rfl⟩
    · exact ⟨o', ⟨r3.trans h.room, z, b, r5, r6, hb⟩, .inr rfl⟩
theorem LkJ.power {S : Str} {o : Int} (h : LkJ S o) : LkJ (powerS S) o := by
  obtain ⟨x, v, h1, h2, h3⟩ := h.one
  exact ⟨h.room, x, v, h1.power, h2, h3⟩
theorem LkJ.fuse {S : Str} {o : Int} (h : LkJ S o) (n : Int) (keep : List Int) (torn : Int) : LkJ (fuseS S n keep torn) o := by
  obtain ⟨x, v, h1, h2, h3⟩ := h.one
  refine ⟨?_, x, v, h1.fuse n keep torn, h2, h3⟩
  unfold fuseS
  split <;> exact h.room
theorem LkJ.fall {S : Str} {o : Int} (h : LkJ S o) (hon : S.on = true) (keep : List Int) (torn : Int) : LkJ (fallS S keep torn).1 o ∧ (fallS S keep torn).1.on = false ∧ (fallS S keep torn).1.armed = false := by
  obtain ⟨x, v, h1, h2, h3⟩ := h.one
  have hvl := ownV_len h3
  have hf : fine x := by
    rcases h2 with ⟨rfl, _⟩ | rfl
    · exact none_fine
    · exact kObj_fine nmO v (by decide) (by omega)
  have hs : stays x [] (keepAt keep 0) torn = x := by simp [stays]
  obtain ⟨g1, g2, g3, g4⟩ := h1.fell hon keep torn hf (by rw [hs]; exact hf)
  rw [hs] at g1
  exact ⟨⟨g3.trans h.room, x, v, g1, h2, h3⟩, g2, g4⟩
/-- The document's answer: who owns it behind a call, and what it answers. -/
def theirsS (own what who : Int) : Int × Int :=
  if what < 0 ∨ 2 < what then (own, 0) else if who < 1 ∨ 1073741824 < who then (own, 1)
  else if (what = 0 ∧ own ≠ 0 ∧ own ≠ who) ∨ (what = 1 ∧ own ≠ who) then (own, 8) else if what = 1 then (0, 0) else (who, 0)
def oursS (S : Str) (what who : Int) : Int × Str := if what = 0 then takeS S who else if what = 1 then gbackS S who else if what = 2 then brkS S who else (0, S)
theorem ours_law {S : Str} {o what who : Int} (h : LkJ S o) (hon : S.on = true) :
    ((oursS S what who).1 = (theirsS o what who).2 ∧ (oursS S what who).2.on = true ∧ LkJ (oursS S what who).2 (theirsS o what who).1 ∧ (oursS S what who).2.armed = S.armed) ∨
    (S.armed = true ∧ (oursS S what who).1 = 7 ∧ (oursS S what who).2.on = false ∧ (oursS S what who).2.armed = false ∧ ∃ n, LkJ (oursS S what who).2 n ∧ (n = o ∨ n = (theirsS o what who).1)) := by
  have hw := h.who hon
  by_cases hwb : who < 1 ∨ 1073741824 < who
  · have hm : lmayS S who = 1 := by unfold lmayS; rw [if_neg (by simp [hon]), if_pos hwb]
    left
    unfold oursS theirsS takeS gbackS brkS
    rw [hm]
    by_cases h0 : what = 0
    · subst h0; simp [hwb, hon, h]
    · by_cases h1 : what = 1
      · subst h1; simp [hwb, hon, h]
      · by_cases h2 : what = 2
        · subst h2; simp [hwb, hon, h]
        · have : what < 0 ∨ 2 < what := by omega
          simp [h0, h1, h2, this, hon, h]
  · have hm : lmayS S who = 0 := by unfold lmayS; rw [if_neg (by simp [hon]), if_neg hwb]
    have hb : ownV (putB who 8) who := .inr ⟨rfl, by omega, by omega⟩
    have hk := (h.keep hon hb).2
    have hk0 := (h.keep hon (b := []) (o' := 0) (.inl ⟨rfl, rfl⟩)).2
    have hbrk : brkS S who = keepS S kL nmO (putB who 8) := by simp [brkS, hm]
    by_cases h0 : what = 0
    · subst h0
      have e1 : oursS S 0 who = takeS S who := rfl
      have e2 : takeS S who = if o ≠ 0 ∧ o ≠ who then (8, S) else brkS S who := by unfold takeS; rw [if_neg (by simp [hm]), hw]
      have e3 : theirsS o 0 who = if o ≠ 0 ∧ o ≠ who then (o, 8) else (who, 0) := by
        unfold theirsS
        rw [if_neg (by omega), if_neg hwb]
        by_cases hc : o ≠ 0 ∧ o ≠ who
        · rw [if_pos (.inl ⟨rfl, hc⟩), if_pos hc]
        · rw [if_neg (by rintro (⟨_, h⟩ | ⟨h, _⟩); exact hc h; cases h), if_neg hc]
          rfl
      rw [e1, e2, e3]
      by_cases hc : o ≠ 0 ∧ o ≠ who
      · rw [if_pos hc, if_pos hc]; exact .inl ⟨rfl, hon, h, rfl⟩
      · rw [if_neg hc, if_neg hc, hbrk]; exact hk
    · by_cases h1 : what = 1
      · subst h1
        have e1 : oursS S 1 who = gbackS S who := rfl
        have e2 : gbackS S who = if o ≠ who then (8, S) else keepS S kL nmO [] := by unfold gbackS; rw [if_neg (by simp [hm]), hw]
        have e3 : theirsS o 1 who = if o ≠ who then (o, 8) else (0, 0) := by
          unfold theirsS
          rw [if_neg (by omega), if_neg hwb]
          by_cases hc : o ≠ who
          · rw [if_pos (.inr ⟨rfl, hc⟩), if_pos hc]
          · rw [if_neg (by rintro (⟨h, _⟩ | ⟨_, h⟩); cases h; exact hc h), if_neg hc]
            rfl
        rw [e1, e2, e3]
        by_cases hc : o ≠ who
        · rw [if_pos hc, if_pos hc]; exact .inl ⟨rfl, hon, h, rfl⟩
        · rw [if_neg hc, if_neg hc]; exact hk0
      · by_cases h2 : what = 2
        · subst h2
          have e1 : oursS S 2 who = brkS S who := rfl
          have e3 : theirsS o 2 who = (who, 0) := by
            unfold theirsS
            rw [if_neg (by omega), if_neg hwb, if_neg (by rintro (⟨h, _⟩ | ⟨h, _⟩) <;> cases h)]
            rfl
          rw [e1, e3, hbrk]
          exact hk
        · have e1 : oursS S what who = (0, S) := by simp [oursS, h0, h1, h2]
          have e3 : theirsS o what who = (o, 0) := by unfold theirsS; rw [if_pos (by omega)]
          rw [e1, e3]
          exact .inl ⟨rfl, hon, h, rfl⟩
theorem ours_keeps {S : Str} {what who : Int} {m : Nat} (h : Keeps S (m + 4)) : Keeps (oursS S what who).2 m := by
  have h0 : Keeps S m := h.fewer (by omega)
  have h1 : Keeps (brkS S who).2 m := by
    unfold brkS
    split
    · exact h0
    · exact keepS_keeps h
  unfold oursS
  split
  · unfold takeS
    split
    · exact h0
    · split
      · exact h0
      · exact h1
  · split
    · unfold gbackS
      split
      · exact h0
      · split
        · exact h0
        · exact keepS_keeps h
    · split
      · exact h1
      · exact h0
end Go.Proofs.Ytnokhjhhadnckaa
/- The lock's calls as the document's answer; hectographlaw19.known. -/
namespace Go.Proofs.Ytnokhjhhadnckaa
open Go.RowKit
section
variable {W w : World} {I : Hp} {l : List HP} {p : Nat} {S : Str}
theorem fuse_any (n : Int) (kv : Value) (keep : List Int) (torn : Int) (h : St W I w (storeHP p S :: l)) (hk : IntsI I kv keep) (hn : keep.length ≤ 1000000) :
    Calls Try.prog 33 #[.pointer (some ⟨p, 0, none⟩), .int .i64 n, kv, .int .i64 torn] w fun e w' => ∃ I', I.sub I' ∧ e = .returned (.tuple #[]) ∧ St W I' w' (storeHP p (fuseS S n keep torn) :: l) := by
  obtain ⟨B, h1⟩ := h.store_open
  have h2 := (h1.pull 5 _ rfl).drop
  refine (fuse_spec n kv keep torn h2 hk hn).mono ?_
  rintro e w' ⟨rfl, vk, I', hs, hv, h3⟩
  refine ⟨I', hs, rfl, St.store_shut (B := { B with vk := vk }) ?_⟩
  have e1 : seenHP B S = seenHP { B with vk := vk } (fuseS S n keep torn) := by unfold seenHP fuseS; split <;> rfl
  have e2 : dryHP B S = dryHP { B with vk := vk } (fuseS S n keep torn) := by unfold dryHP fuseS; split <;> rfl
  have e3 : lateHP B S = lateHP { B with vk := vk } (fuseS S n keep torn) := by unfold lateHP fuseS; split <;> rfl
  have e4 : keyHP B S = keyHP { B with vk := vk } (fuseS S n keep torn) := by unfold keyHP fuseS; split <;> rfl
  rw [← e1, ← e2, ← e3, ← e4]
  exact (St.imm_shut (A := intsIP vk (fuseS S n keep torn).keep) hv h3).perm (by ((try simp only [List.eraseIdx_cons_succ, List.eraseIdx_cons_zero, List.cons_append, List.nil_append]); repeat (first | with_reducible exact List.Perm.refl _ | (apply perm_step; (· repeat (first | with_reducible exact find_here | with_reducible apply find_there))))))
end
theorem fuse_on {S : Str} (n : Int) (keep : List Int) (torn : Int) : (fuseS S n keep torn).on = S.on := by unfold fuseS; split <;> rfl
theorem fuse_off {S : Str} : (fuseS S (-1) [] 0).armed = false := rfl
theorem LkJ.notfull {S : Str} {o : Int} (h : LkJ S o) (b : List Int) (hb : b.length ≤ 8) : (setS (if whyS S kL ≠ 0 then (makeS S kL).2 else S) kL nmO b).1 ≠ 6 := by
  cases hon : S.on with
  | true =>
    obtain ⟨x, v, h1, h2, h3⟩ := h.one
    have hvl := ownV_len h3
    exact (keep_law (b := b) h1 h2 hon kL_ok (by decide) (by decide) (by omega) (by omega) (by rw [h.room]; show ((1 : Nat) : Int) + _ ≤ _; omega) (by rw [h.room]; decide)).1
  | false =>
    have hm : mayS S kL = 7 := by simp [mayS, hon]
    have hw : whyS S kL = 7 := by unfold whyS; rw [hm]; rfl
    have hk : makeS S kL = (7, S) := by simp [makeS, hw]
    rw [if_pos (by rw [hw]; decide), hk, setS_why (by rw [hw]; decide), hw]
    show (7 : Int) ≠ 6
    decide
theorem LkJ.bytes' {S : Str} {o : Int} (h : LkJ S o) : (∀ x ∈ (attrS S kL nmO).1, isByte x) ∧ (attrS S kL nmO).1.length ≤ 1000000 := by
  cases hon : S.on with
  | true => exact h.bytes hon
  | false =>
    have hm : mayS S kL = 7 := by simp [mayS, hon]
    have hw : whyS S kL = 7 := by unfold whyS; rw [hm]; rfl
    have : attrS S kL nmO = ([], 7) := by simp [attrS, hw]
    rw [this]
    exact ⟨(fun x hx => by cases hx), by simp⟩
section
variable {W w : World} {I : Hp} {l : List HP} {p : Nat} {S : Str}
theorem take_any (who : Int) {o : Int} {m : Nat} (h : St W I w (storeHP p S :: l)) (hk : Keeps S (m + 4)) (hj : LkJ S o) :
    Calls Try.prog 37 #[.pointer (some ⟨p, 0, none⟩), .int .i64 who] w fun e w' => ∃ I', I.sub I' ∧ e = .returned (.int .i64 (takeS S who).1) ∧ St W I' w' (storeHP p (takeS S who).2 :: l) :=
  take_spec who h hk hj.bytes'.1 hj.bytes'.2 (hj.notfull _ (by rw [putB_length]; exact Nat.le_refl _))
theorem gback_any (who : Int) {o : Int} {m : Nat} (h : St W I w (storeHP p S :: l)) (hk : Keeps S (m + 4)) (hj : LkJ S o) :
    Calls Try.prog 38 #[.pointer (some ⟨p, 0, none⟩), .int .i64 who] w fun e w' => ∃ I', I.sub I' ∧ e = .returned (.int .i64 (gbackS S who).1) ∧ St W I' w' (storeHP p (gbackS S who).2 :: l) :=
  gback_spec who h hk hj.bytes'.1 hj.bytes'.2 (hj.notfull _ (by decide))
theorem brk_any (who : Int) {o : Int} {m : Nat} (h : St W I w (storeHP p S :: l)) (hk : Keeps S (m + 4)) (hj : LkJ S o) :
    Calls Try.prog 40 #[.pointer (some ⟨p, 0, none⟩), .int .i64 who] w fun e w' => ∃ I', I.sub I' ∧ e = .returned (.int .i64 (brkS S who).1) ∧ St W I' w' (storeHP p (brkS S who).2 :: l) :=
  brk_spec who h hk (hj.notfull _ (by rw [putB_length]; exact Nat.le_refl _))
/-- A store that is on, and no fuse: o owns it. -/
structure LkC (S : Str) (o : Int) (m : Nat) : Prop where
  j : LkJ S o
  on : S.on = true
  arm : S.armed = false
  keeps : Keeps S m
theorem LkC.new (m : Nat) (h : m ≤ 100000) : LkC (newS 1000) 0 m := ⟨LkJ.new, rfl, rfl, (keeps_new 1000).fewer h⟩
theorem LkC.step {S : Str} {o : Int} {m : Nat} (h : LkC S o (m + 4)) (what who : Int) : (oursS S what who).1 = (theirsS o what who).2 ∧ LkC (oursS S what who).2 (theirsS o what who).1 m := by
  rcases ours_law (what := what) (who := who) h.j h.on with ⟨h1, h2, h3, h4⟩ | ⟨h1, _⟩
  · exact ⟨h1, h3, h2, h4.trans h.arm, ours_keeps h.keeps⟩
  · rw [h.arm] at h1; cases h1
theorem take_calm (who : Int) {o : Int} {m : Nat} (h : St W I w (storeHP p S :: l)) (hk : LkC S o (m + 4)) :
    Calls Try.prog 37 #[.pointer (some ⟨p, 0, none⟩), .int .i64 who] w fun e w' => ∃ I' S', I.sub I' ∧ e = .returned (.int .i64 (theirsS o 0 who).2) ∧ St W I' w' (storeHP p S' :: l) ∧ LkC S' (theirsS o 0 who).1 m := by
  have hs := hk.step 0 who
  refine (take_any who h hk.keeps hk.j).mono ?_
  rintro e w' ⟨I', h1, rfl, h3⟩
  exact ⟨I', _, h1, by rw [← hs.1]; rfl, h3, hs.2⟩
theorem give_calm (who : Int) {o : Int} {m : Nat} (h : St W I w (storeHP p S :: l)) (hk : LkC S o (m + 4)) :
    Calls Try.prog 38 #[.pointer (some ⟨p, 0, none⟩), .int .i64 who] w fun e w' => ∃ I' S', I.sub I' ∧ e = .returned (.int .i64 (theirsS o 1 who).2) ∧ St W I' w' (storeHP p S' :: l) ∧ LkC S' (theirsS o 1 who).1 m := by
  have hs := hk.step 1 who
  refine (gback_any who h hk.keeps hk.j).mono ?_
  rintro e w' ⟨I', h1, rfl, h3⟩
  exact ⟨I', _, h1, by rw [← hs.1]; rfl, h3, hs.2⟩
theorem brk_calm (who : Int) {o : Int} {m : Nat} (h : St W I w (storeHP p S :: l)) (hk : LkC S o (m + 4)) :
    Calls Try.prog 40 #[.pointer (some ⟨p, 0, none⟩), .int .i64 who] w fun e w' => ∃ I' S', I.sub I' ∧ e = .returned (.int .i64 (theirsS o 2 who).2) ∧ St W I' w' (storeHP p S' :: l) ∧ LkC S' (theirsS o 2 who).1 m := by
  have hs := hk.step 2 who
  refine (brk_any who h hk.keeps hk.j).mono ?_
  rintro e w' ⟨I', h1, rfl, h3⟩
  exact ⟨I', _, h1, by rw [← hs.1]; rfl, h3, hs.2⟩
theorem who_any {o : Int} {m : Nat} (h : St W I w (storeHP p S :: l)) (hk : Keeps S m) (hj : LkJ S o) :
    Calls Try.prog 43 #[.pointer (some ⟨p, 0, none⟩)] w fun e w' => e = .returned (.tuple #[.int .i64 (whoS S).1, .int .i64 (whoS S).2]) ∧ Below w.heap.size w w' :=
  who_spec h hk.inv hj.bytes'.1 hj.bytes'.2
set_option maxRecDepth 4000
set_option maxHeartbeats 4000000
theorem known19_spec (w : World) : Calls Try.prog 39 #[] w fun e w' => e = .returned (.bool true) ∧ Below w.heap.size w w' := by
  have t0 : theirsS 0 0 0 = (0, 1) := by decide
  have t1 : theirsS 0 1 1 = (0, 8) := by decide
  have t2 : theirsS 0 0 4 = (4, 0) := by decide
  have t3 : theirsS 4 0 5 = (4, 8) := by decide
  have T0 := Lib.hid t0
  have T1 := Lib.hid t1
  have T2 := Lib.hid t2
  have T3 := Lib.hid t3
  clear t0 t1 t2 t3
  go_enter Try.func39, Try.ntmps39
  go_wp2_with fail
  refine (new_spec 1000 (St.init w)).mono ?_
  rintro e w1 ⟨p, rfl, h1⟩
  have H1 := Lib.hid h1
  have C1 := Lib.hid (LkC.new 100 (by omega))
  clear h1
  go_wp2_with fail
  have hwc := who_any H1.out C1.out.keeps C1.out.j
  rw [C1.out.j.who C1.out.on] at hwc
  refine hwc.mono ?_
  rintro e w2 ⟨rfl, hb2⟩
  have H2 := Lib.hid (H1.out.keep hb2)
  clear hb2 hwc
  go_wp2_with fail
  have hc := take_calm (m := 96) 0 H2.out C1.out
  rw [T0.out] at hc
  refine hc.mono ?_
  rintro e w3 ⟨I3, S3, hs3, rfl, h3, c3⟩
  have H3 := Lib.hid h3
  have C3 := Lib.hid c3
  clear h3 c3 hc hs3
  go_wp2_with fail
  have hc := give_calm (m := 92) 1 H3.out C3.out
  rw [T1.out] at hc
  refine hc.mono ?_
  rintro e w4 ⟨I4, S4, hs4, rfl, h4, c4⟩
  have H4 := Lib.hid h4
  have C4 := Lib.hid c4
  clear h4 c4 hc hs4
  go_wp2_with fail
  have hc := take_calm (m := 88) 4 H4.out C4.out
  rw [T2.out] at hc
  refine hc.mono ?_
  rintro e w5 ⟨I5, S5, hs5, rfl, h5, c5⟩
  have H5 := Lib.hid h5
  have C5 := Lib.hid c5
  clear h5 c5 hc hs5
  go_wp2_with fail
  have hc := take_calm (m := 84) 5 H5.out C5.out
  rw [T3.out] at hc
  refine hc.mono ?_
  rintro e w6 ⟨I6, S6, hs6, rfl, h6, c6⟩
  have H6 := Lib.hid h6
  clear h6 c6 hc hs6
  go_wp2_with fail
  go_ret
  exact ⟨rfl, H6.out.below⟩
end
end Go.Proofs.Ytnokhjhhadnckaa
