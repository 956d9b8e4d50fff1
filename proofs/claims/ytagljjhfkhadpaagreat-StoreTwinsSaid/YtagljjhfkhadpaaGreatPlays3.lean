/- StorePlays, StoreTwins: one act of both stores: what it keeps; the call. -/
import Derived.Test.YtagljjhfkhadpaaGreatSameC
import Derived.Test.YtagljjhfkhadpaaGreatDeedsB
set_option linter.unusedSimpArgs false
set_option linter.unusedVariables false
set_option linter.unusedSectionVars false
namespace Go.Proofs.YtagljjhfkhadpaaGreat
open Go.RowKit
def stepS (S : Str) (a : A3) : Str :=
  if a.what = 9 then (fallS S a.keep a.n).1 else if a.what = 10 then powerS S else if a.what = 11 then fuseS S a.off a.keep a.n else (actS S a).2
def stepR (R : RS) (a : A3) : RS :=
  if a.what = 9 then (rfall R a.keep a.n).1 else if a.what = 10 then { R with off := false } else if a.what = 11 then rfuse R a.off a.keep a.n else if 0 ≤ a.what ∧ a.what < 7 then (actR R a).2 else R
/-- What both stores are between two acts. -/
structure PI (S : Str) (R : RS) (m c : Nat) : Prop where
  sr : SR S R
  okr : OKR R
  ks : Keeps S m
  ri : RInv R c
  tn : R.torn ≤ 9223372036854775807
theorem rfall_torn (R : RS) (keep : List Int) (torn : Int) : (rfall R keep torn).1.torn = R.torn := by
  unfold rfall
  split <;> rfl
theorem rburn_torn (R : RS) : (rburn R).2.torn = R.torn := by
  unfold rburn
  split
  · rfl
  · split
    · rfl
    · exact rfall_torn _ _ _
theorem actR_torn (R : RS) (a : A3) : (actR R a).2.torn = R.torn := by
  unfold actR
  split
  · unfold rbarrier
    split
    · rfl
    · split
      · exact rburn_torn R
      · exact rburn_torn R
  · unfold rdo
    split
    · rfl
    · split
      · exact rburn_torn R
      · exact rburn_torn R
theorem SR.fall2 {S : Str} {R : RS} (h : SR S R) (keep : List Int) (torn : Int) {c : Nat} (hi : RInv R c) : SR (fallS S keep torn).1 (rfall R keep torn).1 ∧ (fallS S keep torn).2 = (rfall R keep torn).2 := by
  cases hof : R.off with
  | true =>
    have hso : S.on = false := by rw [h.on, hof]; rfl
    have e1 : fallS S keep torn = (S, 0) := by unfold fallS; rw [if_neg (by simp [hso])]
    have e2 : rfall R keep torn = (R, 0) := by unfold rfall; rw [if_pos hof]
    rw [e1, e2]
    exact ⟨h, rfl⟩
  | false =>
    obtain ⟨h1, h2⟩ := h.fall hof keep torn
    refine ⟨h1, ?_⟩
    rw [h2]
    have hb := fall_bounds hi keep torn R.l.length (Nat.le_refl _)
    rw [List.take_length] at hb
    have e2 : (rfall R keep torn).2 = (R.l.foldl (fallStep keep torn) ⟨[], 0, 0⟩).lost := by unfold rfall; rw [if_neg (by simp [hof])]
    rw [e2]
    have h3 := hb.2.2.1
    have h4 := hb.2.2.2
    have h5 := hi.len
    have h6 := hi.most
    unfold wrap64
    omega
theorem actS_none {S : Str} {a : A3} (h : a.what < 0 ∨ 6 < a.what) : actS S a = (0, S) := by
  unfold actS
  rw [if_neg (by omega), if_neg (by omega), if_neg (by omega), if_neg (by omega), if_neg (by omega), if_neg (by omega), if_neg (by omega)]
theorem PI.step {S : Str} {R : RS} {m c : Nat} (h : PI S R (m + 2) c) (hc : c + 1 < 2000) (a : A3) (hp : a.p.length ≤ 60) (hk : a.keep.length ≤ 20) (hi : isInt a.off ∧ isInt a.n) : PI (stepS S a) (stepR R a) m (c + 1) := by
  have hin : a.n ≤ 9223372036854775807 := by have := hi.2; unfold isInt at this; omega
  have hio : a.off ≤ 9223372036854775807 := by have := hi.1; unfold isInt at this; omega
  unfold stepS stepR
  by_cases h9 : a.what = 9
  · rw [if_pos h9, if_pos h9]
    exact ⟨(h.sr.fall2 a.keep a.n h.ri).1, h.okr.fall _ _, (fallS_keeps _ _ h.ks).fewer (by omega), (rfall_inv h.ri _ _).more (by omega) (by omega), by rw [rfall_torn]; exact h.tn⟩
  rw [if_neg h9, if_neg h9]
  by_cases h10 : a.what = 10
  · rw [if_pos h10, if_pos h10]
    exact ⟨h.sr.power, h.okr, (powerS_keeps h.ks).fewer (by omega), RInv.more (R := { R with off := false }) ⟨h.ri.len, h.ri.fits, h.ri.keep, h.ri.n, h.ri.most, h.ri.room⟩ (by omega) (by omega), h.tn⟩
  rw [if_neg h10, if_neg h10]
  by_cases h11 : a.what = 11
  · rw [if_pos h11, if_pos h11]
    exact ⟨h.sr.fuse _ _ _, h.okr, (fuseS_keeps h.ks (by omega) hio).fewer (by omega), (show RInv (rfuse R a.off a.keep a.n) c from ⟨h.ri.len, h.ri.fits, (show a.keep.length ≤ 1000000 by omega), hio, h.ri.most, h.ri.room⟩).more (by omega) (by omega), hin⟩
  rw [if_neg h11, if_neg h11]
  by_cases h7 : 0 ≤ a.what ∧ a.what < 7
  · rw [if_pos h7]
    exact ⟨(h.sr.act h.ri (by omega) a h7).2, h.okr.act a, actS_keeps h.ks, actR_inv h.ri hp (by omega), by rw [actR_torn]; exact h.tn⟩
  · rw [if_neg h7, actS_none (by omega)]
    exact ⟨h.sr, h.okr, h.ks.fewer (by omega), h.ri.more (by omega) (by omega), h.tn⟩
theorem PI.new (room : Int) : PI (newS room) (rnew room) 90000 0 := ⟨SR.new room, fun t ht => (by cases ht), (keeps_new room).fewer (by omega), rinv_new room, by show (0 : Int) ≤ _; omega⟩
section
variable {W w : World} {I : Hp} {l : List HP} {p q : Nat} {S : Str} {R : RS}
set_option maxRecDepth 4000
set_option maxHeartbeats 8000000
theorem deedA_spec (a : A3) {m c : Nat} (h : St W I w (storeHP p S :: refHP q R :: l)) (hp : PI S R (m + 2) c) (hc : c + 1 < 2000) (ha : a.ok I) (hpl : a.p.length ≤ 60) (hkl : a.keep.length ≤ 20) :
    Calls Tryz.prog 10 #[.pointer (some ⟨p, 0, none⟩), .pointer (some ⟨q, 0, none⟩), a.val] w fun e w' => ∃ I', I.sub I' ∧ e = .returned (.bool true) ∧ St W I' w' (storeHP p (stepS S a) :: refHP q (stepR R a) :: l) := by
  have hin : isInt a.n := ha.2.2.2.2.2.2.2.2
  by_cases h7 : 0 ≤ a.what ∧ a.what < 7
  · have e1 : stepS S a = (actS S a).2 := by unfold stepS; rw [if_neg (by omega), if_neg (by omega), if_neg (by omega)]
    have e2 : stepR R a = (actR R a).2 := by unfold stepR; rw [if_neg (by omega), if_neg (by omega), if_neg (by omega), if_pos h7]
    rw [e1, e2]
    refine (deed_spec a h7 h hp.ks hp.ri (by omega) ha hpl (fun w2 I2 l2 _ h2 => burn3_spec h2 hp.ri hp.tn)).mono ?_
    rintro e w' ⟨I', hs, rfl, h2⟩
    refine ⟨I', hs, ?_, h2⟩
    rw [(hp.sr.act hp.ri (by omega) a h7).1]
    simp
  · have hno : a.what = 7 ∨ a.what = 8 ∨ a.what = 9 ∨ a.what = 10 ∨ a.what = 11 ∨ (a.what < 0 ∨ 11 < a.what) := by omega
    have eS : a.what ≠ 9 → a.what ≠ 10 → a.what ≠ 11 → stepS S a = S ∧ stepR R a = R := fun n9 n10 n11 => by
      unfold stepS stepR
      rw [if_neg n9, if_neg n10, if_neg n11, if_neg n9, if_neg n10, if_neg n11, if_neg h7, actS_none (by omega)]
      exact ⟨rfl, rfl⟩
    rcases hno with e | e | e | e | e | e
    · obtain ⟨e1, e2⟩ := eS (by omega) (by omega) (by omega)
      rw [e1, e2]
      exact deed7_spec a e h hp.ks hp.ri (by omega) ha hpl (hp.sr.read _ _ _)
    · obtain ⟨e1, e2⟩ := eS (by omega) (by omega) (by omega)
      rw [e1, e2]
      exact deed8_spec a e h hp.ks hp.ri (by omega) ha hpl (hp.sr.attr _ _)
    · have e1 : stepS S a = (fallS S a.keep a.n).1 := by unfold stepS; rw [if_pos e]
      have e2 : stepR R a = (rfall R a.keep a.n).1 := by unfold stepR; rw [if_pos e]
      rw [e1, e2]
      refine (deed9_spec a e h hp.ks hp.ri (by omega) ha hpl hkl (by unfold isInt at hin; omega)).mono ?_
      rintro e w' ⟨I', hs, rfl, h2⟩
      refine ⟨I', hs, ?_, h2⟩
      rw [(hp.sr.fall2 a.keep a.n hp.ri).2]
      simp
    · have e1 : stepS S a = powerS S := by unfold stepS; rw [if_neg (by omega), if_pos e]
      have e2 : stepR R a = { R with off := false } := by unfold stepR; rw [if_neg (by omega), if_pos e]
      rw [e1, e2]
      exact deed10_spec a e h hp.ks hp.ri (by omega) ha hpl (by rw [hp.sr.on]; simp)
    · have e1 : stepS S a = fuseS S a.off a.keep a.n := by unfold stepS; rw [if_neg (by omega), if_neg (by omega), if_pos e]
      have e2 : stepR R a = rfuse R a.off a.keep a.n := by unfold stepR; rw [if_neg (by omega), if_neg (by omega), if_pos e]
      rw [e1, e2]
      exact deed11_spec a e h hp.ks hp.ri (by omega) ha hpl hkl
    · obtain ⟨e1, e2⟩ := eS (by omega) (by omega) (by omega)
      rw [e1, e2]
      exact deedN_spec a e h hp.ks hp.ri (by omega) ha hpl
theorem same_spec3 {m c : Nat} (h : St W I w (storeHP p S :: refHP q R :: l)) (hp : PI S R m c) :
    Calls Tryz.prog 11 #[.pointer (some ⟨p, 0, none⟩), .pointer (some ⟨q, 0, none⟩)] w fun e w' => ∃ I', I.sub I' ∧ e = .returned (.bool true) ∧ St W I' w' (storeHP p S :: refHP q R :: l) :=
  sameL_spec h hp.ks.inv hp.ri hp.sr hp.okr
end
end Go.Proofs.YtagljjhfkhadpaaGreat
