/- Who owns a store, behind each of the lock's calls. No program in sight. -/
import Derived.Test.YtnokhjhhadnckaaKeepLaw
set_option linter.unusedSimpArgs false
set_option linter.unusedVariables false
set_option linter.unusedSectionVars false
namespace Go.Proofs.Ytnokhjhhadnckaa
open Go.RowKit
theorem getB_put : ∀ (k : Nat) (n : Int), 0 ≤ n → n < 2 ^ (8 * k) → getB (putB n k) = n
  | 0, n, h0, h1 => by
    have : n = 0 := by simp at h1; omega
    subst this; rfl
  | k + 1, n, h0, h1 => by
    have e : putB n (k + 1) = (n % 256) :: putB (n / 256) k := by
      unfold putB
      rw [List.range_succ_eq_map, List.map_cons, List.map_map]
      congr 1
      · simp
      · refine List.map_congr_left fun i _ => ?_
        show n / 2 ^ (8 * (i + 1)) % 256 = n / 256 / 2 ^ (8 * i) % 256
        rw [show 8 * (i + 1) = 8 + 8 * i by omega, Int.pow_add, show (2 : Int) ^ 8 = 256 by rfl, Int.ediv_ediv_of_nonneg (by decide)]
    have h2 : (2 : Int) ^ (8 * (k + 1)) = 256 * 2 ^ (8 * k) := by
      rw [show 8 * (k + 1) = 8 + 8 * k by omega, Int.pow_add]; rfl
    rw [e, getB, getB_put k (n / 256) (by omega) (by omega)]
    omega
theorem putB_bytes (n : Int) (k : Nat) : ∀ x ∈ putB n k, isByte x := fun x hx => by
  obtain ⟨i, _, rfl⟩ := List.mem_map.1 hx
  unfold isByte
  omega
def ownV (v : List Int) (o : Int) : Prop := (v = [] ∧ o = 0) ∨ (v = putB o 8 ∧ 1 ≤ o ∧ o ≤ 1073741824)
theorem ownV_num {v : List Int} {o : Int} (h : ownV v o) : numV v = o := by
  rcases h with ⟨rfl, rfl⟩ | ⟨rfl, h1, h2⟩
  · rfl
  · have hl := putB_length o 8
    unfold numV
    rw [if_neg (by omega), List.take_of_length_le (by omega), getB_put 8 o (by omega) (by omega), ← wrap_eq, IntKind.wrap_i64]
    omega
theorem ownV_bytes {v : List Int} {o : Int} (h : ownV v o) : ∀ x ∈ v, isByte x := by
  rcases h with ⟨rfl, _⟩ | ⟨rfl, _⟩
  · intro x hx; cases hx
  · exact putB_bytes o 8
theorem ownV_len {v : List Int} {o : Int} (h : ownV v o) : v.length ≤ 8 := by
  rcases h with ⟨rfl, _⟩ | ⟨rfl, _⟩
  · simp
  · rw [putB_length]; exact Nat.le_refl _
theorem ownV_bound {v : List Int} {o : Int} (h : ownV v o) : 0 ≤ o ∧ o ≤ 1073741824 := by
  rcases h with ⟨_, rfl⟩ | ⟨_, h1, h2⟩ <;> omega
/-- The store has the lock's object alone, all of it dry; o owns it. -/
structure LkJ (S : Str) (o : Int) : Prop where
  room : S.room = 1000
  one : ∃ x v, One S kL x x [] ∧ objV nmO x v ∧ ownV v o
theorem LkJ.new : LkJ (newS 1000) 0 := ⟨rfl, none, [], One.new 1000 kL, .inl ⟨rfl, rfl⟩, .inl ⟨rfl, rfl⟩⟩
theorem kL_ok : kL.ok = true := by decide
theorem LkJ.attr {S : Str} {o : Int} (h : LkJ S o) (hon : S.on = true) : ∃ v, (attrS S kL nmO).1 = v ∧ ownV v o := by
  obtain ⟨x, v, h1, h2, h3⟩ := h.one
  refine ⟨v, ?_, h3⟩
  have hm := may_of hon kL_ok
  have hg := h1.get
  rcases h2 with ⟨rfl, rfl⟩ | rfl
  · have hw : whyS S kL = 4 := by unfold whyS; rw [if_pos hm, hg]; rfl
    simp [attrS, hw]
  · have hw : whyS S kL = 0 := by unfold whyS; rw [if_pos hm, hg]; rfl
    unfold attrS
    rw [if_pos hw, hg]
    unfold kObj
    by_cases hv : v = []
    · subst hv; rfl
    · simp [hv, get]
theorem LkJ.bytes {S : Str} {o : Int} (h : LkJ S o) (hon : S.on = true) : (∀ x ∈ (attrS S kL nmO).1, isByte x) ∧ (attrS S kL nmO).1.length ≤ 1000000 := by
  obtain ⟨v, e, hv⟩ := h.attr hon
  rw [e]
  exact ⟨ownV_bytes hv, Nat.le_trans (ownV_len hv) (by decide)⟩
theorem LkJ.who {S : Str} {o : Int} (h : LkJ S o) (hon : S.on = true) : whoS S = (o, 0) := by
  obtain ⟨v, e, hv⟩ := h.attr hon
  unfold whoS
  rw [if_neg (by simp [hon]), e, ownV_num hv]
/-- How a call that writes ends: done, or the power went. -/
def Went (S : Str) (o o' : Int) (r : Int × Str) : Prop :=
  (r.1 = 0 ∧ r.2.on = true ∧ LkJ r.2 o' ∧ r.2.armed = S.armed) ∨ (S.armed = true ∧ r.1 = 7 ∧ r.2.on = false ∧ r.2.armed = false ∧ ∃ n, LkJ r.2 n ∧ (n = o ∨ n = o'))
theorem LkJ.keep {S : Str} {o o' : Int} {b : List Int} (h : LkJ S o) (hon : S.on = true) (hb : ownV b o') :
    (setS (if whyS S kL ≠ 0 then (makeS S kL).2 else S) kL nmO b).1 ≠ 6 ∧ Went S o o' (keepS S kL nmO b) := by
  obtain ⟨x, v, h1, h2, h3⟩ := h.one
  have hbl := ownV_len hb
  have hvl := ownV_len h3
  obtain ⟨q1, q2⟩ := keep_law (b := b) h1 h2 hon kL_ok (by decide) (by decide) (by omega) (by omega) (by rw [h.room]; show ((1 : Nat) : Int) + _ ≤ _; omega) (by rw [h.room]; decide)
  refine ⟨q1, ?_⟩
  rcases q2 with ⟨r1, r2, r3, r4, r5⟩ | ⟨r0, r1, r2, r3, r4, z, r5, r6⟩
  · exact .inl ⟨r1, r2, ⟨r4.trans h.room, _, b, r3, .inr rfl, hb⟩, r5⟩
  · refine .inr ⟨r0, r1, r2, r4, ?_⟩
    rcases r6 with r6 | r6
    · exact ⟨o, ⟨r3.trans h.room, z, v, r5, r6, h3⟩, .inl rfl⟩
    · exact ⟨o', ⟨r3.trans h.room, z, b, r5, r6, hb⟩, .inr rfl⟩
theorem LkJ.power {S : Str} {o : Int} (h : LkJ S o) : LkJ (powerS S) o := by
  obtain ⟨x, v, h1, h2, h3⟩ := h.one
  exact ⟨h.room, x, v, h1.power, h2, h3⟩
theorem LkJ.fuse {S : Str} {o : Int} (h : LkJ S o) (n : Int) (keep : List Int) (torn : Int) : LkJ (fuseS S n keep torn) o := by
  obtain ⟨x, v, h1, h2, h3⟩ := h.one
  refine ⟨?_, x, v, h1.fuse n keep torn, h2, h3⟩
  unfold fuseS
  split <;> exact h.room
theorem LkJ.fall {S : Str} {o : Int} (h : LkJ S o) (hon : S.on = true) (keep : List Int) (torn : Int) : LkJ (fallS S keep torn).1 o ∧ (fallS S keep torn).1.on = false ∧ (fallS S keep torn).1.armed = false := by
  obtain ⟨x, v, h1, h2, h3⟩ := h.one
  have hvl := ownV_len h3
  have hf : fine x := by
    rcases h2 with ⟨rfl, _⟩ | rfl
    · exact none_fine
    · exact kObj_fine nmO v (by decide) (by omega)
  have hs : stays x [] (keepAt keep 0) torn = x := by simp [stays]
  obtain ⟨g1, g2, g3, g4⟩ := h1.fell hon keep torn hf (by rw [hs]; exact hf)
  rw [hs] at g1
  exact ⟨⟨g3.trans h.room, x, v, g1, h2, h3⟩, g2, g4⟩
/-- The document's answer: who owns it behind a call, and what it answers. -/
def theirsS (own what who : Int) : Int × Int :=
  if what < 0 ∨ 2 < what then (own, 0) else if who < 1 ∨ 1073741824 < who then (own, 1)
  else if (what = 0 ∧ own ≠ 0 ∧ own ≠ who) ∨ (what = 1 ∧ own ≠ who) then (own, 8) else if what = 1 then (0, 0) else (who, 0)
def oursS (S : Str) (what who : Int) : Int × Str := if what = 0 then takeS S who else if what = 1 then gbackS S who else if what = 2 then brkS S who else (0, S)
theorem ours_law {S : Str} {o what who : Int} (h : LkJ S o) (hon : S.on = true) :
    ((oursS S what who).1 = (theirsS o what who).2 ∧ (oursS S what who).2.on = true ∧ LkJ (oursS S what who).2 (theirsS o what who).1 ∧ (oursS S what who).2.armed = S.armed) ∨
    (S.armed = true ∧ (oursS S what who).1 = 7 ∧ (oursS S what who).2.on = false ∧ (oursS S what who).2.armed = false ∧ ∃ n, LkJ (oursS S what who).2 n ∧ (n = o ∨ n = (theirsS o what who).1)) := by
  have hw := h.who hon
  by_cases hwb : who < 1 ∨ 1073741824 < who
  · have hm : lmayS S who = 1 := by unfold lmayS; rw [if_neg (by simp [hon]), if_pos hwb]
    left
    unfold oursS theirsS takeS gbackS brkS
    rw [hm]
    by_cases h0 : what = 0
    · subst h0; simp [hwb, hon, h]
    · by_cases h1 : what = 1
      · subst h1; simp [hwb, hon, h]
      · by_cases h2 : what = 2
        · subst h2; simp [hwb, hon, h]
        · have : what < 0 ∨ 2 < what := by omega
          simp [h0, h1, h2, this, hon, h]
  · have hm : lmayS S who = 0 := by unfold lmayS; rw [if_neg (by simp [hon]), if_neg hwb]
    have hb : ownV (putB who 8) who := .inr ⟨rfl, by omega, by omega⟩
    have hk := (h.keep hon hb).2
    have hk0 := (h.keep hon (b := []) (o' := 0) (.inl ⟨rfl, rfl⟩)).2
    have hbrk : brkS S who = keepS S kL nmO (putB who 8) := by simp [brkS, hm]
    by_cases h0 : what = 0
    · subst h0
      have e1 : oursS S 0 who = takeS S who := rfl
      have e2 : takeS S who = if o ≠ 0 ∧ o ≠ who then (8, S) else brkS S who := by unfold takeS; rw [if_neg (by simp [hm]), hw]
      have e3 : theirsS o 0 who = if o ≠ 0 ∧ o ≠ who then (o, 8) else (who, 0) := by
        unfold theirsS
        rw [if_neg (by omega), if_neg hwb]
        by_cases hc : o ≠ 0 ∧ o ≠ who
        · rw [if_pos (.inl ⟨rfl, hc⟩), if_pos hc]
        · rw [if_neg (by rintro (⟨_, h⟩ | ⟨h, _⟩); exact hc h; cases h), if_neg hc]
          rfl
      rw [e1, e2, e3]
      by_cases hc : o ≠ 0 ∧ o ≠ who
      · rw [if_pos hc, if_pos hc]; exact .inl ⟨rfl, hon, h, rfl⟩
      · rw [if_neg hc, if_neg hc, hbrk]; exact hk
    · by_cases h1 : what = 1
      · subst h1
        have e1 : oursS S 1 who = gbackS S who := rfl
        have e2 : gbackS S who = if o ≠ who then (8, S) else keepS S kL nmO [] := by unfold gbackS; rw [if_neg (by simp [hm]), hw]
        have e3 : theirsS o 1 who = if o ≠ who then (o, 8) else (0, 0) := by
          unfold theirsS
          rw [if_neg (by omega), if_neg hwb]
          by_cases hc : o ≠ who
          · rw [if_pos (.inr ⟨rfl, hc⟩), if_pos hc]
          · rw [if_neg (by rintro (⟨h, _⟩ | ⟨_, h⟩); cases h; exact hc h), if_neg hc]
            rfl
        rw [e1, e2, e3]
        by_cases hc : o ≠ who
        · rw [if_pos hc, if_pos hc]; exact .inl ⟨rfl, hon, h, rfl⟩
        · rw [if_neg hc, if_neg hc]; exact hk0
      · by_cases h2 : what = 2
        · subst h2
          have e1 : oursS S 2 who = brkS S who := rfl
          have e3 : theirsS o 2 who = (who, 0) := by
            unfold theirsS
            rw [if_neg (by omega), if_neg hwb, if_neg (by rintro (⟨h, _⟩ | ⟨h, _⟩) <;> cases h)]
            rfl
          rw [e1, e3, hbrk]
          exact hk
        · have e1 : oursS S what who = (0, S) := by simp [oursS, h0, h1, h2]
          have e3 : theirsS o what who = (o, 0) := by unfold theirsS; rw [if_pos (by omega)]
          rw [e1, e3]
          exact .inl ⟨rfl, hon, h, rfl⟩
theorem ours_keeps {S : Str} {what who : Int} {m : Nat} (h : Keeps S (m + 4)) : Keeps (oursS S what who).2 m := by
  have h0 : Keeps S m := h.fewer (by omega)
  have h1 : Keeps (brkS S who).2 m := by
    unfold brkS
    split
    · exact h0
    · exact keepS_keeps h
  unfold oursS
  split
  · unfold takeS
    split
    · exact h0
    · split
      · exact h0
      · exact h1
  · split
    · unfold gbackS
      split
      · exact h0
      · split
        · exact h0
        · exact keepS_keeps h
    · split
      · exact h1
      · exact h0
end Go.Proofs.Ytnokhjhhadnckaa
