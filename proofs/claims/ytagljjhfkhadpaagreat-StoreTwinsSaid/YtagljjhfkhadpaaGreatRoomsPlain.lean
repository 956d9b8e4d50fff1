/- A store without falls never takes more than its room. No program in sight. -/
import Derived.Test.YtagljjhfkhadpaaGreatDeeds
import Derived.Test.YtagljjhfkhadpaaGreatSums
set_option linter.unusedSimpArgs false
set_option linter.unusedVariables false
set_option linter.unusedSectionVars false
namespace Go.Proofs.YtagljjhfkhadpaaGreat
open Go.RowKit
/-- What a store keeps as long as nothing falls. -/
structure Roomy (S : Str) (r : Int) : Prop where
  room : S.room = r
  small : 0 ≤ r ∧ r ≤ 1048576
  keys : (S.seen.map (·.1)).Nodup
  used : S.used = sumS S.seen
  most : S.used ≤ r
  calm : S.armed = false
  on : S.on = true
  names : ∀ x ∈ S.seen, (x.2.attr.map (·.1)).Nodup
theorem Roomy.left {S : Str} {r : Int} (h : Roomy S r) : roomS S = r - S.used := by
  have h1 := h.small
  have h2 := h.most
  have h3 := sumS_nonneg S.seen
  rw [← h.used] at h3
  unfold roomS
  rw [h.room]
  have : wrap64 (r - S.used) = r - S.used := by unfold wrap64; omega
  rw [this]
  omega
/-- A deed that takes no more than there is left. -/
theorem Roomy.doS {S : Str} {r : Int} (h : Roomy S r) (k : K4) (d : Dd) (hd : sizeO (stepD (get k S.seen) d) - sizeO (get k S.seen) ≤ r - S.used) (hnm : ∀ t, stepD (get k S.seen) d = some t → (t.attr.map (·.1)).Nodup) :
    Roomy (doS S k d).2 r := by
  have hb : burnsS S = (false, S) := by simp [burnsS, h.calm]
  have hsp := sumS_split h.keys k
  have hdl := sumS_nonneg (del k S.seen)
  have hold : 0 ≤ sizeO (get k S.seen) := by
    cases get k S.seen with
    | none => simp [sizeO]
    | some t => exact ts_nonneg t
  have hnew : 0 ≤ sizeO (stepD (get k S.seen) d) := by
    cases stepD (get k S.seen) d with
    | none => simp [sizeO]
    | some t => exact ts_nonneg t
  have hu := h.used
  have hm := h.most
  have hs := h.small
  have hold2 : wrap64 (sizeO (get k S.seen)) = sizeO (get k S.seen) := by unfold wrap64; omega
  have hused : IntKind.i64.wrap (S.used + (sizeO (stepD (get k S.seen) d) - wrap64 (sizeO (get k S.seen)))) = S.used + (sizeO (stepD (get k S.seen) d) - sizeO (get k S.seen)) := by
    rw [hold2, IntKind.wrap_i64]; omega
  unfold Go.Proofs.YtagljjhfkhadpaaGreat.doS
  rw [hb]
  simp only [Bool.false_eq_true, if_false]
  refine ⟨h.room, hs, ?_, ?_, ?_, h.calm, h.on, ?_⟩
  · unfold showS
    simp only
    cases hst : stepD (get k S.seen) d with
    | none => exact del_nodup h.keys
    | some t => exact put_nodup h.keys
  · unfold showS
    simp only
    rw [hused]
    cases hst : stepD (get k S.seen) d with
    | none =>
      rw [show sizeO (none : Option TS) = 0 from rfl]
      simp only
      omega
    | some t =>
      have : sumS (put k t S.seen) = t.size + sumS (del k S.seen) := by simp [sumS, put]
      rw [this, show sizeO (some t) = t.size from rfl]
      omega
  · unfold showS
    simp only
    rw [hused]
    omega
  · unfold showS
    simp only
    intro x hx
    cases hst : stepD (get k S.seen) d with
    | none => rw [hst] at hx; exact h.names x (List.mem_filter.1 hx).1
    | some t =>
      rw [hst] at hx
      rcases List.mem_cons.1 hx with rfl | hx
      · exact hnm t hst
      · exact h.names x (List.mem_filter.1 hx).1
theorem Roomy.room_of {S : Str} {r : Int} (h : Roomy S r) : 0 ≤ r - S.used := by have := h.most; omega
theorem get_names {S : Str} {r : Int} (h : Roomy S r) {k : K4} {t : TS} (hg : get k S.seen = some t) : (t.attr.map (·.1)).Nodup := h.names _ (get_mem hg)
theorem Roomy.make {S : Str} {r : Int} (h : Roomy S r) (k : K4) : Roomy (makeS S k).2 r := by
  unfold makeS
  split
  · exact h
  · rename_i h0
    split
    · exact h
    · rename_i h4
      split
      · exact h
      · refine h.doS k madeD ?_ ?_
        · have hr := h.room_of
          have hg : 0 ≤ sizeO (get k S.seen) := by
            cases get k S.seen with
            | none => simp [sizeO]
            | some t => exact ts_nonneg t
          have : sizeO (stepD (get k S.seen) madeD) = 0 := by simp [stepD, madeD, sizeO, TS.size, attrSize]
          omega
        · intro t ht
          have : t = ⟨[], []⟩ := by simpa [stepD, madeD] using ht.symm
          rw [this]
          simp
theorem write_size (t : TS) (off : Int) (p : List Int) (h0 : 0 ≤ off) : TS.size { t with b := layB t.b off.toNat p } = if p = [] then t.size else max (t.b.length : Int) (off + p.length) + attrSize t.attr := by
  unfold TS.size
  simp only
  rw [layB_length]
  split
  · rfl
  · omega
theorem Roomy.write {S : Str} {r : Int} (h : Roomy S r) (k : K4) (off : Int) (p : List Int) : Roomy (writeS S k off p).2 r := by
  unfold writeS
  split
  · exact h
  · rename_i t hg
    split
    · exact h
    · split
      · exact h
      · rename_i hw
        have hw' : writeWhy S t off p = 0 := by simpa using hw
        have hl := h.left
        have hr := h.room_of
        unfold writeWhy at hw'
        split at hw'
        · cases hw'
        · rename_i hc
          split at hw'
          · cases hw'
          · rename_i hf
            have hst : stepD (some t) (wroteD off p) = some { t with b := layB t.b off.toNat p } := by simp [stepD, wroteD]
            refine h.doS k (wroteD off p) ?_ ?_
            · rw [hg, hst]
              show TS.size _ - TS.size t ≤ _
              rw [write_size t off p (by omega)]
              split
              · omega
              · rename_i hp
                have hf' : ¬ roomS S < off + p.length - t.b.length := fun hx => hf ⟨hp, hx⟩
                have ht : t.size = t.b.length + attrSize t.attr := rfl
                omega
            · intro u hu
              rw [hg, hst] at hu
              cases hu
              exact (get_names (t := t) h hg : (t.attr.map (·.1)).Nodup)
theorem Roomy.append {S : Str} {r : Int} (h : Roomy S r) (k : K4) (p : List Int) : Roomy (appendS S k p).2 r := by
  unfold appendS
  split
  · exact h
  · exact h.write _ _ _
theorem Roomy.trim {S : Str} {r : Int} (h : Roomy S r) (k : K4) (n : Int) : Roomy (trimS S k n).2 r := by
  unfold trimS
  split
  · rename_i t hg
    split
    · have hst : stepD (some t) (cutD t n) = some { t with b := t.b.take (min (cutD t n).n.toNat t.b.length) } := by simp [stepD, cutD]
      refine h.doS k _ ?_ ?_
      · have hr := h.room_of
        rw [hg, hst]
        show TS.size _ - TS.size t ≤ _
        unfold TS.size
        simp only [List.length_take]
        omega
      · intro u hu
        rw [hg, hst] at hu
        cases hu
        exact (get_names (t := t) h hg : (t.attr.map (·.1)).Nodup)
    · exact h
  · exact h
theorem Roomy.drop {S : Str} {r : Int} (h : Roomy S r) (k : K4) : Roomy (dropS S k).2 r := by
  unfold dropS
  split
  · refine h.doS k _ ?_ ?_
    · have hr := h.room_of
      have hg : 0 ≤ sizeO (get k S.seen) := by
        cases get k S.seen with
        | none => simp [sizeO]
        | some t => exact ts_nonneg t
      have : sizeO (stepD (get k S.seen) ⟨3, 0, [], ⟨#[]⟩⟩) = 0 := by simp [stepD, sizeO]
      omega
    · intro t ht
      simp [stepD] at ht
  · exact h
theorem attr_del {l : List (ByteArray × List Int)} (hn : (l.map (·.1)).Nodup) (nm : ByteArray) : attrSize l = (match get nm l with | some old => (nm.size : Int) + old.length | none => 0) + attrSize (del nm l) := by
  cases hg : get nm l with
  | none => rw [del_of_none hg]; simp
  | some t =>
    have h := sum_perm ((perm_of_get hn hg).map fun x => (x.1.size : Int) + x.2.length)
    unfold attrSize
    rw [h]
    simp
theorem Roomy.set {S : Str} {r : Int} (h : Roomy S r) (k : K4) (nm : ByteArray) (v : List Int) : Roomy (setS S k nm v).2 r := by
  unfold setS
  split
  · exact h
  · rename_i t hg
    split
    · exact h
    · split
      · exact h
      · rename_i hw
        have hw' : setWhy S t nm v = 0 := by simpa using hw
        have hl := h.left
        have hr := h.room_of
        have hnd := get_names h hg
        unfold setWhy at hw'
        split at hw'
        · cases hw'
        · split at hw'
          · cases hw'
          · rename_i hf
            have hst : stepD (some t) (setD nm v) = some { t with attr := setAttr t.attr nm v } := by simp [stepD, setD]
            have hsz : attrSize (setAttr t.attr nm v) = attrSize t.attr + growS t nm v := by
              have := attr_del hnd nm
              have e : attrSize (put nm v t.attr) = ((nm.size : Int) + v.length) + attrSize (del nm t.attr) := by simp [attrSize, put]
              unfold setAttr growS
              rcases hgn : get nm t.attr with _ | old
              · rw [hgn] at this
                simp only at this ⊢
                by_cases hv : v = []
                · rw [if_pos hv, if_pos hv]; omega
                · rw [if_neg hv, if_neg hv]; omega
              · rw [hgn] at this
                simp only at this ⊢
                by_cases hv : v = []
                · rw [if_pos hv, if_pos hv]; omega
                · rw [if_neg hv, if_neg hv]; omega
            refine h.doS k (setD nm v) ?_ ?_
            · rw [hg, hst]
              show TS.size _ - TS.size t ≤ _
              unfold TS.size
              simp only
              rw [hsz]
              omega
            · intro u hu
              rw [hg, hst] at hu
              cases hu
              show ((setAttr t.attr nm v).map (·.1)).Nodup
              unfold setAttr
              split
              · exact del_nodup hnd
              · exact put_nodup hnd
theorem Roomy.barrier {S : Str} {r : Int} (h : Roomy S r) : Roomy (barrierS S).2 r := by
  have hb : burnsS S = (false, S) := by simp [burnsS, h.calm]
  unfold barrierS
  rw [hb]
  split
  · exact h
  · simp only [Bool.false_eq_true, if_false]
    exact ⟨h.room, h.small, h.keys, h.used, h.most, h.calm, h.on, h.names⟩
theorem Roomy.act {S : Str} {r : Int} (h : Roomy S r) (a : A3) : Roomy (actS S a).2 r := by
  unfold actS
  repeat' split
  · exact h.make _
  · exact h.write _ _ _
  · exact h.append _ _
  · exact h.trim _ _
  · exact h.drop _
  · exact h.set _ _ _
  · exact h.barrier
  · exact h
theorem Roomy.new {r : Int} (hr : 0 ≤ r ∧ r ≤ 1048576) : Roomy (newS r) r := by
  refine ⟨?_, hr, by simp [newS], by simp [newS, sumS], by simp [newS]; omega, rfl, rfl, fun x hx => by cases hx⟩
  simp only [newS]
  omega
/-- What is refused for want of room would have been more. -/
theorem Roomy.full {S : Str} {r : Int} (h : Roomy S r) (k : K4) (p : List Int) (he : (appendS S k p).1 = 6) : roomS S < p.length := by
  have hb : burnsS S = (false, S) := by simp [burnsS, h.calm]
  have hd : ∀ d, (Go.Proofs.YtagljjhfkhadpaaGreat.doS S k d).1 = false := fun d => by unfold Go.Proofs.YtagljjhfkhadpaaGreat.doS; rw [hb]; rfl
  have hwy : whyS S k ≠ 6 := by
    unfold whyS mayS
    repeat' split
    all_goals decide
  unfold appendS at he
  split at he
  · exact absurd he hwy
  · rename_i t hg
    unfold writeS at he
    rw [hg] at he
    simp only at he
    split at he
    · exact absurd he hwy
    · split at he
      · unfold writeWhy at he
        split at he
        · simp at he
        · split at he
          · rename_i hx
            have := hx.2
            omega
          · simp at he
      · rw [hd] at he
        simp [offE] at he
end Go.Proofs.YtagljjhfkhadpaaGreat
