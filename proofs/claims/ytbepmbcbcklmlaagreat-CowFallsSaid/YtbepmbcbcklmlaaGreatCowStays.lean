/- What an object is at a mark it stays, whatever falls. No program in sight. -/
import Derived.Test.YtbepmbcbcklmlaaGreatCowKept
set_option linter.unusedSimpArgs false
set_option linter.unusedVariables false
set_option linter.unusedSectionVars false
namespace Go.Proofs.YtbepmbcbcklmlaaGreat
open Go.RowKit
def OkO (v : Option (List Int)) (o : Option TS) : Prop := wholeB o = true → bodyV o = v
/-- Whatever a fall may leave of it is right, or no whole copy. -/
structure AllOk (S : Str) (k : K4) (v : Option (List Int)) : Prop where
  left : ∀ n torn, OkO v (leftS S k n torn).1
  seen : OkO v (get k S.seen)
/-- No deed on it is late. -/
structure Firm (S : Str) (k : K4) (o : Option TS) : Prop where
  late : lateAt S k = []
  dry : get k S.dry = o
  seen : get k S.seen = o
structure HeadC (S : Str) (mark num : Int) (v : Option (List Int)) : Prop where
  t : ∃ t, Firm S (dK 0 num 0) t ∧ t.map (·.b) = v
  ok : ∀ n, mark ≤ n → AllOk S (dK 0 num n) v
structure CopyC (S : Str) (mark num : Int) (v : Option (List Int)) (c : Int) : Prop where
  le : mark ≤ c
  t : ∃ t, Firm S (dK 0 num c) t ∧ wholeB t = true ∧ bodyV t = v
  ok : ∀ n, mark ≤ n → n < c → AllOk S (dK 0 num n) v
def OldN (S : Str) (mark num : Int) (v : Option (List Int)) : Prop := HeadC S mark num v ∨ ∃ c, CopyC S mark num v c
theorem left_nil {S : Str} {k : K4} (h : lateAt S k = []) (n torn : Int) : (leftS S k n torn).1 = get k S.dry := by
  unfold leftS
  rw [h]
  simp
theorem Firm.all {S : Str} {k : K4} {o : Option TS} (h : Firm S k o) {v : Option (List Int)} (ho : OkO v o) : AllOk S k v :=
  ⟨fun n torn => by rw [left_nil h.late, h.dry]; exact ho, by rw [h.seen]; exact ho⟩
theorem Firm.fell {S S' : Str} {keep : List Int} {torn : Int} (hf : Fell S S' keep torn) {k : K4} {o : Option TS} (h : Firm S k o) : Firm S' k o := by
  obtain ⟨N, hN⟩ := hf.obj
  obtain ⟨h1, h2⟩ := hN k
  rw [left_nil h.late, h.dry] at h1 h2
  exact ⟨by unfold lateAt; rw [hf.late]; rfl, h2, h1⟩
theorem AllOk.fell {S S' : Str} {keep : List Int} {torn : Int} (hf : Fell S S' keep torn) {k : K4} {v : Option (List Int)} (h : AllOk S k v) : AllOk S' k v := by
  obtain ⟨N, hN⟩ := hf.obj
  obtain ⟨h1, h2⟩ := hN k
  have hl : lateAt S' k = [] := by unfold lateAt; rw [hf.late]; rfl
  exact ⟨fun n t => by rw [left_nil hl, h2]; exact h.left _ _, by rw [h1]; exact h.left _ _⟩
theorem Firm.bar {S S' : Str} (hd : Dried S S') {k : K4} {o : Option TS} (h : Firm S k o) : Firm S' k o :=
  ⟨by unfold lateAt; rw [hd.late]; rfl, (hd.dry k).trans h.seen, by rw [hd.seen]; exact h.seen⟩
theorem AllOk.bar {S S' : Str} (hd : Dried S S') {k : K4} {v : Option (List Int)} (h : AllOk S k v) : AllOk S' k v :=
  ⟨fun n t => by rw [left_nil (by unfold lateAt; rw [hd.late]; rfl), hd.dry k]; exact h.seen, by rw [hd.seen]; exact h.seen⟩
theorem Firm.other {S S' : Str} {k : K4} {d : Dd} (hd : Done S S' k d) {k' : K4} {o : Option TS} (h : Firm S k' o) (hk : k' ≠ k) : Firm S' k' o :=
  ⟨by rw [hd.late, if_neg hk]; exact h.late, by rw [hd.dry]; exact h.dry, by rw [hd.seen, if_neg hk]; exact h.seen⟩
theorem AllOk.other {S S' : Str} {k : K4} {d : Dd} (hd : Done S S' k d) {k' : K4} {v : Option (List Int)} (h : AllOk S k' v) (hk : k' ≠ k) : AllOk S' k' v :=
  ⟨fun n t => by rw [left_late (S := S) (by rw [hd.late, if_neg hk]) (by rw [hd.dry])]; exact h.left n t, by rw [hd.seen, if_neg hk]; exact h.seen⟩
theorem left_add {S S' : Str} {k : K4} {d : Dd} (hd : Done S S' k d) (hc : Coh S) (n torn : Int) :
    (∃ m, (leftS S' k n torn).1 = (leftS S k m torn).1) ∨ (leftS S' k n torn).1 = get k S.seen ∨ (d.kind = 1 ∧ (leftS S' k n torn).1 = stepD (get k S.seen) (tornD torn d)) ∨ (leftS S' k n torn).1 = stepD (get k S.seen) d := by
  have hl : lateAt S' k = lateAt S k ++ [d] := by rw [hd.late, if_pos rfl]
  have hs := hc k
  obtain ⟨l, hl0⟩ : ∃ l, lateAt S k = l := ⟨_, rfl⟩
  obtain ⟨m, hm⟩ : ∃ m, keptN n (l.length + 1) = m := ⟨_, rfl⟩
  have hm1 : m ≤ l.length + 1 := by rw [← hm]; unfold keptN; omega
  have hle : (l ++ [d]).length = l.length + 1 := by simp
  rw [hl0] at hs hl
  unfold leftS
  rw [hl, hd.dry, hl0]
  simp only
  rw [hle, hm]
  rcases Nat.lt_trichotomy m l.length with h | h | h
  · left
    refine ⟨m, ?_⟩
    have e : keptN (m : Int) l.length = m := by unfold keptN; omega
    rw [e, List.take_append_of_le_length (by omega), List.getElem?_append_left h]
  · right
    subst h
    rw [List.take_left', List.getElem?_append_right (by omega), Nat.sub_self, ← hs]
    · simp only [List.getElem?_cons_zero]
      split
      · rename_i hq; exact .inr (.inl ⟨hq.1, rfl⟩)
      · exact .inl rfl
    · rfl
  · right; right; right
    obtain rfl : m = l.length + 1 := by omega
    rw [List.take_of_length_le (by omega), List.getElem?_eq_none (by omega), List.foldl_append, ← hs]
    rfl
theorem write_whole {o : Option TS} {d : Dd} (h1 : d.kind = 1) (h : wholeB o = false) : wholeB (stepD o d) = false := by
  unfold stepD
  rw [if_neg (by omega), if_neg (by omega)]
  cases o with
  | none => rfl
  | some t => simp only; rw [if_pos h1]; exact h
theorem AllOk.add {S S' : Str} {k : K4} {d : Dd} (hd : Done S S' k d) (hc : Coh S) {v : Option (List Int)} (h : AllOk S k v) (h1 : OkO v (stepD (get k S.seen) d)) (h2 : d.kind = 1 → wholeB (get k S.seen) = false) : AllOk S' k v := by
  refine ⟨fun n torn => ?_, by rw [hd.seen, if_pos rfl]; exact h1⟩
  rcases left_add hd hc n torn with ⟨m, e⟩ | e | ⟨e1, e⟩ | e
  · rw [e]; exact h.left m torn
  · rw [e]; exact h.seen
  · rw [e]
    intro hw
    rw [write_whole (d := tornD torn d) e1 (h2 e1)] at hw
    cases hw
  · rw [e]; exact h1
theorem ok_none (v : Option (List Int)) : OkO v none := fun h => by cases h
theorem AllOk.gone {S S' : Str} {k : K4} (hd : Done S S' k goneD) (hc : Coh S) {v : Option (List Int)} (h : AllOk S k v) : AllOk S' k v :=
  h.add hd hc (by rw [show stepD (get k S.seen) goneD = none from rfl]; exact ok_none v) fun q => by cases q
theorem HeadC.fell {S S' : Str} {keep : List Int} {torn : Int} (hf : Fell S S' keep torn) {mark num : Int} {v : Option (List Int)} (h : HeadC S mark num v) : HeadC S' mark num v :=
  ⟨h.t.imp fun t q => ⟨q.1.fell hf, q.2⟩, fun n hn => (h.ok n hn).fell hf⟩
theorem CopyC.fell {S S' : Str} {keep : List Int} {torn : Int} (hf : Fell S S' keep torn) {mark num c : Int} {v : Option (List Int)} (h : CopyC S mark num v c) : CopyC S' mark num v c :=
  ⟨h.le, h.t.imp fun t q => ⟨q.1.fell hf, q.2⟩, fun n hn hc => (h.ok n hn hc).fell hf⟩
theorem HeadC.bar {S S' : Str} (hd : Dried S S') {mark num : Int} {v : Option (List Int)} (h : HeadC S mark num v) : HeadC S' mark num v :=
  ⟨h.t.imp fun t q => ⟨q.1.bar hd, q.2⟩, fun n hn => (h.ok n hn).bar hd⟩
theorem CopyC.bar {S S' : Str} (hd : Dried S S') {mark num c : Int} {v : Option (List Int)} (h : CopyC S mark num v c) : CopyC S' mark num v c :=
  ⟨h.le, h.t.imp fun t q => ⟨q.1.bar hd, q.2⟩, fun n hn hc => (h.ok n hn hc).bar hd⟩
theorem CopyC.deed {S S' : Str} {k : K4} {d : Dd} (hd : Done S S' k d) (hc : Coh S) {mark num c : Int} {v : Option (List Int)} (h : CopyC S mark num v c) (hk : k ≠ dK 0 num c) (hg : ∀ n, mark ≤ n → n < c → k = dK 0 num n → d = goneD) : CopyC S' mark num v c := by
  refine ⟨h.le, h.t.imp fun t q => ⟨q.1.other hd hk.symm, q.2⟩, fun n hn hnc => ?_⟩
  by_cases e : dK 0 num n = k
  · obtain rfl := hg n hn hnc e.symm
    rw [e]
    exact AllOk.gone hd hc (e ▸ h.ok n hn hnc)
  · exact (h.ok n hn hnc).other hd e
theorem HeadC.deed {S S' : Str} {k : K4} {d : Dd} (hd : Done S S' k d) {mark num : Int} {v : Option (List Int)} (h : HeadC S mark num v) (hk : k ≠ dK 0 num 0) (hg : ∀ n, mark ≤ n → k = dK 0 num n → AllOk S' k v) : HeadC S' mark num v := by
  refine ⟨h.t.imp fun t q => ⟨q.1.other hd hk.symm, q.2⟩, fun n hn => ?_⟩
  by_cases e : dK 0 num n = k
  · rw [e]; exact hg n hn e.symm
  · exact (h.ok n hn).other hd e
theorem OldN.fell {S S' : Str} {keep : List Int} {torn : Int} (hf : Fell S S' keep torn) {mark num : Int} {v : Option (List Int)} (h : OldN S mark num v) : OldN S' mark num v :=
  h.imp (·.fell hf) fun ⟨c, q⟩ => ⟨c, q.fell hf⟩
theorem OldN.bar {S S' : Str} (hd : Dried S S') {mark num : Int} {v : Option (List Int)} (h : OldN S mark num v) : OldN S' mark num v :=
  h.imp (·.bar hd) fun ⟨c, q⟩ => ⟨c, q.bar hd⟩
/-- A deed on another object. -/
theorem OldN.other {S S' : Str} {k : K4} {d : Dd} (hd : Done S S' k d) (hc : Coh S) {mark num : Int} {v : Option (List Int)} (h : OldN S mark num v) (hk : k.num ≠ num) : OldN S' mark num v := by
  have hne : ∀ n, k ≠ dK 0 num n := fun n e => hk (by rw [e]; rfl)
  rcases h with h | ⟨c, h⟩
  · exact .inl (h.deed hd (hne 0) fun n _ e => absurd e (hne n))
  · exact .inr ⟨c, h.deed hd hc (hne c) fun n _ _ e => absurd e (hne n)⟩
theorem AllOk.of {S S' : Str} {k : K4} {v : Option (List Int)} (h : AllOk S k v) (e1 : S'.dry = S.dry) (e2 : S'.late = S.late) (e3 : S'.seen = S.seen) : AllOk S' k v :=
  ⟨fun n t => by rw [left_late (S := S) (by unfold lateAt; rw [e2]) (by rw [e1])]; exact h.left n t, by rw [e3]; exact h.seen⟩
theorem Firm.of {S S' : Str} {k : K4} {o : Option TS} (h : Firm S k o) (e1 : S'.dry = S.dry) (e2 : S'.late = S.late) (e3 : S'.seen = S.seen) : Firm S' k o :=
  ⟨by unfold lateAt; rw [e2]; exact h.late, by rw [e1]; exact h.dry, by rw [e3]; exact h.seen⟩
theorem OldN.of {S S' : Str} {mark num : Int} {v : Option (List Int)} (h : OldN S mark num v) (e1 : S'.dry = S.dry) (e2 : S'.late = S.late) (e3 : S'.seen = S.seen) : OldN S' mark num v :=
  h.imp (fun q => ⟨q.t.imp fun t r => ⟨r.1.of e1 e2 e3, r.2⟩, fun n hn => (q.ok n hn).of e1 e2 e3⟩) fun ⟨c, q⟩ => ⟨c, q.le, q.t.imp fun t r => ⟨r.1.of e1 e2 e3, r.2⟩, fun n hn hc => (q.ok n hn hc).of e1 e2 e3⟩
/-- What it is at the mark. -/
theorem OldN.val {S : Str} (h : KeysOK S) {mark num : Int} {v : Option (List Int)} (ho : OldN S mark num v) (h0 : 0 < mark) : valO (cview S 0) (keysAt S ⟨4, 0⟩) num mark = v := by
  have hi := copies_inc h (cview S 0) 0 num
  have key : ∀ c, (copiesV (cview S 0) (keysAt S ⟨4, 0⟩) num).find? (fun n => decide (mark ≤ n)) = some c → OkO v (cview S 0 num c) → bodyV (cview S 0 num c) = v := fun c hc hok => by
    obtain ⟨a1, _, _⟩ := find_first hi hc
    exact hok ((copies_mem h 0 num c).1 a1).2
  unfold valO
  rw [if_pos h0]
  rcases ho with hh | ⟨c0, hh⟩
  · cases hf : (copiesV (cview S 0) (keysAt S ⟨4, 0⟩) num).find? (fun n => decide (mark ≤ n)) with
    | some c =>
      obtain ⟨_, a2, _⟩ := find_first hi hf
      exact key c hf (hh.ok c a2).seen
    | none =>
      obtain ⟨t, ht, hv⟩ := hh.t
      show (cview S 0 num 0).map (·.b) = v
      rw [show cview S 0 num 0 = t from ht.seen]
      exact hv
  · obtain ⟨t, ht, hw, hv⟩ := hh.t
    have hle := hh.le
    have hm : c0 ∈ copiesV (cview S 0) (keysAt S ⟨4, 0⟩) num := (copies_mem h 0 num c0).2 ⟨by omega, by rw [show cview S 0 num c0 = t from ht.seen]; exact hw⟩
    cases hf : (copiesV (cview S 0) (keysAt S ⟨4, 0⟩) num).find? (fun n => decide (mark ≤ n)) with
    | none =>
      rw [List.find?_eq_none] at hf
      exact absurd hle (by have := hf c0 hm; simpa using this)
    | some c =>
      obtain ⟨a1, a2, a3⟩ := find_first hi hf
      refine key c hf ?_
      rcases Int.lt_trichotomy c c0 with q | q | q
      · exact (hh.ok c a2 q).seen
      · subst q; rw [show cview S 0 num c = t from ht.seen]; exact fun _ => hv
      · exact absurd (a3 c0 hm q) (by omega)
/-- Between two changes: no whole copy from the mark on; or the first one is the mark's, and no deed on it is late. x: a copy that is being made. -/
structure HeadX (S : Str) (mark num : Int) (v : Option (List Int)) (x : Int) : Prop where
  head : HeadC S mark num v
  none : ∀ n, mark ≤ n → n ≠ x → wholeB (get (dK 0 num n) S.seen) = false
structure CopyN (S : Str) (mark num : Int) (v : Option (List Int)) (c : Int) : Prop where
  copy : CopyC S mark num v c
  none : ∀ n, mark ≤ n → n < c → wholeB (get (dK 0 num n) S.seen) = false
def Rest (S : Str) (mark num : Int) (v : Option (List Int)) : Prop := HeadX S mark num v 0 ∨ ∃ c, CopyN S mark num v c
theorem Rest.old {S : Str} {mark num : Int} {v : Option (List Int)} (h : Rest S mark num v) : OldN S mark num v := h.imp (·.head) fun ⟨c, q⟩ => ⟨c, q.copy⟩
theorem OldN.rest {S S' : Str} {keep : List Int} {torn : Int} (hf : Fell S S' keep torn) (hk : KeysOK S') {mark num : Int} {v : Option (List Int)} (h0 : 0 < mark) (h : OldN S mark num v) : Rest S' mark num v := by
  have ho := h.fell hf
  have hl : ∀ k, lateAt S' k = [] := fun k => by unfold lateAt; rw [hf.late]; rfl
  have hds : ∀ k, get k S'.dry = get k S'.seen := fun k => by rw [hf.coh k, hl]; rfl
  have hi := copies_inc hk (cview S' 0) 0 num
  have hval := ho.val hk h0
  unfold valO at hval
  rw [if_pos h0] at hval
  have hnone : ∀ n, mark ≤ n → n ∉ copiesV (cview S' 0) (keysAt S' ⟨4, 0⟩) num → wholeB (get (dK 0 num n) S'.seen) = false := fun n hn hm => by
    cases hw : wholeB (get (dK 0 num n) S'.seen) with
    | false => rfl
    | true => exact absurd ((copies_mem hk 0 num n).2 ⟨by omega, hw⟩) hm
  cases hfi : (copiesV (cview S' 0) (keysAt S' ⟨4, 0⟩) num).find? (fun n => decide (mark ≤ n)) with
  | none =>
    rw [List.find?_eq_none] at hfi
    rcases ho with q | ⟨c, q⟩
    · exact .inl ⟨q, fun n hn _ => hnone n hn fun hm => by have := hfi n hm; simp at this; omega⟩
    · obtain ⟨t, ht, hw, _⟩ := q.t
      have hle := q.le
      have hm : c ∈ copiesV (cview S' 0) (keysAt S' ⟨4, 0⟩) num := (copies_mem hk 0 num c).2 ⟨by omega, by rw [show cview S' 0 num c = t from ht.seen]; exact hw⟩
      have := hfi c hm
      simp at this
      omega
  | some c =>
    rw [hfi] at hval
    obtain ⟨a1, a2, a3⟩ := find_first hi hfi
    obtain ⟨_, hw⟩ := (copies_mem hk 0 num c).1 a1
    refine .inr ⟨c, ⟨a2, ⟨_, ⟨hl _, hds _, rfl⟩, hw, hval⟩, fun n hn hc => ?_⟩, fun n hn hc => hnone n hn fun hm => by have := a3 n hm hc; omega⟩
    rcases ho with q | ⟨c0, q⟩
    · exact q.ok n hn
    · refine q.ok n hn ?_
      obtain ⟨t, ht, hw0, _⟩ := q.t
      have hle := q.le
      have hm0 : c0 ∈ copiesV (cview S' 0) (keysAt S' ⟨4, 0⟩) num := (copies_mem hk 0 num c0).2 ⟨by omega, by rw [show cview S' 0 num c0 = t from ht.seen]; exact hw0⟩
      rcases Int.lt_or_le n c0 with r | r
      · exact r
      · have := a3 c0 hm0 (by omega); omega
theorem HeadX.bar {S S' : Str} (hd : Dried S S') {mark num x : Int} {v : Option (List Int)} (h : HeadX S mark num v x) : HeadX S' mark num v x := ⟨h.head.bar hd, fun n hn hx => by rw [hd.seen]; exact h.none n hn hx⟩
theorem CopyN.bar {S S' : Str} (hd : Dried S S') {mark num c : Int} {v : Option (List Int)} (h : CopyN S mark num v c) : CopyN S' mark num v c := ⟨h.copy.bar hd, fun n hn hx => by rw [hd.seen]; exact h.none n hn hx⟩
theorem Rest.bar {S S' : Str} (hd : Dried S S') {mark num : Int} {v : Option (List Int)} (h : Rest S mark num v) : Rest S' mark num v := h.imp (·.bar hd) fun ⟨c, q⟩ => ⟨c, q.bar hd⟩
theorem gone_whole {S S' : Str} {k : K4} {d : Dd} (hd : Done S S' k d) {k' : K4} (hg : k' = k → d = goneD) (h : wholeB (get k' S.seen) = false) : wholeB (get k' S'.seen) = false := by
  rw [hd.seen]
  by_cases e : k' = k
  · rw [if_pos e, hg e]
    rfl
  · rw [if_neg e]; exact h
theorem CopyN.deed {S S' : Str} {k : K4} {d : Dd} (hd : Done S S' k d) (hc : Coh S) {mark num c : Int} {v : Option (List Int)} (h : CopyN S mark num v c) (hk : k ≠ dK 0 num c) (hg : ∀ n, mark ≤ n → n < c → k = dK 0 num n → d = goneD) : CopyN S' mark num v c :=
  ⟨h.copy.deed hd hc hk hg, fun n hn hx => gone_whole hd (fun e => hg n hn hx e.symm) (h.none n hn hx)⟩
/-- A deed on a copy that is taken, or on the one that is being made. -/
theorem HeadX.gone {S S' : Str} {k : K4} (hd : Done S S' k goneD) (hc : Coh S) {mark num x : Int} {v : Option (List Int)} (h : HeadX S mark num v x) (hk : k ≠ dK 0 num 0) : HeadX S' mark num v x :=
  ⟨h.head.deed hd hk fun n hn e => AllOk.gone hd hc (by rw [e]; exact h.head.ok n hn), fun n hn hx => gone_whole hd (fun _ => rfl) (h.none n hn hx)⟩
theorem HeadX.make {S S' : Str} {d : Dd} {mark num x : Int} (hd : Done S S' (dK 0 num x) d) {v : Option (List Int)} (h : HeadX S mark num v x) (hk : dK 0 num x ≠ dK 0 num 0) (ha : AllOk S' (dK 0 num x) v) : HeadX S' mark num v x :=
  ⟨h.head.deed hd hk fun n _ e => ha, fun n hn hx => by rw [hd.seen, if_neg fun e => hx (dK_inj.1 e).2]; exact h.none n hn hx⟩
theorem Rest.other {S S' : Str} {k : K4} {d : Dd} (hd : Done S S' k d) (hc : Coh S) {mark num : Int} {v : Option (List Int)} (h : Rest S mark num v) (hk : k.num ≠ num) : Rest S' mark num v := by
  have hne : ∀ n, dK 0 num n ≠ k := fun n e => hk (by rw [← e]; rfl)
  rcases h with h | ⟨c, h⟩
  · exact .inl ⟨h.head.deed hd (hne 0).symm fun n _ e => absurd e.symm (hne n), fun n hn hx => by rw [hd.seen, if_neg (hne n)]; exact h.none n hn hx⟩
  · exact .inr ⟨c, h.deed hd hc (hne c).symm fun n _ _ e => absurd e.symm (hne n)⟩
theorem Rest.of {S S' : Str} {mark num : Int} {v : Option (List Int)} (h : Rest S mark num v) (e1 : S'.dry = S.dry) (e2 : S'.late = S.late) (e3 : S'.seen = S.seen) : Rest S' mark num v :=
  h.imp (fun r => ⟨⟨r.head.t.imp fun t q => ⟨q.1.of e1 e2 e3, q.2⟩, fun n hn => (r.head.ok n hn).of e1 e2 e3⟩, fun n hn hx => by rw [e3]; exact r.none n hn hx⟩) fun ⟨c, r⟩ => ⟨c, ⟨r.copy.le, r.copy.t.imp fun t q => ⟨q.1.of e1 e2 e3, q.2⟩, fun n hn hc => (r.copy.ok n hn hc).of e1 e2 e3⟩, fun n hn hx => by rw [e3]; exact r.none n hn hx⟩
/-- A row of deeds, a step at a time: the power goes, or it goes on. -/
theorem exec_cons {Q : Int × Str → Prop} {s : DStep} {l : List DStep} {S : Str} (hon : S.on = true) (hc : Coh S) (hn : (S.late.map (·.1)).Nodup)
    (hb : ∀ S' keep torn, Fell S S' keep torn → CInv U17 S' → Q (7, S')) (hi : CInv U17 S) (hg : (burnsS S).1 = false → (stepE S s).1 = 0 → Q (execS l (stepE S s).2)) : Q (execS (s :: l) S) := by
  show Q (thenE (stepE S s) (execS l))
  unfold thenE
  cases h : (burnsS S).1 with
  | true =>
    rw [step_burn s hon h, if_neg (by simp)]
    rw [(burns_true h).2.2]
    exact hb _ _ _ (fall_fell hon hn hc S.keep S.torn) (hi.fell U17_ok hon _ _)
  | false =>
    have h0 := step_calm s hon hc h
    rw [if_pos h0]
    exact hg h h0
theorem step_done {S : Str} {k : K4} {d : Dd} (h : (burnsS S).1 = false) : Done S (stepE S (.deed k d)).2 k d := (do_done h).2
/-- What each step keeps, the row keeps, and a fall. -/
theorem exec_keep {P R : Str → Prop} (hPR : ∀ S, P S → R S) (hf : ∀ S S' keep torn, Fell S S' keep torn → CInv U17 S' → P S → R S') (hb : ∀ S S', Dried S S' → P S → P S') : ∀ {l : List DStep} {S : Str}, Live U17 S → (∀ s ∈ l, stepIn U17 s) →
    (∀ k d, .deed k d ∈ l → ∀ S S', Done S S' k d → Coh S → P S → P S') → P S → R (execS l S).2 ∧ CInv U17 (execS l S).2 ∧ ((execS l S).1 = 0 → P (execS l S).2)
  | [], S, h, _, _, hP => ⟨hPR _ hP, h.inv, fun _ => hP⟩
  | s :: l, S, h, hin, hd, hP => by
    refine exec_cons (Q := fun r => R r.2 ∧ CInv U17 r.2 ∧ (r.1 = 0 → P r.2)) h.on h.inv.coh h.inv.lateN (fun S' keep torn hfe hi => ⟨hf S S' keep torn hfe hi hP, hi, fun q => by cases q⟩) h.inv fun hbn h0 => ?_
    have hl := (step_ok h U17_ok (hin s (List.mem_cons_self ..)) h0).1
    refine exec_keep hPR hf hb hl (fun t ht => hin t (List.mem_cons_of_mem _ ht)) (fun k d hm => hd k d (List.mem_cons_of_mem _ hm)) ?_
    cases s with
    | deed k d => exact hd k d (List.mem_cons_self ..) S _ (step_done hbn) h.inv.coh hP
    | bar => exact hb S _ (barrier_dried h.on h.inv.coh hbn).2 hP
def Olds (S : Str) (mark : Int) (v : Int → Option (List Int)) : Prop := ∀ num, Rest S mark num (v num)
/-- All but one. -/
def OldsBut (S : Str) (mark : Int) (v : Int → Option (List Int)) (num0 : Int) : Prop := ∀ num, num ≠ num0 → Rest S mark num (v num)
theorem OldsBut.step {S S' : Str} {k : K4} {d : Dd} (hd : Done S S' k d) (hc : Coh S) {mark num0 : Int} {v : Int → Option (List Int)} (h : OldsBut S mark v num0) (hk : k.num = num0) : OldsBut S' mark v num0 :=
  fun num hn => (h num hn).other hd hc (by omega)
def wrP (k : K4) (t : Option TS) : List DStep := match t with
  | some t => [.deed k (wroteD 0 t.b)]
  | none => []
theorem save_unfold (V : CV) (img num newest : Int) : saveP V img num newest = (if (V num newest).isSome then [.deed (dK img num newest) goneD] else []) ++ (.deed (dK img num newest) madeD :: (wrP (dK img num newest) (V num 0) ++ [.deed (dK img num newest) (setD nmW [if (V num 0).isSome then 1 else 2]), .bar])) := by
  unfold saveP wrP
  cases V num 0 <;> rfl
/-- A copy is made where the head is untouched. -/
theorem save_old {S : Str} {mark num newest : Int} {v : Int → Option (List Int)} (h : Live U17 S) (hk : dK 0 num newest ∈ U17) (h0 : 0 < mark) (hm : mark ≤ newest) (ho : OldsBut S mark v num) (hh : HeadX S mark num (v num) newest) :
    let r := execS (saveP (cview S 0) 0 num newest) S
    CInv U17 r.2 ∧ OldsBut r.2 mark v num ∧ Rest r.2 mark num (v num) ∧ (r.1 = 0 → CopyN r.2 mark num (v num) newest) := by
  have hne : dK 0 num newest ≠ dK 0 num 0 := fun e => by have := (dK_inj.1 e).2; omega
  have hfell : ∀ S1 S' keep torn, OldsBut S1 mark v num → HeadX S1 mark num (v num) newest → Fell S1 S' keep torn → CInv U17 S' →
      CInv U17 S' ∧ OldsBut S' mark v num ∧ Rest S' mark num (v num) ∧ ((7 : Int) = 0 → CopyN S' mark num (v num) newest) :=
    fun S1 S' keep torn h1 h2 hf hi => ⟨hi, fun n hn => OldN.rest hf hi.keys h0 (h1 n hn).old, OldN.rest hf hi.keys h0 (.inl h2.head), fun q => by omega⟩
  obtain ⟨t, ht, hv⟩ := hh.head.t
  have ehead : cview S 0 num 0 = t := ht.seen
  -- the last: the state, and the barrier
  have fin : ∀ (S3 : Str) (b : List Int), Live U17 S3 → OldsBut S3 mark v num → HeadX S3 mark num (v num) newest → get (dK 0 num newest) S3.seen = some ⟨b, []⟩ → (t = none ∨ ∃ u, t = some u ∧ u.b = b) →
      let r := execS [.deed (dK 0 num newest) (setD nmW [if t.isSome then 1 else 2]), .bar] S3
      CInv U17 r.2 ∧ OldsBut r.2 mark v num ∧ Rest r.2 mark num (v num) ∧ (r.1 = 0 → CopyN r.2 mark num (v num) newest) := by
    intro S3 b h3 o3 hh3 hs3 hb
    refine exec_cons (Q := fun r => CInv U17 r.2 ∧ OldsBut r.2 mark v num ∧ Rest r.2 mark num (v num) ∧ (r.1 = 0 → CopyN r.2 mark num (v num) newest)) h3.on h3.inv.coh h3.inv.lateN (fun S' keep torn hf hi => hfell S3 S' keep torn o3 hh3 hf hi) h3.inv fun hbn hz => ?_
    have hin : stepIn U17 (.deed (dK 0 num newest) (setD nmW [if t.isSome then 1 else 2])) := ⟨hk, .inr (.inr (.inr (.inr ⟨rfl, rfl, rfl⟩)))⟩
    have hl4 := (step_ok h3 U17_ok hin hz).1
    have hd4 := step_done (k := dK 0 num newest) (d := setD nmW [if t.isSome then 1 else 2]) hbn
    obtain ⟨S4, hS4⟩ : ∃ x, (stepE S3 (.deed (dK 0 num newest) (setD nmW [if t.isSome then 1 else 2]))).2 = x := ⟨_, rfl⟩
    rw [hS4] at hl4 hd4 ⊢
    have hs4 : get (dK 0 num newest) S4.seen = some ⟨b, [(nmW, [if t.isSome then 1 else 2])]⟩ := by
      rw [hd4.seen, if_pos rfl, hs3]
      simp [stepD, setD, setAttr, put, del]
    have hbody : bodyV (some ⟨b, [(nmW, [if t.isSome then 1 else 2])]⟩) = v num := by
      rw [← hv]
      rcases hb with rfl | ⟨u, rfl, rfl⟩
      · simp [bodyV, get]
      · simp [bodyV, get]
    have hwh : wholeB (some (⟨b, [(nmW, [if t.isSome then 1 else 2])]⟩ : TS)) = true := by simp [wholeB, get]
    have hall : AllOk S4 (dK 0 num newest) (v num) := (hh3.head.ok newest hm).add hd4 h3.inv.coh (by rw [hs3]; intro _; rw [← hs3, ← hbody, ← hs4, hd4.seen, if_pos rfl]) fun q => by cases q
    have hh4 : HeadX S4 mark num (v num) newest := hh3.make hd4 hne hall
    have o4 := o3.step hd4 h3.inv.coh rfl
    refine exec_cons (Q := fun r => CInv U17 r.2 ∧ OldsBut r.2 mark v num ∧ Rest r.2 mark num (v num) ∧ (r.1 = 0 → CopyN r.2 mark num (v num) newest)) hl4.on hl4.inv.coh hl4.inv.lateN (fun S' keep torn hf hi => hfell S4 S' keep torn o4 hh4 hf hi) hl4.inv fun hbn5 hz5 => ?_
    have hl5 := (step_ok hl4 U17_ok (s := .bar) trivial hz5).1
    have hd5 : Dried S4 (stepE S4 .bar).2 := (barrier_dried hl4.on hl4.inv.coh hbn5).2
    have hc5 : CopyN (stepE S4 .bar).2 mark num (v num) newest :=
      ⟨⟨hm, ⟨_, ⟨by unfold lateAt; rw [hd5.late]; rfl, (hd5.dry _).trans hs4, by rw [hd5.seen]; exact hs4⟩, hwh, hbody⟩, fun n hn _ => (hh4.head.ok n hn).bar hd5⟩, fun n hn hx => by rw [hd5.seen]; exact hh4.none n hn (by omega)⟩
    exact ⟨hl5.inv, fun n hn => (o4 n hn).bar hd5, .inr ⟨_, hc5⟩, fun _ => hc5⟩
  -- from the making on
  have mid : ∀ (S1 : Str), Live U17 S1 → OldsBut S1 mark v num → HeadX S1 mark num (v num) newest →
      let r := execS (.deed (dK 0 num newest) madeD :: (wrP (dK 0 num newest) t ++ [.deed (dK 0 num newest) (setD nmW [if t.isSome then 1 else 2]), .bar])) S1
      CInv U17 r.2 ∧ OldsBut r.2 mark v num ∧ Rest r.2 mark num (v num) ∧ (r.1 = 0 → CopyN r.2 mark num (v num) newest) := by
    intro S1 h1 o1 hh1
    refine exec_cons (Q := fun r => CInv U17 r.2 ∧ OldsBut r.2 mark v num ∧ Rest r.2 mark num (v num) ∧ (r.1 = 0 → CopyN r.2 mark num (v num) newest)) h1.on h1.inv.coh h1.inv.lateN (fun S' keep torn hf hi => hfell S1 S' keep torn o1 hh1 hf hi) h1.inv fun hbn hz => ?_
    have hl2 := (step_ok h1 U17_ok (s := .deed (dK 0 num newest) madeD) ⟨hk, .inl rfl⟩ hz).1
    have hd2 := step_done (k := dK 0 num newest) (d := madeD) hbn
    obtain ⟨S2, hS2⟩ : ∃ x, (stepE S1 (.deed (dK 0 num newest) madeD)).2 = x := ⟨_, rfl⟩
    rw [hS2] at hl2 hd2 ⊢
    have hs2 : get (dK 0 num newest) S2.seen = some ⟨[], []⟩ := by
      rw [hd2.seen, if_pos rfl]
      rfl
    have hall : AllOk S2 (dK 0 num newest) (v num) := (hh1.head.ok newest hm).add hd2 h1.inv.coh (fun q => by cases q) fun q => by cases q
    have hh2 : HeadX S2 mark num (v num) newest := hh1.make hd2 hne hall
    have o2 := o1.step hd2 h1.inv.coh rfl
    cases ht0 : t with
    | none =>
      have := fin S2 [] hl2 o2 hh2 hs2 (.inl ht0)
      rw [ht0] at this
      exact this
    | some u =>
      have hcu : u.b.length ≤ 64 := by
        have := h.inv.getT (dK 0 num 0) u (by rw [ht.seen, ht0])
        exact this.1
      refine exec_cons (Q := fun r => CInv U17 r.2 ∧ OldsBut r.2 mark v num ∧ Rest r.2 mark num (v num) ∧ (r.1 = 0 → CopyN r.2 mark num (v num) newest)) hl2.on hl2.inv.coh hl2.inv.lateN (fun S' keep torn hf hi => hfell S2 S' keep torn o2 hh2 hf hi) hl2.inv fun hbn3 hz3 => ?_
      have hl3 := (step_ok hl2 U17_ok (s := .deed (dK 0 num newest) (wroteD 0 u.b)) ⟨hk, .inr (.inr (.inl ⟨rfl, Int.le_refl _, by show (0 : Int) + u.b.length ≤ 64; omega⟩))⟩ hz3).1
      have hd3 := step_done (k := dK 0 num newest) (d := wroteD 0 u.b) hbn3
      obtain ⟨S3, hS3⟩ : ∃ x, (stepE S2 (.deed (dK 0 num newest) (wroteD 0 u.b))).2 = x := ⟨_, rfl⟩
      rw [hS3] at hl3 hd3 ⊢
      have hs3 : get (dK 0 num newest) S3.seen = some ⟨u.b, []⟩ := by
        rw [hd3.seen, if_pos rfl, hs2]
        simp [stepD, wroteD, layB_zero]
      have hall3 : AllOk S3 (dK 0 num newest) (v num) := hall.add hd3 hl2.inv.coh (by
        rw [hs2]
        intro q
        rw [write_whole (d := wroteD 0 u.b) rfl rfl] at q
        cases q) fun _ => by rw [hs2]; rfl
      have hh3 : HeadX S3 mark num (v num) newest := hh2.make hd3 hne hall3
      have o3 := o2.step hd3 hl2.inv.coh rfl
      have := fin S3 u.b hl3 o3 hh3 hs3 (.inr ⟨u, ht0, rfl⟩)
      rw [ht0] at this
      exact this
  intro r
  show CInv U17 (execS (saveP (cview S 0) 0 num newest) S).2 ∧ _
  unfold r
  rw [save_unfold, ehead]
  split
  · refine exec_cons (Q := fun r => CInv U17 r.2 ∧ OldsBut r.2 mark v num ∧ Rest r.2 mark num (v num) ∧ (r.1 = 0 → CopyN r.2 mark num (v num) newest)) h.on h.inv.coh h.inv.lateN (fun S' keep torn hf hi => hfell S S' keep torn ho hh hf hi) h.inv fun hbn hz => ?_
    have hl1 := (step_ok h U17_ok (s := .deed (dK 0 num newest) goneD) ⟨hk, .inr (.inl rfl)⟩ hz).1
    have hd1 := step_done (k := dK 0 num newest) (d := goneD) hbn
    obtain ⟨S1, hS1⟩ : ∃ x, (stepE S (.deed (dK 0 num newest) goneD)).2 = x := ⟨_, rfl⟩
    rw [hS1] at hl1 hd1 ⊢
    exact mid S1 hl1 (ho.step hd1 h.inv.coh rfl) (hh.gone hd1 h.inv.coh hne)
  · exact mid S h ho hh
theorem save_key {V : CV} {num newest : Int} {k : K4} {d : Dd} (h : DStep.deed k d ∈ saveP V 0 num newest) : k = dK 0 num newest := by
  unfold saveP at h
  rcases List.mem_append.1 h with q | q
  · split at q
    · simp at q; exact q.1
    · cases q
  · rcases List.mem_cons.1 q with q | q
    · exact (DStep.deed.inj q).1
    · rcases List.mem_append.1 q with q | q
      · split at q
        · simp at q; exact q.1
        · cases q
      · rcases List.mem_cons.1 q with q | q
        · exact (DStep.deed.inj q).1
        · simp at q
theorem OldsBut.all {S : Str} {mark num0 : Int} {v : Int → Option (List Int)} (h : OldsBut S mark v num0) (h1 : Rest S mark num0 (v num0)) : Olds S mark v := fun num => by
  by_cases e : num = num0
  · rw [e]; exact h1
  · exact h num e
theorem OldsBut.fell {S S' : Str} {keep : List Int} {torn : Int} (hf : Fell S S' keep torn) (hi : CInv U17 S') {mark num0 : Int} (h0 : 0 < mark) {v : Int → Option (List Int)} (h : OldsBut S mark v num0) : OldsBut S' mark v num0 := fun n hn => OldN.rest hf hi.keys h0 (h n hn).old
theorem ahead_old {S : Str} {mark num newest : Int} {v : Int → Option (List Int)} (h : Live U17 S) (hk : dK 0 num newest ∈ U17) (h0 : 0 < mark) (hm : mark ≤ newest) (ho : Olds S mark v) :
    CInv U17 (execS (aheadP (cview S 0) (keysAt S ⟨4, 0⟩) 0 num newest) S).2 ∧ Olds (execS (aheadP (cview S 0) (keysAt S ⟨4, 0⟩) 0 num newest) S).2 mark v ∧
      ((execS (aheadP (cview S 0) (keysAt S ⟨4, 0⟩) 0 num newest) S).1 = 0 → OldsBut (execS (aheadP (cview S 0) (keysAt S ⟨4, 0⟩) 0 num newest) S).2 mark v num ∧ ∃ c, CopyN (execS (aheadP (cview S 0) (keysAt S ⟨4, 0⟩) 0 num newest) S).2 mark num (v num) c) := by
  have hob : OldsBut S mark v num := fun n _ => ho n
  have hi := copies_inc h.inv.keys (cview S 0) 0 num
  unfold aheadP
  by_cases hc : newest = 0 ∨ coveredV (copiesV (cview S 0) (keysAt S ⟨4, 0⟩) num) newest = true
  · rw [if_pos hc]
    refine ⟨h.inv, ho, fun _ => ⟨hob, ?_⟩⟩
    rcases ho num with q | q
    · exfalso
      have hcv : coveredV (copiesV (cview S 0) (keysAt S ⟨4, 0⟩) num) newest = true := hc.resolve_left (by omega)
      unfold coveredV at hcv
      cases hl : (copiesV (cview S 0) (keysAt S ⟨4, 0⟩) num).getLast? with
      | none => rw [hl] at hcv; cases hcv
      | some n =>
        rw [hl] at hcv
        simp only [decide_eq_true_eq] at hcv
        obtain ⟨g1, g2⟩ := (copies_mem h.inv.keys 0 num n).1 (List.mem_of_getLast? hl)
        have := q.none n (by omega) (by omega)
        rw [show get (dK 0 num n) S.seen = cview S 0 num n from rfl, g2] at this
        cases this
    · exact q
  · rw [if_neg hc]
    have hcv : coveredV (copiesV (cview S 0) (keysAt S ⟨4, 0⟩) num) newest = false := by
      cases q : coveredV (copiesV (cview S 0) (keysAt S ⟨4, 0⟩) num) newest with
      | false => rfl
      | true => exact absurd (.inr q) hc
    have hlt := uncovered hi hcv
    rcases ho num with q | ⟨c, q⟩
    · obtain ⟨r1, r2, r3, r4⟩ := save_old h hk h0 hm hob (⟨q.head, fun n hn _ => q.none n hn (by omega)⟩ : HeadX S mark num (v num) newest)
      exact ⟨r1, r2.all r3, fun e => ⟨r2, _, r4 e⟩⟩
    · have hcn : c < newest := by
        obtain ⟨t, ht, hw, _⟩ := q.copy.t
        have hle := q.copy.le
        exact hlt c ((copies_mem h.inv.keys 0 num c).2 ⟨by omega, by rw [show cview S 0 num c = t from ht.seen]; exact hw⟩)
      obtain ⟨r1, r2, r3⟩ := exec_keep (P := fun X => OldsBut X mark v num ∧ CopyN X mark num (v num) c) (R := fun X => Olds X mark v) (fun X hX => hX.1.all (.inr ⟨_, hX.2⟩))
        (fun X X' keep torn hf hi hX => (hX.1.fell hf hi h0).all (OldN.rest hf hi.keys h0 (.inr ⟨_, hX.2.copy⟩))) (fun X X' hd hX => ⟨fun n hn => (hX.1 n hn).bar hd, hX.2.bar hd⟩) h (save_in h hk)
        (fun k d hm' X X' hd hco hX => by
          have hkk := save_key hm'
          exact ⟨hX.1.step hd hco (by rw [hkk]; rfl), hX.2.deed hd hco (by rw [hkk]; intro e; have := (dK_inj.1 e).2; omega) fun n hn hx e => by (rw [hkk] at e; have := (dK_inj.1 e).2; omega)⟩) ⟨hob, q⟩
      exact ⟨r2, r1, fun e => ⟨(r3 e).1, _, (r3 e).2⟩⟩
theorem change_old {S : Str} {mark num newest : Int} {v : Int → Option (List Int)} (h : Live U17 S) (hk : dK 0 num newest ∈ U17) (h0 : 0 < mark) (hm : mark ≤ newest) (ho : Olds S mark v) {l2 : List DStep}
    (hin : ∀ s ∈ aheadP (cview S 0) (keysAt S ⟨4, 0⟩) 0 num newest ++ l2, stepIn U17 s) (hl : ∀ s ∈ l2, ∃ d, s = .deed (dK 0 num 0) d) :
    Olds (execS (aheadP (cview S 0) (keysAt S ⟨4, 0⟩) 0 num newest ++ l2) S).2 mark v ∧ CInv U17 (execS (aheadP (cview S 0) (keysAt S ⟨4, 0⟩) 0 num newest ++ l2) S).2 := by
  obtain ⟨r1, r2, r3⟩ := ahead_old h hk h0 hm ho
  have hok := exec_ok U17_ok h (l := aheadP (cview S 0) (keysAt S ⟨4, 0⟩) 0 num newest) fun s hs => hin s (List.mem_append_left _ hs)
  rw [execS_append]
  obtain ⟨r, hr⟩ : ∃ r, execS (aheadP (cview S 0) (keysAt S ⟨4, 0⟩) 0 num newest) S = r := ⟨_, rfl⟩
  rw [hr] at r1 r2 r3 hok ⊢
  unfold thenE
  by_cases e : r.1 = 0
  · rw [if_pos e]
    obtain ⟨b1, c, b2⟩ := r3 e
    have hl1 := (hok e).1
    have hle := b2.copy.le
    obtain ⟨k1, k2, _⟩ := exec_keep (P := fun X => OldsBut X mark v num ∧ CopyN X mark num (v num) c) (R := fun X => Olds X mark v) (fun X hX => hX.1.all (.inr ⟨_, hX.2⟩))
        (fun X X' keep torn hf hi hX => (hX.1.fell hf hi h0).all (OldN.rest hf hi.keys h0 (.inr ⟨_, hX.2.copy⟩))) (fun X X' hd hX => ⟨fun n hn => (hX.1 n hn).bar hd, hX.2.bar hd⟩) hl1 (fun s hs => hin s (List.mem_append_right _ hs))
        (fun k d hm' X X' hd hco hX => by
          obtain ⟨d', hd'⟩ := hl _ hm'
          have hkk := (DStep.deed.inj hd').1
          exact ⟨hX.1.step hd hco (by rw [hkk]; rfl), hX.2.deed hd hco (by rw [hkk]; intro e; have := (dK_inj.1 e).2; omega) fun n hn hx e => by (rw [hkk] at e; have := (dK_inj.1 e).2; omega)⟩) ⟨b1, b2⟩
    exact ⟨k1, k2⟩
  · rw [if_neg e]
    exact ⟨r2, r1⟩
theorem tidy_old {S : Str} {mark : Int} {v : Int → Option (List Int)} (h : Live U17 S) (h0 : 0 < mark) {ms : List Int} (hms : mark ∈ ms) (ho : Olds S mark v) (hin : ∀ s ∈ tidyP (cview S 0) 0 ms (keysAt S ⟨4, 0⟩) (-1) 0, stepIn U17 s) :
    Olds (execS (tidyP (cview S 0) 0 ms (keysAt S ⟨4, 0⟩) (-1) 0) S).2 mark v ∧ CInv U17 (execS (tidyP (cview S 0) 0 ms (keysAt S ⟨4, 0⟩) (-1) 0) S).2 := by
  have hgr : ∀ k ∈ keysAt S ⟨4, 0⟩, k = dK 0 k.num k.snap ∧ 0 ≤ k.num := fun k hk => by
    obtain ⟨q1, q2⟩ := grp_key h.inv.keys hk
    obtain ⟨t, ht⟩ := Option.isSome_iff_exists.1 q2
    exact ⟨q1, (U17_rng (h.inv.getU ht)).1⟩
  have hde := tidy_deeds (cview S 0) 0 ms (keysAt S ⟨4, 0⟩) (-1) 0 (h.inv.keys.rise _) fun k hk => ⟨(hgr k hk).1, by have := (hgr k hk).2; omega⟩
  have hany := exec_keep (P := fun _ => True) (R := fun _ => True) (fun _ _ => trivial) (fun _ _ _ _ _ _ _ => trivial) (fun _ _ _ _ => trivial) h hin (fun _ _ _ _ _ _ _ _ => trivial) trivial
  refine ⟨fun num => ?_, hany.2.1⟩
  rcases ho num with q | ⟨c, q⟩
  · refine (exec_keep (P := fun X => HeadX X mark num (v num) 0) (R := fun X => Rest X mark num (v num)) (fun X hX => .inl hX) (fun X X' keep torn hf hi hX => OldN.rest hf hi.keys h0 (.inl hX.head)) (fun X X' hd hX => hX.bar hd) h hin (fun k d hm X X' hd hco hX => ?_) q).1
    obtain ⟨k', hk', e, hs, _⟩ := (hde _).1 hm
    obtain ⟨rfl, rfl⟩ := DStep.deed.inj e
    exact hX.gone hd hco fun e => hs (by rw [e]; rfl)
  · refine (exec_keep (P := fun X => CopyN X mark num (v num) c) (R := fun X => Rest X mark num (v num)) (fun X hX => .inr ⟨_, hX⟩) (fun X X' keep torn hf hi hX => OldN.rest hf hi.keys h0 (.inr ⟨_, hX.copy⟩)) (fun X X' hd hX => hX.bar hd) h hin (fun k d hm X X' hd hco hX => ?_) q).1
    obtain ⟨k', hk', e, hs, hnot⟩ := (hde _).1 hm
    obtain ⟨rfl, rfl⟩ := DStep.deed.inj e
    refine hX.deed hd hco (fun e => hnot ?_) fun _ _ _ _ => rfl
    obtain ⟨t, ht, hw, _⟩ := q.copy.t
    have hle := q.copy.le
    have e1 : k.num = num := by rw [e]; rfl
    have e2 : k.snap = c := by rw [e]; rfl
    refine ⟨by rw [e1, e2, show cview S 0 num c = t from ht.seen]; exact hw, ?_⟩
    rw [pb_prev h.inv.keys (cview S 0) (hgr k hk').1 (by have := (hgr k hk').2; omega), e1, e2]
    have hp : prevL (copiesV (cview S 0) (keysAt S ⟨4, 0⟩) num) c < mark := by
      unfold prevL
      cases hg : ((copiesV (cview S 0) (keysAt S ⟨4, 0⟩) num).filter fun y => decide (y < c)).getLast? with
      | none => exact h0
      | some y =>
        obtain ⟨g1, g2⟩ := List.mem_filter.1 (List.mem_of_getLast? hg)
        obtain ⟨g3, g4⟩ := (copies_mem h.inv.keys 0 num y).1 g1
        simp only [decide_eq_true_eq] at g2
        show y < mark
        rcases Int.lt_or_le y mark with r | r
        · exact r
        · have := q.none y r g2
          rw [show get (dK 0 num y) S.seen = cview S 0 num y from rfl, g4] at this
          cases this
    unfold seenB
    rw [List.any_eq_true]
    exact ⟨mark, hms, by simp; omega⟩
theorem turn_head {k : K4} {o : Option TS} {p : List Int} : ∀ s ∈ turnP k o p, ∃ d, s = .deed k d := by
  intro s hs
  unfold turnP at hs
  split at hs
  · split at hs
    · simp at hs; exact ⟨_, hs⟩
    · cases hs
  · split at hs
    · simp at hs
      rcases hs with q | q <;> exact ⟨_, q⟩
    · split at hs
      · simp at hs
        rcases hs with q | q <;> exact ⟨_, q⟩
      · simp at hs; exact ⟨_, hs⟩
/-- Whatever is changed behind the mark, and whatever falls. -/
theorem ours_old {S : Str} (h : Live U17 S) {a : A17} (ha : a.what = 5 ∨ Fine U17 0 a) {mark : Int} {v : Int → Option (List Int)} (h0 : 0 < mark) (hm : mark ≤ a.newest) (hms : mark ∈ a.ms) (ho : Olds S mark v) :
    Olds (oursS S 0 a).2 mark v ∧ CInv U17 (oursS S 0 a).2 := by
  have hin := ours_in h ha
  rw [ours_plan h U17_ok ⟨by omega, by omega⟩ ha]
  by_cases e5 : a.what = 5
  · have e : oursP (cview S 0) (keysAt S ⟨4, 0⟩) 0 a = tidyP (cview S 0) 0 a.ms (keysAt S ⟨4, 0⟩) (-1) 0 := by
      unfold oursP
      rw [if_neg (by omega), if_neg (by omega), if_neg (by omega), if_neg (by omega), if_neg (by omega), if_pos e5]
    rw [e] at hin ⊢
    exact tidy_old h h0 hms ho hin
  have hk : dK 0 a.num a.newest ∈ U17 := (ha.resolve_left e5).copy (by omega)
  have nil : Olds (execS [] S).2 mark v ∧ CInv U17 (execS [] S).2 := ⟨ho, h.inv⟩
  unfold oursP at hin ⊢
  split
  · rename_i e0
    rw [if_pos e0] at hin
    split
    · exact nil
    · rename_i hp
      rw [if_neg hp] at hin
      refine change_old h hk h0 hm ho hin fun s hs => ?_
      unfold layP at hs
      split at hs
      · simp at hs; exact ⟨_, hs⟩
      · simp at hs
        rcases hs with q | q <;> exact ⟨_, q⟩
  rename_i n0
  rw [if_neg n0] at hin
  split
  · rename_i e1
    rw [if_pos e1] at hin
    cases hg : cview S 0 a.num 0 with
    | none => exact nil
    | some t =>
      rw [hg] at hin
      simp only at hin ⊢
      refine change_old h hk h0 hm ho hin fun s hs => ?_
      split at hs
      · cases hs
      · simp at hs; exact ⟨_, hs⟩
  rename_i n1
  rw [if_neg n1] at hin
  split
  · rename_i e2
    rw [if_pos e2] at hin
    cases hg : cview S 0 a.num 0 with
    | none => exact nil
    | some t =>
      rw [hg] at hin
      simp only at hin ⊢
      split
      · exact nil
      · rename_i hq
        rw [if_neg hq] at hin
        refine change_old h hk h0 hm ho hin fun s hs => ?_
        simp at hs
        split at hs <;> exact ⟨_, hs⟩
  rename_i n2
  rw [if_neg n2] at hin
  split
  · rename_i e3
    rw [if_pos e3] at hin
    exact change_old h hk h0 hm ho hin turn_head
  rename_i n3
  rw [if_neg n3] at hin
  split
  · rename_i e4
    rw [if_pos e4] at hin
    exact change_old h hk h0 hm ho hin turn_head
  · exact nil
end Go.Proofs.YtbepmbcbcklmlaaGreat
