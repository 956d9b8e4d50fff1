/- The document's store and the program's: what they have alike, behind a fall, a barrier, a deed. No program in sight. -/
import Derived.Test.YtagljjhfkhadpaaGreatRefSim1
import Derived.Test.YtagljjhfkhadpaaGreatSums
set_option linter.unusedSimpArgs false
set_option linter.unusedVariables false
set_option linter.unusedSectionVars false
namespace Go.Proofs.YtagljjhfkhadpaaGreat
open Go.RowKit
theorem lt_irr (a : K4) : a.lt a = false := lt_irrefl' a
theorem lt_tri {a b : K4} (h : a.lt b = false) (k : b.lt a = false) : a = b := by
  unfold K4.lt at h k
  rw [decide_eq_false_iff_not] at h k
  obtain ⟨a1, a2, a3, a4⟩ := a
  obtain ⟨b1, b2, b3, b4⟩ := b
  simp only at h k
  simp only [K4.mk.injEq]
  omega
theorem rfind_cons (t : RT) (ts : List RT) (k : K4) : rfind (t :: ts) k = if t.key = k then (0, true) else if k.lt t.key then (0, false) else ((rfind ts k).1 + 1, (rfind ts k).2) := rfl
theorem rfind_in {k : K4} : ∀ {L : List RT}, Rising (L.map RT.key) → ((rfind L k).2 = true ↔ k ∈ L.map RT.key)
  | [], _ => by simp [rfind]
  | t :: ts, h => by
    have h' := List.pairwise_cons.1 (show List.Pairwise _ (t.key :: ts.map RT.key) from h)
    rw [rfind_cons]
    by_cases e : t.key = k
    · simp [e]
    · rw [if_neg e]
      by_cases e2 : k.lt t.key = true
      · rw [if_pos e2]
        constructor
        · exact fun q => by cases q
        · intro q
          rcases List.mem_cons.1 (show k ∈ t.key :: ts.map RT.key from q) with q | q
          · exact absurd q.symm e
          · have := lt_trans' e2 (h'.1 k q)
            rw [lt_irr] at this
            cases this
      · rw [if_neg e2]
        simp only
        rw [rfind_in h'.2]
        simp [show ¬ k = t.key from fun q => e q.symm]
/-- The list with one more deed at a key. -/
def rputR (k : K4) (d : RD) : List RT → List RT
  | [] => [⟨k, RB.no, [d]⟩]
  | t :: ts => if t.key = k then { t with wet := t.wet ++ [d] } :: ts else if k.lt t.key then ⟨k, RB.no, [d]⟩ :: t :: ts else t :: rputR k d ts
theorem rput_R (k : K4) (d : RD) : ∀ L : List RT, rput L k d = rputR k d L
  | [] => by simp [rput, rfind, rputR]
  | t :: ts => by
    have ih := rput_R k d ts
    unfold rput at *
    rw [rfind_cons]
    unfold rputR
    by_cases e : t.key = k
    · simp [e]
    · rw [if_neg e, if_neg e]
      by_cases e2 : k.lt t.key = true
      · rw [if_pos e2, if_pos e2]
        simp
      · rw [if_neg e2, if_neg e2]
        rw [← ih]
        simp only
        by_cases q : (rfind ts k).2 = true
        · rw [if_pos q, if_pos q, List.getElem?_cons_succ]
          split <;> simp
        · rw [if_neg q, if_neg q]
          simp only [List.take_succ_cons, List.drop_succ_cons, List.cons_append, List.getElem?_cons_succ]
          split <;> simp
theorem rputR_keys (k : K4) (d : RD) : ∀ {L : List RT} {a : K4}, a ∈ (rputR k d L).map RT.key ↔ a = k ∨ a ∈ L.map RT.key
  | [], a => by simp [rputR]
  | t :: ts, a => by
    unfold rputR
    split
    · rename_i e; simp [e]
    · split
      · simp
      · simp only [List.map_cons, List.mem_cons, rputR_keys k d (L := ts)]
        constructor
        · rintro (q | q | q)
          · exact .inr (.inl q)
          · exact .inl q
          · exact .inr (.inr q)
        · rintro (q | q | q)
          · exact .inr (.inl q)
          · exact .inl q
          · exact .inr (.inr q)
theorem rputR_rise (k : K4) (d : RD) : ∀ {L : List RT}, Rising (L.map RT.key) → Rising ((rputR k d L).map RT.key)
  | [], _ => by simp [rputR, Rising]
  | t :: ts, h => by
    have h' := List.pairwise_cons.1 (show List.Pairwise _ (t.key :: ts.map RT.key) from h)
    unfold rputR
    split
    · exact h
    · rename_i e
      split
      · rename_i e2
        refine List.pairwise_cons.2 ⟨fun a ha => ?_, h⟩
        rcases List.mem_cons.1 (show a ∈ t.key :: ts.map RT.key from ha) with rfl | ha
        · exact e2
        · exact lt_trans' e2 (h'.1 a ha)
      · rename_i e2
        refine List.pairwise_cons.2 ⟨fun a ha => ?_, rputR_rise k d h'.2⟩
        rcases (rputR_keys k d).1 ha with rfl | ha
        · cases q : t.key.lt a with
          | true => rfl
          | false => exact absurd (lt_tri q (by simpa using e2)) e
        · exact h'.1 a ha
theorem rputR_mem (k : K4) (d : RD) : ∀ {L : List RT} {t : RT}, Rising (L.map RT.key) → t ∈ rputR k d L →
    (t ∈ L ∧ t.key ≠ k) ∨ (∃ u ∈ L, u.key = k ∧ t = { u with wet := u.wet ++ [d] }) ∨ (k ∉ L.map RT.key ∧ t = ⟨k, RB.no, [d]⟩)
  | [], t, _, ht => by
    simp [rputR] at ht
    exact .inr (.inr ⟨by simp, ht⟩)
  | a :: ts, t, h, ht => by
    have h' := List.pairwise_cons.1 (show List.Pairwise _ (a.key :: ts.map RT.key) from h)
    unfold rputR at ht
    split at ht
    · rename_i e
      rcases List.mem_cons.1 ht with rfl | ht
      · exact .inr (.inl ⟨a, List.mem_cons_self .., e, rfl⟩)
      · refine .inl ⟨List.mem_cons_of_mem _ ht, fun q => ?_⟩
        have := h'.1 t.key (List.mem_map.2 ⟨t, ht, rfl⟩)
        rw [q, e, lt_irr] at this
        cases this
    · rename_i e
      split at ht
      · rename_i e2
        rcases List.mem_cons.1 ht with rfl | ht
        · refine .inr (.inr ⟨fun q => ?_, rfl⟩)
          rcases List.mem_cons.1 (show k ∈ a.key :: ts.map RT.key from q) with q | q
          · exact e q.symm
          · have := lt_trans' e2 (h'.1 k q)
            rw [lt_irr] at this
            cases this
        · refine .inl ⟨ht, fun q => ?_⟩
          rcases List.mem_cons.1 ht with rfl | ht
          · exact e q
          · have := lt_trans' e2 (h'.1 t.key (List.mem_map.2 ⟨t, ht, rfl⟩))
            rw [q, lt_irr] at this
            cases this
      · rename_i e2
        rcases List.mem_cons.1 ht with rfl | ht
        · exact .inl ⟨List.mem_cons_self .., e⟩
        · rcases rputR_mem k d h'.2 ht with ⟨q1, q2⟩ | ⟨u, q1, q2, q3⟩ | ⟨q1, q2⟩
          · exact .inl ⟨List.mem_cons_of_mem _ q1, q2⟩
          · exact .inr (.inl ⟨u, List.mem_cons_of_mem _ q1, q2, q3⟩)
          · refine .inr (.inr ⟨fun q => ?_, q2⟩)
            rcases List.mem_cons.1 (show k ∈ a.key :: ts.map RT.key from q) with q | q
            · exact e q.symm
            · exact q1 q
def wetSum (L : List RT) : Int := (L.map fun t => (t.wet.length : Int)).sum
theorem rputR_wet (k : K4) (d : RD) : ∀ L : List RT, wetSum (rputR k d L) = wetSum L + 1
  | [] => by simp [rputR, wetSum]
  | t :: ts => by
    unfold rputR
    split
    · simp [wetSum]; omega
    · split
      · simp [wetSum]; omega
      · have := rputR_wet k d ts
        unfold wetSum at *
        simp only [List.map_cons, List.sum_cons, this]
        omega
/-- What the two stores have alike. -/
structure SR (S : Str) (R : RS) : Prop where
  room : S.room = R.room
  on : S.on = !R.off
  armed : S.armed = R.fused
  fz : R.fused = true → S.fuse = R.n ∧ S.torn = R.torn ∧ S.keep = R.keep
  count : S.deeds = R.count
  rise : Rising (R.l.map RT.key)
  obj : ∀ t ∈ R.l, SameB t.dry (get t.key S.dry) ∧ lateAt S t.key = t.wet.map toD ∧ Leg (get t.key S.dry) t.wet
  other : ∀ k, k ∉ R.l.map RT.key → get k S.dry = none ∧ lateAt S k = []
  coh : Coh S
  seenN : (S.seen.map (·.1)).Nodup
  lateN : (S.late.map (·.1)).Nodup
  lates : ∀ x ∈ S.late, x.2 ≠ []
  used : S.used = wrap64 (sumS S.seen)
  wet : S.wet = wrap64 (wetSum R.l)
  keys : KeysOK S
section
variable {S : Str} {R : RS}
theorem SR.now (h : SR S R) {t : RT} (ht : t ∈ R.l) : SameB (rnow t) (get t.key S.seen) := by
  obtain ⟨h1, h2, h3⟩ := h.obj t ht
  rw [h.coh, h2]
  exact same_fold h1 h3
theorem SR.none (h : SR S R) {k : K4} (hk : k ∉ R.l.map RT.key) : get k S.seen = none := by
  obtain ⟨h1, h2⟩ := h.other k hk
  rw [h.coh, h1, h2]; rfl
theorem SR.body (h : SR S R) (k : K4) : SameB (rbody R k) (get k S.seen) := by
  unfold rbody
  by_cases q : (rfind R.l k).2 = true
  · rw [if_pos q]
    obtain ⟨t, h1, h2⟩ := rfind_hit q
    rw [h1]
    simp only
    rw [← h2]
    exact h.now (List.mem_of_getElem? h1)
  · rw [if_neg q, h.none (fun q2 => q ((rfind_in h.rise).2 q2))]
    rfl
theorem sum_keys : ∀ {K : List K4} {L : List (K4 × TS)}, (L.map (·.1)).Nodup → K.Nodup → (∀ x ∈ L, x.1 ∈ K) → sumS L = (K.map fun k => sizeO (get k L)).sum
  | [], L, _, _, h => by
    have : L = [] := List.eq_nil_iff_forall_not_mem.2 fun x hx => by cases h x hx
    subst this; rfl
  | k :: K, L, hn, hk, h => by
    have hk' := List.nodup_cons.1 hk
    rw [sumS_split hn k, sum_keys (K := K) (del_nodup hn) hk'.2 (fun x hx => by
      have hx' := List.mem_filter.1 hx
      have hne : x.1 ≠ k := by simpa using hx'.2
      exact (List.mem_cons.1 (h x hx'.1)).resolve_left hne)]
    have e : (K.map fun k' => sizeO (get k' (del k L))) = K.map fun k' => sizeO (get k' L) := List.map_congr_left fun k' hk2 => by
      rw [get_del_ne (show k' ≠ k from fun q => hk'.1 (by rw [← q]; exact hk2))]
    rw [e]
    simp
theorem nodup_rise {ks : List K4} (h : Rising ks) : ks.Nodup := rising_nodup h
theorem SR.seenIn (h : SR S R) : ∀ x ∈ S.seen, x.1 ∈ R.l.map RT.key := fun x hx => Decidable.byContradiction fun q => by
  have h1 := get_of_mem h.seenN (show (x.1, x.2) ∈ S.seen from hx)
  rw [h.none q] at h1
  cases h1
theorem SR.sum (h : SR S R) : sumS S.seen = rused R.l := by
  rw [sum_keys h.seenN (nodup_rise h.rise) h.seenIn]
  unfold rused
  rw [List.map_map]
  congr 1
  exact List.map_congr_left fun t ht => (h.now ht).size.symm
theorem SR.few (h : SR S R) : S.seen.length ≤ R.l.length := by
  have := nodup_sub h.seenN (U := R.l.map RT.key) fun x hx => by
    obtain ⟨y, hy, rfl⟩ := List.mem_map.1 hx
    exact h.seenIn y hy
  simpa using this
theorem SR.told (h : SR S R) (kind img : Int) : keysTold S ⟨kind, img⟩ = rkeys R kind img := by
  unfold keysTold rkeys
  rw [h.on]
  cases ho : R.off with
  | true => rfl
  | false =>
    simp only [Bool.not_false, if_true, Bool.false_eq_true, if_false]
    refine rising_eq (h.keys.rise _) (List.Pairwise.sublist ((List.filter_sublist).map RT.key) h.rise) ?_
    refine (List.perm_ext_iff_of_nodup (rising_nodup (h.keys.rise _)) (rising_nodup (List.Pairwise.sublist ((List.filter_sublist).map RT.key) h.rise))).2 fun k => ?_
    rw [h.keys.mem]
    constructor
    · rintro ⟨h1, h2⟩
      have hk : k ∈ R.l.map RT.key := Decidable.byContradiction fun q => by rw [h.none q] at h2; cases h2
      obtain ⟨t, ht, rfl⟩ := List.mem_map.1 hk
      refine List.mem_map.2 ⟨t, List.mem_filter.2 ⟨ht, ?_⟩, rfl⟩
      have h3 := (h.now ht).there
      rw [h2] at h3
      have h4 : t.key.kind = kind ∧ t.key.img = img := by
        have := h1
        unfold K4.grp at this
        simpa using this
      simp [h3, h4.1, h4.2]
    · intro hk
      obtain ⟨t, ht, rfl⟩ := List.mem_map.1 hk
      have ht' := List.mem_filter.1 ht
      simp only [Bool.and_eq_true, beq_iff_eq] at ht'
      refine ⟨by unfold K4.grp; rw [ht'.2.1.1, ht'.2.1.2], ?_⟩
      rw [← (h.now ht'.1).there]
      exact ht'.2.2
theorem SR.new (room : Int) : SR (newS room) (rnew room) := by
  refine ⟨?_, rfl, rfl, fun q => (by cases q), rfl, List.Pairwise.nil, fun t ht => (by cases ht), fun k _ => ⟨rfl, rfl⟩, fun k => rfl, List.nodup_nil, List.nodup_nil, fun x hx => (by cases hx), by simp [newS, sumS, wrap64], by simp [newS, rnew, wetSum, wrap64], ⟨fun g => List.Pairwise.nil, fun g k => by simp [newS, keysAt, get]⟩⟩
  show max 0 (min room 1048576) = heldI room 0 1048576
  unfold heldI
  split
  · omega
  · split <;> omega
theorem SR.power (h : SR S R) : SR (powerS S) { R with off := false } := ⟨h.room, rfl, h.armed, h.fz, h.count, h.rise, h.obj, h.other, h.coh, h.seenN, h.lateN, h.lates, h.used, h.wet, ⟨h.keys.rise, h.keys.mem⟩⟩
theorem SR.fuse (h : SR S R) (n : Int) (keep : List Int) (torn : Int) : SR (fuseS S n keep torn) (rfuse R n keep torn) := by
  unfold fuseS rfuse
  split
  · rename_i hn
    exact ⟨h.room, h.on, by simp [hn], fun _ => ⟨rfl, rfl, rfl⟩, h.count, h.rise, h.obj, h.other, h.coh, h.seenN, h.lateN, h.lates, h.used, h.wet, ⟨h.keys.rise, h.keys.mem⟩⟩
  · rename_i hn
    exact ⟨h.room, h.on, by simp [hn], fun q => by simp [hn] at q, h.count, h.rise, h.obj, h.other, h.coh, h.seenN, h.lateN, h.lates, h.used, h.wet, ⟨h.keys.rise, h.keys.mem⟩⟩
end
/-- How many bytes are used, but for what does not fit a number; the keys. -/
structure SU (S : Str) : Prop where
  seenN : (S.seen.map (·.1)).Nodup
  used : S.used = wrap64 (sumS S.seen)
  keys : KeysOK S
theorem su_show {S : Str} (h : SU S) (k : K4) (o : Option TS) : SU (showS S k (wrap64 (sizeO (get k S.seen))) o) := by
  have hsp := sumS_split h.seenN k
  refine ⟨?_, ?_, keys_show h.keys k _ o⟩
  · cases o with
    | none => exact del_nodup h.seenN
    | some t => exact put_nodup h.seenN
  · unfold showS
    simp only
    rw [h.used, hsp]
    cases o with
    | none =>
      simp only
      rw [show sizeO (none : Option TS) = 0 from rfl, IntKind.wrap_i64]
      unfold wrap64
      omega
    | some t =>
      simp only
      have : sumS (put k t S.seen) = t.size + sumS (del k S.seen) := by simp [sumS, put]
      rw [this, show sizeO (some t) = t.size from rfl, IntKind.wrap_i64]
      unfold wrap64
      omega
theorem SU.of {S S' : Str} (h : SU S) (e1 : S'.seen = S.seen) (e2 : S'.used = S.used) (e3 : S'.keys = S.keys) : SU S' :=
  ⟨by rw [e1]; exact h.seenN, by rw [e1, e2]; exact h.used, KeysOK.of h.keys e3 e1⟩
theorem su_fallL (keep : List Int) (torn : Int) : ∀ (ss : List K4) (i : Nat) (S : Str) (n : Int), SU S → SU (fallL keep torn ss i S n).1
  | [], _, _, _, h => h
  | k :: ss, i, S, n, h => su_fallL keep torn ss (i + 1) _ _ ((su_show h k (leftS S k (keepAt keep i) torn).1).of rfl rfl rfl)
end Go.Proofs.YtagljjhfkhadpaaGreat
