/- What a store of cow's objects keeps, behind deeds, barriers and falls. No program in sight. -/
import Derived.Test.YtagljjhfkhadpaaGreatCowFns
import Derived.Test.YtagljjhfkhadpaaGreatSums
import Derived.Test.YtagljjhfkhadpaaGreatViews
set_option linter.unusedSimpArgs false
set_option linter.unusedVariables false
set_option linter.unusedSectionVars false
namespace Go.Proofs.YtagljjhfkhadpaaGreat
open Go.RowKit
/-- A deed of cow's; an object of cow's. -/
def cowD (d : Dd) : Prop := d.kind = 0 ∨ d.kind = 3 ∨ (d.kind = 1 ∧ 0 ≤ d.n ∧ d.n + d.p.length ≤ 64) ∨ d.kind = 2 ∨ (d.kind = 4 ∧ d.name = nmW ∧ d.p.length = 1)
def cowT (t : TS) : Prop := t.b.length ≤ 64 ∧ (t.attr = [] ∨ ∃ v, t.attr = [(nmW, [v])])
def cowO (o : Option TS) : Prop := ∀ t, o = some t → cowT t
theorem cowO_none : cowO none := fun t h => by cases h
theorem cow_step {o : Option TS} {d : Dd} (h : cowO o) (hd : cowD d) : cowO (stepD o d) := by
  intro t ht
  unfold stepD at ht
  split at ht
  · simp only [Option.some.injEq] at ht
    subst ht
    exact ⟨by simp, .inl rfl⟩
  · rename_i h0
    split at ht
    · cases ht
    · rename_i h3
      split at ht
      · cases ht
      · rename_i u
        have hu := h u rfl
        split at ht
        · rename_i h1
          simp only [Option.some.injEq] at ht
          subst ht
          refine ⟨?_, hu.2⟩
          show (layB u.b d.n.toNat d.p).length ≤ 64
          rw [layB_length]
          have hu1 := hu.1
          rcases hd with e | e | ⟨_, e1, e2⟩ | e | ⟨e, _⟩
          · omega
          · omega
          · split
            · exact hu1
            · omega
          · omega
          · omega
        · rename_i h1
          split at ht
          · simp only [Option.some.injEq] at ht
            subst ht
            refine ⟨?_, hu.2⟩
            show (u.b.take _).length ≤ 64
            rw [List.length_take]
            have := hu.1
            omega
          · rename_i h2
            split at ht
            · rename_i h4
              simp only [Option.some.injEq] at ht
              subst ht
              refine ⟨hu.1, ?_⟩
              show setAttr u.attr d.name d.p = [] ∨ ∃ v, setAttr u.attr d.name d.p = [(nmW, [v])]
              rcases hd with e | e | ⟨e, _⟩ | e | ⟨_, e1, e2⟩
              · omega
              · omega
              · omega
              · omega
              · right
                obtain ⟨v, hv⟩ := List.length_eq_one_iff.1 e2
                refine ⟨v, ?_⟩
                unfold setAttr
                rw [hv, if_neg (by simp), e1]
                rcases hu.2 with e | ⟨v', e⟩
                · rw [e]; simp [put, del]
                · rw [e]; simp [put, del]
            · simp only [Option.some.injEq] at ht
              subst ht
              exact hu
theorem cow_fold {l : List Dd} : ∀ {o : Option TS}, cowO o → (∀ d ∈ l, cowD d) → cowO (l.foldl stepD o) := by
  induction l with
  | nil => exact fun h _ => h
  | cons d l ih => exact fun h hd => ih (cow_step h (hd d (List.mem_cons_self ..))) fun d' h' => hd d' (List.mem_cons_of_mem _ h')
theorem cow_torn {d : Dd} {torn : Int} (h : cowD d) (h1 : d.kind = 1) : cowD (tornD torn d) := by
  rcases h with e | e | ⟨_, e1, e2⟩ | e | ⟨e, _⟩
  · omega
  · omega
  · refine .inr (.inr (.inl ⟨h1, e1, ?_⟩))
    show d.n + ((d.p.take _).length : Int) ≤ 64
    rw [List.length_take]
    omega
  · omega
  · omega
theorem cow_size {t : TS} (h : cowT t) : 0 ≤ t.size ∧ t.size ≤ 66 := by
  obtain ⟨h1, h2⟩ := h
  unfold TS.size attrSize
  rcases h2 with e | ⟨v, e⟩
  · rw [e]; simp; omega
  · rw [e]
    have : (([(nmW, [v])] : List (ByteArray × List Int)).map fun x => (x.1.size : Int) + x.2.length).sum = 2 := rfl
    rw [this]
    omega
/-- The keys are told as they are there. -/
structure KeysOK (S : Str) : Prop where
  rise : ∀ g, Rising (keysAt S g)
  mem : ∀ g k, k ∈ keysAt S g ↔ k.grp = g ∧ (get k S.seen).isSome = true
theorem mem_rem {k a : K4} {ks : List K4} : a ∈ remK k ks ↔ a ∈ ks ∧ a ≠ k := by simp [remK]
theorem mem_add {k a : K4} {ks : List K4} : a ∈ addK k ks ↔ a = k ∨ a ∈ ks := by
  rw [(add_perm k ks).mem_iff, List.mem_cons]
theorem keys_show {S : Str} (h : KeysOK S) (k : K4) (was : Int) (o : Option TS) : KeysOK (showS S k was o) := by
  have hka : ∀ g, keysAt (showS S k was o) g = if g = k.grp then (match o with
      | none => if k ∈ keysAt S g then remK k (keysAt S g) else keysAt S g
      | some _ => if k ∈ keysAt S g then keysAt S g else addK k (keysAt S g)) else keysAt S g := fun g => by
    unfold keysAt
    cases o with
    | none =>
      show (get g (showS S k was none).keys).getD [] = _
      unfold showS
      simp only
      by_cases e : g = k.grp
      · subst e
        rw [if_pos rfl]
        by_cases hm : k ∈ keysAt S k.grp
        · rw [if_pos hm, get_put_same]
          unfold keysAt at hm
          rw [if_pos hm]
          rfl
        · rw [if_neg hm]
          unfold keysAt at hm
          rw [if_neg hm]
      · rw [if_neg e]
        split
        · rw [get_put_ne e]
        · rfl
    | some t =>
      show (get g (showS S k was (some t)).keys).getD [] = _
      unfold showS
      simp only
      by_cases e : g = k.grp
      · subst e
        rw [if_pos rfl]
        by_cases hm : k ∈ keysAt S k.grp
        · rw [if_pos hm]
          unfold keysAt at hm
          rw [if_pos hm]
        · rw [if_neg hm, get_put_same]
          unfold keysAt at hm
          rw [if_neg hm]
          rfl
      · rw [if_neg e]
        split
        · rfl
        · rw [get_put_ne e]
  refine ⟨fun g => ?_, fun g a => ?_⟩
  · rw [hka]
    split
    · cases o with
      | none =>
        simp only
        split
        · exact rising_rem (h.rise g)
        · exact h.rise g
      | some t =>
        simp only
        split
        · exact h.rise g
        · rename_i hm
          exact rising_add (h.rise g) hm
    · exact h.rise g
  · rw [hka, seen_show]
    by_cases e : g = k.grp
    · subst e
      rw [if_pos rfl]
      cases o with
      | none =>
        simp only
        by_cases ea : a = k
        · subst ea
          rw [if_pos rfl]
          split
          · rw [mem_rem]; simp
          · rename_i hm
            simp [hm]
        · rw [if_neg ea]
          split
          · rw [mem_rem, h.mem]; simp [ea]
          · exact h.mem _ _
      | some t =>
        simp only
        by_cases ea : a = k
        · subst ea
          rw [if_pos rfl]
          split
          · rename_i hm; simp [hm]
          · rw [mem_add]; simp
        · rw [if_neg ea]
          split
          · exact h.mem _ _
          · rw [mem_add, h.mem]; simp [ea]
    · rw [if_neg e, h.mem]
      by_cases ea : a = k
      · subst ea
        rw [if_pos rfl]
        constructor
        · exact fun q => absurd q.1.symm e
        · exact fun q => absurd q.1.symm e
      · rw [if_neg ea]
theorem KeysOK.of {S S' : Str} (h : KeysOK S) (e1 : S'.keys = S.keys) (e2 : S'.seen = S.seen) : KeysOK S' :=
  ⟨fun g => by unfold keysAt; rw [e1]; exact h.rise g, fun g k => by unfold keysAt; rw [e1, e2]; exact h.mem g k⟩
/-- What is kept. U: the keys that there ever may be. -/
structure CInv (U : List K4) (S : Str) : Prop where
  room : S.room = 1048576
  seenN : (S.seen.map (·.1)).Nodup
  lateN : (S.late.map (·.1)).Nodup
  used : S.used = sumS S.seen
  seen : ∀ x ∈ S.seen, x.1 ∈ U ∧ cowT x.2
  dry : ∀ x ∈ S.dry, x.1 ∈ U ∧ cowT x.2
  late : ∀ x ∈ S.late, x.1 ∈ U ∧ ∀ d ∈ x.2, cowD d
  coh : Coh S
  keys : KeysOK S
structure UOK (U : List K4) : Prop where
  all : ∀ k ∈ U, k.kind = 4 ∧ k.ok = true
  few : U.length ≤ 1500
theorem nodup_sub {l U : List K4} (hn : l.Nodup) (h : ∀ x ∈ l, x ∈ U) : l.length ≤ U.length := by
  induction l generalizing U with
  | nil => simp
  | cons a l ih =>
    have hn' := List.nodup_cons.1 hn
    have ha := h a (List.mem_cons_self ..)
    have h2 : ∀ x ∈ l, x ∈ U.erase a := fun x hx => by
      have hne : x ≠ a := fun e => hn'.1 (e ▸ hx)
      exact (List.mem_erase_of_ne hne).2 (h x (List.mem_cons_of_mem _ hx))
    have h3 := ih hn'.2 h2
    have h4 := List.length_erase_of_mem ha
    have : 0 < U.length := List.length_pos_of_mem ha
    simp only [List.length_cons]
    omega
theorem CInv.count {U : List K4} {S : Str} (h : CInv U S) : S.seen.length ≤ U.length := by
  have := nodup_sub h.seenN fun x hx => by
    obtain ⟨y, hy, rfl⟩ := List.mem_map.1 hx
    exact (h.seen y hy).1
  simpa using this
theorem sum_small {L : List (K4 × TS)} (h : ∀ x ∈ L, cowT x.2) : 0 ≤ sumS L ∧ sumS L ≤ 66 * L.length := by
  induction L with
  | nil => simp [sumS]
  | cons x L ih =>
    have h1 := ih fun y hy => h y (List.mem_cons_of_mem _ hy)
    have h2 := cow_size (h x (List.mem_cons_self ..))
    have e : sumS (x :: L) = x.2.size + sumS L := by simp [sumS]
    rw [e]
    simp only [List.length_cons]
    omega
theorem CInv.few {U : List K4} {S : Str} (h : CInv U S) (hU : UOK U) : 0 ≤ S.used ∧ S.used ≤ 99000 := by
  have h1 := sum_small fun x hx => (h.seen x hx).2
  have h2 := h.count
  have h3 := hU.few
  rw [h.used]
  omega
theorem CInv.roomy {U : List K4} {S : Str} (h : CInv U S) (hU : UOK U) : roomS S = 1048576 - S.used := by
  have := h.few hU
  unfold roomS wrap64
  rw [h.room]
  omega
theorem CInv.getT {U : List K4} {S : Str} (h : CInv U S) (k : K4) : cowO (get k S.seen) := fun t ht => (h.seen _ (get_mem ht)).2
theorem CInv.getU {U : List K4} {S : Str} (h : CInv U S) {k : K4} {t : TS} (ht : get k S.seen = some t) : k ∈ U := (h.seen _ (get_mem ht)).1
theorem size_cow {o : Option TS} (h : cowO o) : 0 ≤ sizeO o ∧ sizeO o ≤ 66 := by
  cases o with
  | none => simp [sizeO]
  | some t => exact cow_size (h t rfl)
theorem show_sum {S : Str} (hn : (S.seen.map (·.1)).Nodup) (hu : S.used = sumS S.seen) (h0 : 0 ≤ S.used ∧ S.used ≤ 100000) (k : K4) (o : Option TS) (h1 : 0 ≤ sizeO o ∧ sizeO o ≤ 66) (h2 : 0 ≤ sizeO (get k S.seen) ∧ sizeO (get k S.seen) ≤ 66) :
    (showS S k (wrap64 (sizeO (get k S.seen))) o).used = sumS (showS S k (wrap64 (sizeO (get k S.seen))) o).seen ∧ ((showS S k (wrap64 (sizeO (get k S.seen))) o).seen.map (·.1)).Nodup := by
  have hsp := sumS_split hn k
  have hdl := sumS_nonneg (del k S.seen)
  have hw : wrap64 (sizeO (get k S.seen)) = sizeO (get k S.seen) := by unfold wrap64; omega
  have hused : IntKind.i64.wrap (S.used + (sizeO o - wrap64 (sizeO (get k S.seen)))) = S.used + (sizeO o - sizeO (get k S.seen)) := by
    rw [hw, IntKind.wrap_i64]; omega
  unfold showS
  simp only
  rw [hused]
  cases o with
  | none =>
    refine ⟨?_, del_nodup hn⟩
    simp only
    rw [show sizeO (none : Option TS) = 0 from rfl]
    omega
  | some t =>
    refine ⟨?_, put_nodup hn⟩
    simp only
    have : sumS (put k t S.seen) = t.size + sumS (del k S.seen) := by simp [sumS, put]
    rw [this, show sizeO (some t) = t.size from rfl]
    omega
theorem show_seen {U : List K4} {S : Str} (h : ∀ x ∈ S.seen, x.1 ∈ U ∧ cowT x.2) {k : K4} (hk : k ∈ U) (was : Int) {o : Option TS} (ho : cowO o) : ∀ x ∈ (showS S k was o).seen, x.1 ∈ U ∧ cowT x.2 := by
  intro x hx
  cases o with
  | none => exact h x (List.mem_filter.1 hx).1
  | some t =>
    rcases List.mem_cons.1 hx with rfl | hx
    · exact ⟨hk, ho _ rfl⟩
    · exact h x (List.mem_filter.1 hx).1
/-- A deed that the fuse doesn't take. -/
theorem CInv.did {U : List K4} {S : Str} (h : CInv U S) (hU : UOK U) {k : K4} (hk : k ∈ U) {d : Dd} (hd : cowD d) (hb : (burnsS S).1 = false) : CInv U (doS S k d).2 := by
  have hdn := (do_done (k := k) (d := d) hb).2
  have hco := hdn.coh h.coh
  obtain ⟨f, hf⟩ := burns_not hb
  have hst := cow_step (h.getT k) hd
  have hsm := h.few hU
  have hss := show_sum h.seenN h.used ⟨hsm.1, by omega⟩ k (stepD (get k S.seen) d) (size_cow hst) (size_cow (h.getT k))
  have e : (doS S k d).2 = { showS { S with fuse := f } k (wrap64 (sizeO (get k S.seen))) (stepD (get k S.seen) d) with
      late := put k (lateAt S k ++ [d]) S.late, wet := wrap64 (S.wet + 1), deeds := wrap64 (S.deeds + 1) } := by
    unfold doS
    rw [hb, hf]
    rfl
  rw [e] at hco ⊢
  refine ⟨h.room, hss.2, put_nodup h.lateN, hss.1, show_seen (S := S) h.seen hk (wrap64 (sizeO (get k S.seen))) hst, h.dry, ?_, hco, ?_⟩
  · intro x hx
    have hx : x ∈ put k (lateAt S k ++ [d]) S.late := hx
    rcases List.mem_cons.1 hx with rfl | hx
    · refine ⟨hk, fun d' hd' => ?_⟩
      rcases List.mem_append.1 hd' with q | q
      · unfold lateAt at q
        cases hg : get k S.late with
        | none => rw [hg] at q; simp at q
        | some ds => rw [hg] at q; exact (h.late _ (get_mem hg)).2 d' (by simpa using q)
      · simp at q; subst q; exact hd
    · exact h.late x (List.mem_filter.1 hx).1
  · exact KeysOK.of (keys_show (S := { S with fuse := f }) ⟨h.keys.rise, h.keys.mem⟩ k (wrap64 (sizeO (get k S.seen))) (stepD (get k S.seen) d)) rfl rfl
theorem CInv.dried {U : List K4} {S : Str} (h : CInv U S) (hon : S.on = true) (hb : (burnsS S).1 = false) : CInv U (barrierS S).2 := by
  have hd := (barrier_dried hon h.coh hb).2
  obtain ⟨f, hf⟩ := burns_not hb
  have e : (barrierS S).2 = { S with fuse := f, dry := dryAll S, late := [], wet := 0, deeds := wrap64 (S.deeds + 1) } := by
    unfold barrierS
    rw [if_neg (by simp [hon]), hb, hf]
    rfl
  have hco := hd.coh
  rw [e] at hco ⊢
  refine ⟨h.room, h.seenN, by simp, h.used, h.seen, ?_, fun x hx => (by cases hx), hco, ⟨h.keys.rise, h.keys.mem⟩⟩
  intro x hx
  have hx : x ∈ dryBy S.dry S.seen (S.late.map (·.1)) := hx
  unfold dryBy at hx
  rcases List.mem_append.1 hx with q | q
  · exact h.dry x (List.mem_filter.1 q).1
  · exact h.seen x (List.mem_filter.1 q).1
theorem left_cow {S : Str} {U : List K4} (hd : ∀ x ∈ S.dry, x.1 ∈ U ∧ cowT x.2) (hl : ∀ x ∈ S.late, x.1 ∈ U ∧ ∀ d ∈ x.2, cowD d) (k : K4) (n torn : Int) : cowO (leftS S k n torn).1 := by
  have hla : ∀ d ∈ lateAt S k, cowD d := fun d hd' => by
    unfold lateAt at hd'
    cases hg : get k S.late with
    | none => rw [hg] at hd'; simp at hd'
    | some ds => rw [hg] at hd'; exact (hl _ (get_mem hg)).2 d (by simpa using hd')
  have h1 : cowO (((lateAt S k).take (keptN n (lateAt S k).length)).foldl stepD (get k S.dry)) := cow_fold (fun t ht => (hd _ (get_mem ht)).2) fun d hd' => hla d (List.mem_of_mem_take hd')
  unfold leftS
  simp only
  split
  · rename_i d hg
    split
    · rename_i hc
      exact cow_step h1 (cow_torn (hla d (List.mem_of_getElem? hg)) hc.1)
    · exact h1
  · exact h1
structure FInv (U : List K4) (S : Str) : Prop where
  room : S.room = 1048576
  seenN : (S.seen.map (·.1)).Nodup
  used : S.used = sumS S.seen
  seen : ∀ x ∈ S.seen, x.1 ∈ U ∧ cowT x.2
  dry : ∀ x ∈ S.dry, x.1 ∈ U ∧ cowT x.2
  late : ∀ x ∈ S.late, x.1 ∈ U ∧ ∀ d ∈ x.2, cowD d
  keys : KeysOK S
theorem FInv.fallK {U : List K4} {S : Str} (h : FInv U S) (hU : UOK U) {k : K4} (hk : k ∈ U) (n torn : Int) : FInv U (fallK S k n torn) := by
  have hl := left_cow h.dry h.late k n torn
  have hsm : 0 ≤ S.used ∧ S.used ≤ 100000 := by
    have h1 := sum_small fun x hx => (h.seen x hx).2
    have h2 : S.seen.length ≤ U.length := by
      have := nodup_sub h.seenN fun x hx => by
        obtain ⟨y, hy, rfl⟩ := List.mem_map.1 hx
        exact (h.seen y hy).1
      simpa using this
    have h3 := hU.few
    rw [h.used]
    omega
  have hg : cowO (get k S.seen) := fun t ht => (h.seen _ (get_mem ht)).2
  have hss := show_sum h.seenN h.used hsm k (leftS S k n torn).1 (size_cow hl) (size_cow hg)
  refine ⟨h.room, hss.2, hss.1, show_seen (S := S) h.seen hk (wrap64 (sizeO (get k S.seen))) hl, ?_, h.late, KeysOK.of (keys_show h.keys k (wrap64 (sizeO (get k S.seen))) (leftS S k n torn).1) rfl rfl⟩
  intro x hx
  have hx' : x ∈ dryPut S.dry k (leftS S k n torn).1 := hx
  revert hx' hl
  cases (leftS S k n torn).1 with
  | none => exact fun _ hx' => h.dry x (List.mem_filter.1 hx').1
  | some t =>
    intro hl hx'
    rcases List.mem_cons.1 hx' with rfl | hx'
    · exact ⟨hk, hl _ rfl⟩
    · exact h.dry x (List.mem_filter.1 hx').1
theorem FInv.fallL {U : List K4} (hU : UOK U) (keep : List Int) (torn : Int) : ∀ (ss : List K4) (i : Nat) (S : Str) (n : Int), FInv U S → (∀ k ∈ ss, k ∈ U) → FInv U (fallL keep torn ss i S n).1
  | [], _, _, _, h, _ => h
  | k :: ss, i, S, n, h, hs => FInv.fallL hU keep torn ss (i + 1) _ _ (h.fallK hU (hs k (List.mem_cons_self ..)) _ _) fun k' hk' => hs k' (List.mem_cons_of_mem _ hk')
theorem CInv.fell {U : List K4} {S : Str} (h : CInv U S) (hU : UOK U) (hon : S.on = true) (keep : List Int) (torn : Int) : CInv U (fallS S keep torn).1 := by
  have hf := fall_fell hon h.lateN h.coh keep torn
  have hF : FInv U S := ⟨h.room, h.seenN, h.used, h.seen, h.dry, h.late, h.keys⟩
  have h2 := FInv.fallL hU keep torn (sortK (S.late.map (·.1))) 0 S 0 hF fun k hk => by
    have : k ∈ S.late.map (·.1) := (sort_perm _).mem_iff.1 hk
    obtain ⟨y, hy, rfl⟩ := List.mem_map.1 this
    exact (h.late y hy).1
  have hco := hf.coh
  have e : (fallS S keep torn).1 = fallEnd (Go.Proofs.YtagljjhfkhadpaaGreat.fallL keep torn (sortK (S.late.map (·.1))) 0 S 0).1 := by unfold fallS; rw [if_pos hon]
  rw [e] at hco ⊢
  exact ⟨h2.room, h2.seenN, by simp [fallEnd, fuseS], h2.used, h2.seen, h2.dry, fun x hx => by (have hx : x ∈ (fallEnd _).late := hx; simp [fallEnd, fuseS] at hx), hco, KeysOK.of h2.keys rfl rfl⟩
theorem CInv.power {U : List K4} {S : Str} (h : CInv U S) : CInv U (powerS S) := ⟨h.room, h.seenN, h.lateN, h.used, h.seen, h.dry, h.late, h.coh, ⟨h.keys.rise, h.keys.mem⟩⟩
theorem CInv.fuse {U : List K4} {S : Str} (h : CInv U S) (n : Int) (keep : List Int) (torn : Int) : CInv U (fuseS S n keep torn) := by
  unfold fuseS
  split
  · exact ⟨h.room, h.seenN, h.lateN, h.used, h.seen, h.dry, h.late, h.coh, ⟨h.keys.rise, h.keys.mem⟩⟩
  · exact ⟨h.room, h.seenN, h.lateN, h.used, h.seen, h.dry, h.late, h.coh, ⟨h.keys.rise, h.keys.mem⟩⟩
theorem CInv.new : CInv [] (newS 1048576) := by
  refine ⟨by show max 0 (min 1048576 1048576) = 1048576; omega, by simp [newS], by simp [newS], by simp [newS, sumS], fun x hx => (by cases hx), fun x hx => (by cases hx), fun x hx => (by cases hx), fun k => by simp [newS, Go.Proofs.YtagljjhfkhadpaaGreat.lateAt, Go.Proofs.YtagljjhfkhadpaaGreat.get], ⟨fun g => by simp [newS, keysAt, Go.Proofs.YtagljjhfkhadpaaGreat.get, Rising], fun g k => by simp [newS, keysAt, Go.Proofs.YtagljjhfkhadpaaGreat.get]⟩⟩
theorem CInv.wider {U V : List K4} {S : Str} (h : CInv U S) (hs : ∀ k ∈ U, k ∈ V) : CInv V S :=
  ⟨h.room, h.seenN, h.lateN, h.used, fun x hx => ⟨hs _ (h.seen x hx).1, (h.seen x hx).2⟩, fun x hx => ⟨hs _ (h.dry x hx).1, (h.dry x hx).2⟩, fun x hx => ⟨hs _ (h.late x hx).1, (h.late x hx).2⟩, h.coh, h.keys⟩
end Go.Proofs.YtagljjhfkhadpaaGreat
