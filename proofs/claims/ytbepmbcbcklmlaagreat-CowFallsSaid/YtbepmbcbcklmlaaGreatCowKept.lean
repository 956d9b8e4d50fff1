/- What a Tidy leaves. No program in sight. -/
import Derived.Test.YtbepmbcbcklmlaaGreatCowSet
set_option linter.unusedSimpArgs false
set_option linter.unusedVariables false
set_option linter.unusedSectionVars false
namespace Go.Proofs.YtbepmbcbcklmlaaGreat
open Go.RowKit
/-- The copy next below, 0 where there is none. -/
def prevL (l : List Int) (n : Int) : Int := ((l.filter fun x => decide (x < n)).getLast?).getD 0
def befores (V : CV) (ks : List K4) (k : K4) : List K4 := ks.filter fun a => (decide (a.num = k.num ∧ a.snap ≠ 0) && wholeB (V a.num a.snap)) && a.lt k
def pbK (V : CV) (ks : List K4) (last below : Int) (k : K4) : Int := ((befores V ks k).getLast?.map (·.snap)).getD (if k.num = last then below else 0)
theorem lt_trans4 {a b c : K4} (h1 : a.lt b = true) (h2 : b.lt c = true) : a.lt c = true := by
  simp only [K4.lt, decide_eq_true_eq] at *
  omega
theorem getLast_cons {α : Type} (a : α) (l : List α) : (a :: l).getLast? = some (l.getLast?.getD a) := by
  cases h : l.getLast? with
  | none => rw [List.getLast?_eq_none_iff] at h; subst h; rfl
  | some x =>
    obtain ⟨l', rfl⟩ := List.getLast?_eq_some_iff.1 h
    rw [← List.cons_append, List.getLast?_concat]
    rfl
theorem tidy_deeds (V : CV) (img : Int) (m : List Int) : ∀ (ks : List K4) (last below : Int), Rising ks → (∀ k ∈ ks, k = dK img k.num k.snap ∧ last ≤ k.num) →
    ∀ s, s ∈ tidyP V img m ks last below ↔ ∃ k ∈ ks, s = .deed k goneD ∧ k.snap ≠ 0 ∧ ¬ (wholeB (V k.num k.snap) = true ∧ seenB m (pbK V ks last below k) k.snap = true)
  | [], _, _, _, _, s => ⟨fun h => (by cases h), fun ⟨k, hk, _⟩ => (by cases hk)⟩
  | a :: ks, last, below, hr, hks, s => by
    have hr' := List.pairwise_cons.1 hr
    obtain ⟨ha1, ha2⟩ := hks a (List.mem_cons_self ..)
    have hnum : ∀ k ∈ ks, a.num ≤ k.num := fun k hk => by
      have h1 := hr'.1 k hk
      obtain ⟨q1, _⟩ := hks k (List.mem_cons_of_mem _ hk)
      rw [ha1, q1] at h1
      simp only [dK, K4.lt, decide_eq_true_eq] at h1
      omega
    obtain ⟨bl, hbl⟩ : ∃ bl, (if a.num = last then below else 0) = bl := ⟨_, rfl⟩
    have hpa : pbK V (a :: ks) last below a = bl := by
      unfold pbK
      have : befores V (a :: ks) a = [] := by
        unfold befores
        rw [List.filter_eq_nil_iff]
        intro x hx
        rcases List.mem_cons.1 hx with rfl | hx
        · rw [lt_irrefl']; simp
        · rw [lt_asymm' (hr'.1 x hx)]; simp
      rw [this]
      exact hbl
    obtain ⟨bl', hbl'⟩ : ∃ bl', (if a.snap = 0 then bl else if wholeB (V a.num a.snap) = true then a.snap else bl) = bl' := ⟨_, rfl⟩
    have hpk : ∀ k ∈ ks, pbK V (a :: ks) last below k = pbK V ks a.num bl' k := fun k hk => by
      have hak := hr'.1 k hk
      have hkl := (hks k (List.mem_cons_of_mem _ hk)).2
      have hkn := hnum k hk
      unfold pbK
      have e : befores V (a :: ks) k = if (decide (a.num = k.num ∧ a.snap ≠ 0) && wholeB (V a.num a.snap)) = true then a :: befores V ks k else befores V ks k := by
        unfold befores
        rw [List.filter_cons, hak, Bool.and_true]
      rw [e]
      by_cases hin : (decide (a.num = k.num ∧ a.snap ≠ 0) && wholeB (V a.num a.snap)) = true
      · rw [if_pos hin, getLast_cons]
        simp only [Bool.and_eq_true, decide_eq_true_eq] at hin
        obtain ⟨⟨h1, h2⟩, h3⟩ := hin
        rw [if_neg h2, if_pos h3] at hbl'
        subst hbl'
        cases (befores V ks k).getLast? with
        | none => simp [h1]
        | some x => simp
      · rw [if_neg hin]
        congr 1
        by_cases h1 : a.num = k.num
        · have hb : bl' = bl := by
            rw [← hbl']
            by_cases h2 : a.snap = 0
            · rw [if_pos h2]
            · rw [if_neg h2, if_neg (fun h3 => hin (by rw [h3, Bool.and_true, decide_eq_true_eq]; exact ⟨h1, h2⟩))]
          rw [hb, ← hbl, h1, if_pos rfl]
        · rw [if_neg (show ¬ k.num = last by omega), if_neg (fun q => h1 q.symm)]
    have ih := tidy_deeds V img m ks a.num bl' hr'.2 (fun k hk => ⟨(hks k (List.mem_cons_of_mem _ hk)).1, hnum k hk⟩) s
    have hex : (∃ k ∈ ks, s = .deed k goneD ∧ k.snap ≠ 0 ∧ ¬ (wholeB (V k.num k.snap) = true ∧ seenB m (pbK V (a :: ks) last below k) k.snap = true)) ↔ s ∈ tidyP V img m ks a.num bl' := by
      rw [ih]
      constructor
      · rintro ⟨k, hk, h1, h2, h3⟩
        exact ⟨k, hk, h1, h2, by rw [← hpk k hk]; exact h3⟩
      · rintro ⟨k, hk, h1, h2, h3⟩
        exact ⟨k, hk, h1, h2, by rw [hpk k hk]; exact h3⟩
    have hun : tidyP V img m (a :: ks) last below = if a.snap = 0 then tidyP V img m ks a.num bl else if wholeB (V a.num a.snap) = true ∧ seenB m bl a.snap = true then tidyP V img m ks a.num a.snap
      else .deed (dK img a.num a.snap) goneD :: tidyP V img m ks a.num (if wholeB (V a.num a.snap) = true then a.snap else bl) := by rw [← hbl]; rfl
    rw [hun, ← ha1]
    have hsplit : (∃ k ∈ a :: ks, s = .deed k goneD ∧ k.snap ≠ 0 ∧ ¬ (wholeB (V k.num k.snap) = true ∧ seenB m (pbK V (a :: ks) last below k) k.snap = true)) ↔
        (s = .deed a goneD ∧ a.snap ≠ 0 ∧ ¬ (wholeB (V a.num a.snap) = true ∧ seenB m bl a.snap = true)) ∨ s ∈ tidyP V img m ks a.num bl' := by
      rw [← hex]
      constructor
      · rintro ⟨k, hk, h⟩
        rcases List.mem_cons.1 hk with rfl | hk
        · rw [hpa] at h; exact .inl h
        · exact .inr ⟨k, hk, h⟩
      · rintro (h | ⟨k, hk, h⟩)
        · exact ⟨a, List.mem_cons_self .., by rw [hpa]; exact h⟩
        · exact ⟨k, List.mem_cons_of_mem _ hk, h⟩
    rw [hsplit]
    by_cases h0 : a.snap = 0
    · rw [if_pos h0] at hbl' ⊢
      subst hbl'
      constructor
      · exact .inr
      · rintro (h | h)
        · exact absurd h0 h.2.1
        · exact h
    · rw [if_neg h0] at hbl' ⊢
      by_cases hc : wholeB (V a.num a.snap) = true ∧ seenB m bl a.snap = true
      · rw [if_pos hc.1] at hbl'
        subst hbl'
        rw [if_pos hc]
        constructor
        · exact .inr
        · rintro (h | h)
          · exact absurd hc h.2.2
          · exact h
      · rw [if_neg hc, hbl', List.mem_cons]
        constructor
        · rintro (h | h)
          · exact .inl ⟨h, h0, hc⟩
          · exact .inr h
        · rintro (h | h)
          · exact .inl h.1
          · exact .inr h
theorem viewExec_gone : ∀ {l : List DStep} {W : K4 → Option TS}, (∀ s ∈ l, ∃ k, s = .deed k goneD) → ∀ k, (.deed k goneD ∈ l → viewExec l W k = none) ∧ (.deed k goneD ∉ l → viewExec l W k = W k)
  | [], W, _, k => ⟨fun h => (by cases h), fun _ => rfl⟩
  | s :: l, W, h, k => by
    obtain ⟨k', rfl⟩ := h _ (List.mem_cons_self ..)
    obtain ⟨h1, h2⟩ := viewExec_gone (l := l) (W := viewStep (.deed k' goneD) W) (fun t ht => h t (List.mem_cons_of_mem _ ht)) k
    show (_ → viewExec l (viewStep (.deed k' goneD) W) k = _) ∧ (_ → viewExec l (viewStep (.deed k' goneD) W) k = _)
    have hv : viewStep (.deed k' goneD) W k = if k = k' then none else W k := by
      show (if k = k' then stepD (W k') goneD else W k) = _
      rfl
    by_cases hm : DStep.deed k goneD ∈ l
    · exact ⟨fun _ => h1 hm, fun hn => absurd (List.mem_cons_of_mem _ hm) hn⟩
    · rw [h2 hm, hv]
      by_cases hk : k = k'
      · subst hk
        exact ⟨fun _ => if_pos rfl, fun hn => absurd (List.mem_cons_self ..) hn⟩
      · rw [if_neg hk]
        refine ⟨fun hn => ?_, fun _ => rfl⟩
        rcases List.mem_cons.1 hn with q | q
        · exact absurd (DStep.deed.inj q).1 hk
        · exact absurd q hm
theorem find_first {l : List Int} (hi : Inc l) {x c : Int} (h : l.find? (fun n => decide (x ≤ n)) = some c) : c ∈ l ∧ x ≤ c ∧ ∀ y ∈ l, y < c → y < x := by
  obtain ⟨h1, us, vs, rfl, h2⟩ := List.find?_eq_some_iff_append.1 h
  refine ⟨by simp, by simpa using h1, fun y hy hlt => ?_⟩
  rcases List.mem_append.1 hy with q | q
  · have := h2 y q
    simp at this
    exact this
  · rcases List.mem_cons.1 q with rfl | q
    · omega
    · have := (List.pairwise_cons.1 (List.pairwise_append.1 hi).2.1).1 y q
      omega
theorem find_of {l : List Int} (hi : Inc l) {x c : Int} (h1 : c ∈ l) (h2 : x ≤ c) (h3 : ∀ y ∈ l, y < c → y < x) : l.find? (fun n => decide (x ≤ n)) = some c := by
  obtain ⟨us, vs, rfl⟩ := List.append_of_mem h1
  refine List.find?_eq_some_iff_append.2 ⟨by simpa using h2, us, vs, rfl, fun y hy => ?_⟩
  have hlt : y < c := (List.pairwise_append.1 hi).2.2 y hy c (by simp)
  have := h3 y (List.mem_append_left _ hy) hlt
  simp; omega
theorem find_sub {L L' : List Int} (h1 : Inc L) (h2 : Inc L') (hs : ∀ n ∈ L', n ∈ L) {x : Int} (hx : ∀ c, L.find? (fun n => decide (x ≤ n)) = some c → c ∈ L') : L'.find? (fun n => decide (x ≤ n)) = L.find? (fun n => decide (x ≤ n)) := by
  cases hf : L.find? (fun n => decide (x ≤ n)) with
  | none =>
    rw [List.find?_eq_none] at hf ⊢
    exact fun y hy => hf y (hs y hy)
  | some c =>
    obtain ⟨a1, a2, a3⟩ := find_first h1 hf
    exact find_of h2 (hx c hf) a2 fun y hy hlt => a3 y (hs y hy) hlt
theorem prev_lt {L : List Int} (hi : Inc L) {x c : Int} (h0 : 0 < x) (hf : L.find? (fun n => decide (x ≤ n)) = some c) : prevL L c < x := by
  obtain ⟨_, _, a3⟩ := find_first hi hf
  unfold prevL
  cases hg : (L.filter fun y => decide (y < c)).getLast? with
  | none => exact h0
  | some y =>
    have := List.mem_of_getLast? hg
    obtain ⟨q1, q2⟩ := List.mem_filter.1 this
    exact a3 y q1 (by simpa using q2)
theorem prev_mono {L L' : List Int} (hi : Inc L) (hs : ∀ n ∈ L', n ∈ L) (hp : ∀ n ∈ L, 0 ≤ n) (n : Int) : prevL L' n ≤ prevL L n ∧ ∀ y ∈ L, y < n → y ≤ prevL L n := by
  have key : ∀ y ∈ L, y < n → y ≤ prevL L n := fun y hy hlt => by
    unfold prevL
    cases hg : (L.filter fun z => decide (z < n)).getLast? with
    | none =>
      rw [List.getLast?_eq_none_iff, List.filter_eq_nil_iff] at hg
      exact absurd (by simpa using hlt) (hg y hy)
    | some z =>
      obtain ⟨l', hl'⟩ := List.getLast?_eq_some_iff.1 hg
      have hm : y ∈ L.filter fun z => decide (z < n) := List.mem_filter.2 ⟨hy, by simpa using hlt⟩
      have hi2 : Inc (L.filter fun z => decide (z < n)) := hi.filter _
      rw [hl'] at hm hi2
      rcases List.mem_append.1 hm with q | q
      · have := (List.pairwise_append.1 hi2).2.2 y q z (by simp)
        simp; omega
      · simp at q; subst q; simp
  refine ⟨?_, key⟩
  unfold prevL
  cases hg : (L'.filter fun z => decide (z < n)).getLast? with
  | none =>
    simp only [Option.getD_none]
    cases hg2 : (L.filter fun z => decide (z < n)).getLast? with
    | none => simp
    | some z => exact hp z (List.mem_filter.1 (List.mem_of_getLast? hg2)).1
  | some y =>
    obtain ⟨q1, q2⟩ := List.mem_filter.1 (List.mem_of_getLast? hg)
    exact key y (hs y q1) (by simpa using q2)
theorem pb_prev {S : Str} (h : KeysOK S) (V : CV) {img : Int} {k : K4} (hk : k = dK img k.num k.snap) (hn : k.num ≠ -1) :
    pbK V (keysAt S ⟨4, img⟩) (-1) 0 k = prevL (copiesV V (keysAt S ⟨4, img⟩) k.num) k.snap := by
  unfold pbK prevL copiesV befores
  rw [if_neg hn]
  congr 1
  have e : (keysAt S ⟨4, img⟩).filter (fun a => (decide (a.num = k.num ∧ a.snap ≠ 0) && wholeB (V a.num a.snap)) && a.lt k) =
      ((keysAt S ⟨4, img⟩).filter fun a => decide (a.num = k.num ∧ a.snap ≠ 0) && wholeB (V a.num a.snap)).filter fun a => decide (a.snap < k.snap) := by
    rw [List.filter_filter]
    refine List.filter_congr fun a ha => ?_
    obtain ⟨q, _⟩ := grp_key h ha
    have e4 : a.lt k = decide (a.num < k.num ∨ (a.num = k.num ∧ a.snap < k.snap)) := by
      have : a.lt k = (dK img a.num a.snap).lt (dK img k.num k.snap) := by rw [← q, ← hk]
      rw [this]
      unfold K4.lt dK
      rw [decide_eq_decide]
      simp
    rw [e4, Bool.eq_iff_iff]
    simp only [Bool.and_eq_true, decide_eq_true_eq]
    constructor
    · rintro ⟨⟨⟨h1, h2⟩, h3⟩, h4⟩
      exact ⟨by omega, ⟨h1, h2⟩, h3⟩
    · rintro ⟨h4, ⟨h1, h2⟩, h3⟩
      exact ⟨⟨⟨h1, h2⟩, h3⟩, by omega⟩
  rw [e, List.filter_map, List.getLast?_map]
  rfl
def tidyA (m : List Int) : A17 := ⟨5, 0, 0, 0, 0, 0, [], .slice none 0 0, m, .slice none 0 0⟩
theorem tidy_ours (S : Str) (img : Int) (m : List Int) : oursS S img (tidyA m) = tidyS S img m := rfl
/-- What a Tidy of image 0 leaves. -/
structure Tidied (S S' : Str) (m : List Int) : Prop where
  calm : Calm17 S'
  head : ∀ num, cview S' 0 num 0 = cview S 0 num 0
  kept : ∀ num n, 0 ≤ num → n ≠ 0 → cview S' 0 num n = if wholeB (cview S 0 num n) = true ∧ seenB m (prevL (copiesV (cview S 0) (keysAt S ⟨4, 0⟩) num) n) n = true then cview S 0 num n else none
theorem U17_rng {k : K4} (h : k ∈ U17) : 0 ≤ k.num ∧ 0 ≤ k.snap := by
  obtain ⟨i, _, rfl⟩ := List.mem_map.1 h
  unfold dK
  simp only
  omega
theorem tidy_keys {S : Str} (h : Calm17 S) : ∀ k ∈ keysAt S ⟨4, 0⟩, k = dK 0 k.num k.snap ∧ -1 ≤ k.num := fun k hk => by
  obtain ⟨q1, q2⟩ := grp_key h.live.inv.keys hk
  obtain ⟨t, ht⟩ := Option.isSome_iff_exists.1 q2
  have := U17_rng (h.live.inv.getU ht)
  exact ⟨q1, by omega⟩
theorem Calm17.tidied {S : Str} (h : Calm17 S) (m : List Int) : (tidyS S 0 m).1 = 0 ∧ Tidied S (tidyS S 0 m).2 m := by
  obtain ⟨h1, h2, h3⟩ := h.done (img := 0) (a := tidyA m) ⟨by omega, by omega⟩ (.inl rfl)
  rw [tidy_ours] at h1 h2 h3
  have hpl : oursP (cview S 0) (keysAt S ⟨4, 0⟩) 0 (tidyA m) = tidyP (cview S 0) 0 m (keysAt S ⟨4, 0⟩) (-1) 0 := rfl
  rw [hpl] at h3
  have hde := tidy_deeds (cview S 0) 0 m (keysAt S ⟨4, 0⟩) (-1) 0 (h.live.inv.keys.rise _) (tidy_keys h)
  have hv : ∀ k, (DStep.deed k goneD ∈ tidyP (cview S 0) 0 m (keysAt S ⟨4, 0⟩) (-1) 0 → get k (tidyS S 0 m).2.seen = none) ∧ (DStep.deed k goneD ∉ tidyP (cview S 0) 0 m (keysAt S ⟨4, 0⟩) (-1) 0 → get k (tidyS S 0 m).2.seen = get k S.seen) := fun k => by
    have := congrFun h3 k
    unfold viewOf at this
    rw [this]
    exact viewExec_gone (fun s hs => by obtain ⟨k, _, q, _⟩ := (hde s).1 hs; exact ⟨k, q⟩) k
  refine ⟨h1, h2, fun num => ?_, fun num n hnum hn => ?_⟩
  · unfold cview
    refine (hv _).2 fun hm => ?_
    obtain ⟨k, _, q, hs, _⟩ := (hde _).1 hm
    have := (DStep.deed.inj q).1
    rw [← this] at hs
    exact hs rfl
  · have hkk : ∀ k, dK 0 num n = k → k.num = num ∧ k.snap = n := fun k e => by rw [← e]; exact ⟨rfl, rfl⟩
    by_cases hm : DStep.deed (dK 0 num n) goneD ∈ tidyP (cview S 0) 0 m (keysAt S ⟨4, 0⟩) (-1) 0
    · rw [show cview (tidyS S 0 m).2 0 num n = none from (hv _).1 hm]
      obtain ⟨k, hk, q, _, hc⟩ := (hde _).1 hm
      obtain ⟨e1, e2⟩ := hkk k (DStep.deed.inj q).1
      rw [pb_prev h.live.inv.keys (cview S 0) (grp_key h.live.inv.keys hk).1 (by omega), e1, e2] at hc
      rw [if_neg hc]
    · rw [show cview (tidyS S 0 m).2 0 num n = cview S 0 num n from (hv _).2 hm]
      split
      · rfl
      · rename_i hc
        cases hg : cview S 0 num n with
        | none => rfl
        | some t =>
          refine absurd ((hde _).2 ⟨dK 0 num n, (h.live.inv.keys.mem _ _).2 ⟨rfl, ?_⟩, rfl, hn, ?_⟩) hm
          · show (cview S 0 num n).isSome = true
            rw [hg]; rfl
          · rw [pb_prev h.live.inv.keys (cview S 0) (k := dK 0 num n) rfl (by show num ≠ -1; omega)]
            exact hc
theorem Tidied.copies {S S' : Str} {m : List Int} (h : Calm17 S) (ht : Tidied S S' m) {num : Int} (hn : 0 ≤ num) (n : Int) :
    n ∈ copiesV (cview S' 0) (keysAt S' ⟨4, 0⟩) num ↔ n ∈ copiesV (cview S 0) (keysAt S ⟨4, 0⟩) num ∧ seenB m (prevL (copiesV (cview S 0) (keysAt S ⟨4, 0⟩) num) n) n = true := by
  rw [copies_mem ht.calm.live.inv.keys, copies_mem h.live.inv.keys]
  constructor
  · rintro ⟨h1, h2⟩
    rw [ht.kept num n hn h1] at h2
    split at h2
    · rename_i hc; exact ⟨⟨h1, hc.1⟩, hc.2⟩
    · simp [wholeB] at h2
  · rintro ⟨⟨h1, h2⟩, h3⟩
    rw [ht.kept num n hn h1, if_pos ⟨h2, h3⟩]
    exact ⟨h1, h2⟩
/-- What a mark sees stays. -/
theorem Tidied.val {S S' : Str} {m : List Int} (h : Calm17 S) (ht : Tidied S S' m) {num snap : Int} (hn : 0 ≤ num) (hs : snap = 0 ∨ (0 < snap ∧ snap ∈ m)) :
    valO (cview S' 0) (keysAt S' ⟨4, 0⟩) num snap = valO (cview S 0) (keysAt S ⟨4, 0⟩) num snap := by
  unfold valO
  rcases hs with rfl | ⟨h0, hm⟩
  · rw [if_neg (by omega), if_neg (by omega), ht.head]
  · rw [if_pos h0, if_pos h0]
    have hi1 := copies_inc h.live.inv.keys (cview S 0) 0 num
    have hf := find_sub (x := snap) hi1 (copies_inc ht.calm.live.inv.keys (cview S' 0) 0 num) (fun n hn' => ((ht.copies h hn n).1 hn').1) (fun c hc => by
      obtain ⟨a1, a2, _⟩ := find_first hi1 hc
      refine (ht.copies h hn c).2 ⟨a1, ?_⟩
      unfold seenB
      rw [List.any_eq_true]
      refine ⟨snap, hm, ?_⟩
      have := prev_lt hi1 h0 hc
      simp; omega)
    rw [hf]
    cases hg : (copiesV (cview S 0) (keysAt S ⟨4, 0⟩) num).find? (fun n => decide (snap ≤ n)) with
    | none => simp only; rw [ht.head]
    | some c =>
      simp only
      obtain ⟨a1, a2, _⟩ := find_first hi1 hg
      have hc : c ∈ copiesV (cview S' 0) (keysAt S' ⟨4, 0⟩) num := List.mem_of_find?_eq_some (hf.trans hg)
      obtain ⟨b1, b2⟩ := (ht.copies h hn c).1 hc
      obtain ⟨c1, c2⟩ := (copies_mem h.live.inv.keys 0 num c).1 b1
      rw [ht.kept num c hn c1, if_pos ⟨c2, b2⟩]
theorem copies_pos {S : Str} (h : Calm17 S) {num n : Int} (hm : n ∈ copiesV (cview S 0) (keysAt S ⟨4, 0⟩) num) : 0 < n := by
  obtain ⟨h1, h2⟩ := (copies_mem h.live.inv.keys 0 num n).1 hm
  cases hg : cview S 0 num n with
  | none => rw [hg] at h2; simp [wholeB] at h2
  | some t =>
    have := (U17_rng (h.live.inv.getU hg)).2
    have : 0 ≤ n := this
    omega
/-- Done twice it is done once. -/
theorem Tidied.twice {S S' : Str} {m : List Int} (h : Calm17 S) (ht : Tidied S S' m) : tidyS S' 0 m = (0, S') := by
  have hob : objB 0 0 = true := rfl
  have hnil : tidyP (cview S' 0) 0 m (keysAt S' ⟨4, 0⟩) (-1) 0 = [] := by
    have hde := tidy_deeds (cview S' 0) 0 m (keysAt S' ⟨4, 0⟩) (-1) 0 (ht.calm.live.inv.keys.rise _) (tidy_keys ht.calm)
    refine List.eq_nil_iff_forall_not_mem.2 fun s hs => ?_
    obtain ⟨k, hk, _, hsn, hc⟩ := (hde s).1 hs
    obtain ⟨q1, q2⟩ := grp_key ht.calm.live.inv.keys hk
    obtain ⟨t, htt⟩ := Option.isSome_iff_exists.1 q2
    have hrng := U17_rng (ht.calm.live.inv.getU htt)
    have hv := ht.kept k.num k.snap hrng.1 hsn
    have hsome : cview S' 0 k.num k.snap = some t := by unfold cview; rw [← q1]; exact htt
    rw [hsome] at hv
    split at hv
    · rename_i hkeep
      have hw : wholeB (cview S' 0 k.num k.snap) = true := by rw [hsome, hv]; exact hkeep.1
      refine hc ⟨hw, ?_⟩
      rw [pb_prev ht.calm.live.inv.keys (cview S' 0) q1 (by omega)]
      have hmono := (prev_mono (copies_inc h.live.inv.keys (cview S 0) 0 k.num) (fun n hn' => ((ht.copies h hrng.1 n).1 hn').1) (fun n hn' => by have := copies_pos h hn'; omega) k.snap).1
      have hk2 := hkeep.2
      unfold seenB at hk2 ⊢
      rw [List.any_eq_true] at hk2 ⊢
      obtain ⟨x, hx, hx2⟩ := hk2
      refine ⟨x, hx, ?_⟩
      simp only [Bool.and_eq_true, decide_eq_true_eq] at hx2 ⊢
      omega
    · cases hv
  have hp := ours_plan ht.calm.live U17_ok (img := 0) (a := tidyA m) ⟨by omega, by omega⟩ (.inl rfl)
  rw [tidy_ours, show oursP (cview S' 0) (keysAt S' ⟨4, 0⟩) 0 (tidyA m) = tidyP (cview S' 0) 0 m (keysAt S' ⟨4, 0⟩) (-1) 0 from rfl, hnil] at hp
  exact hp
/-- What is left each is some mark's. -/
theorem Tidied.seen {S S' : Str} {m : List Int} (h : Calm17 S) (ht : Tidied S S' m) {num : Int} (hn : 0 ≤ num) {n below : Int} (hm : n ∈ copiesV (cview S' 0) (keysAt S' ⟨4, 0⟩) num) (hb : below = 0 ∨ (below ∈ copiesV (cview S' 0) (keysAt S' ⟨4, 0⟩) num ∧ below < n)) : seenB m below n = true := by
  obtain ⟨b1, b2⟩ := (ht.copies h hn n).1 hm
  have hpr := prev_mono (copies_inc h.live.inv.keys (cview S 0) 0 num) (L' := []) (by simp) (fun n hn' => by have := copies_pos h hn'; omega) n
  have hle : below ≤ prevL (copiesV (cview S 0) (keysAt S ⟨4, 0⟩) num) n := by
    rcases hb with rfl | ⟨q1, q2⟩
    · exact hpr.1
    · exact hpr.2 below ((ht.copies h hn below).1 q1).1 q2
  unfold seenB at b2 ⊢
  rw [List.any_eq_true] at b2 ⊢
  obtain ⟨x, hx, hx2⟩ := b2
  refine ⟨x, hx, ?_⟩
  simp only [Bool.and_eq_true, decide_eq_true_eq] at hx2 ⊢
  omega
/-- No object of another image. -/
def Only0 (S : Str) : Prop := ∀ k : K4, k.img ≠ 0 → get k S.seen = none
theorem Only0.done {S : Str} (h : Calm17 S) (ho : Only0 S) {a : A17} (ha : a.what = 5 ∨ Fine U17 0 a) : Only0 (oursS S 0 a).2 := fun k hk => by
  have h3 := (h.done (img := 0) ⟨by omega, by omega⟩ ha).2.2
  have := congrFun h3 k
  unfold viewOf at this
  rw [this, viewExec_other (ours_img _ _ _ _) k hk]
  exact ho k hk
theorem Only0.tidy1 {S : Str} (h : Calm17 S) (ho : Only0 S) (m : List Int) : tidyS S 1 m = (0, S) := by
  have hob : objB 1 0 = true := rfl
  have hk : keysTold S ⟨4, 1⟩ = [] := by
    unfold keysTold
    rw [if_pos h.live.on]
    refine List.eq_nil_iff_forall_not_mem.2 fun k hk => ?_
    obtain ⟨q1, q2⟩ := (h.live.inv.keys.mem _ _).1 hk
    simp only [K4.grp, G2.mk.injEq] at q1
    rw [ho k (by omega)] at q2
    cases q2
  unfold tidyS
  rw [hob, cmay_true h.live.on, if_neg (by simp), hk]
  rfl
end Go.Proofs.YtbepmbcbcklmlaaGreat
