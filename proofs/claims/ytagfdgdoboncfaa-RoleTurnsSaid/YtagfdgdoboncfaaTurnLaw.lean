/- What grown chains are, and what turns make of them. No program in sight. -/
import Derived.Test.YtagfdgdoboncfaaGrowFns
import Derived.Test.YtagfdgdoboncfaaRoleFns
import Derived.Test.YtagfdgdoboncfaaAlikeFns
namespace Go.Proofs.Ytagfdgdoboncfaa
theorem okUpto_append (l r : List Tag) : ∀ k, k ≤ l.length → okUpto (l ++ r) k = okUpto l k
  | 0, _ => rfl
  | k + 1, h => by
    rw [okUpto, okUpto, okUpto_append l r k (by omega), List.getElem?_append_left (by omega), List.take_append_of_le_length (by omega)]
theorem okUpto_snoc (l : List Tag) (t : Tag) : okUpto (l ++ [t]) (l ++ [t]).length = (okUpto l l.length && tagOk t l) := by
  rw [List.length_append, List.length_singleton, okUpto, okUpto_append l [t] _ (Nat.le_refl _)]
  simp
theorem le_maxIds : ∀ (l : List Tag) (n : Int), n ≤ l.foldl (fun n t => max n t.id) n ∧ ∀ x ∈ l, x.id ≤ l.foldl (fun n t => max n t.id) n
  | [], n => ⟨Int.le_refl _, fun _ h => by cases h⟩
  | a :: l, n => by
    obtain ⟨h1, h2⟩ := le_maxIds l (max n a.id)
    simp only [List.foldl_cons]
    refine ⟨by omega, fun x hx => ?_⟩
    rcases List.mem_cons.1 hx with rfl | hx
    · omega
    · exact h2 x hx
theorem maxIds_nonneg (l : List Tag) : 0 ≤ maxIds l := (le_maxIds l 0).1
theorem noDup_of_gt {l : List Tag} {t : Tag} (h : maxIds l < t.id) : noDup t l = true := by
  rw [noDup, List.all_eq_true]
  intro x hx
  have := (le_maxIds l 0).2 x hx
  rw [bne_iff_ne]
  unfold maxIds at h
  omega
theorem nextId_bounds {l : List Tag} (h : highId l = false) (s : Int) : maxIds l < nextId l s ∧ nextId l s ≤ maxIds l + 2 ∧ (nextId l s % 2 = 1 ↔ s = 1) := by
  rw [nextId, h]
  simp only [Bool.false_eq_true, if_false, nextOdd]
  have h0 := maxIds_nonneg l
  by_cases h1 : (maxIds l + 1) % 2 = 1 <;> by_cases h2 : s = 1 <;> simp [h1, h2] <;> omega

structure Good (ts : List Tag) (at_ : Int) : Prop where
  ok : okUpto ts ts.length = true
  one : 1 ≤ ts.length
  at0 : 0 ≤ at_
  at1 : at_ ≤ 1000000
  last : lastAt ts ≤ at_
  high : highId ts = false
  ids : maxIds ts ≤ 2 * ts.length
theorem Good.start : Good [⟨1, 1, 0, 0⟩] 0 := ⟨by decide +kernel, Nat.le_refl _, by omega, by omega, by decide +kernel, by decide +kernel, by decide +kernel⟩
theorem Good.later {ts : List Tag} {a b : Int} (h : Good ts a) (hab : a ≤ b) (hb : b ≤ 1000000) : Good ts b :=
  ⟨h.ok, h.one, by have := h.at0; omega, hb, by have := h.last; omega, h.high, h.ids⟩
theorem Good.more {ts : List Tag} {a : Int} (h : Good ts a) (hl : ts.length ≤ 1000) {s own heir : Int} (ho : (own = 0 ∧ 1 ≤ heir ∧ heir ≤ 2) ∨ (1 ≤ own ∧ own ≤ 2 ∧ heir = 0)) :
    Good (ts ++ [⟨nextId ts s, own, heir, a⟩]) a := by
  obtain ⟨h1, h2, _⟩ := nextId_bounds h.high s
  have hi := h.ids
  have h0 := maxIds_nonneg ts
  have hone := h.one
  refine ⟨?_, by simp, h.at0, h.at1, by rw [lastAt_snoc]; exact Int.le_refl _, ?_, ?_⟩
  · rw [okUpto_snoc, h.ok, Bool.true_and, tagOk, noDup_of_gt (t := ⟨nextId ts s, own, heir, a⟩) h1, Bool.true_and, decide_eq_true]
    have := h.last; have := h.at1
    unfold fieldsOk
    show ¬ (ts.length = 0 ∧ a ≠ 0) ∧ ¬ a < lastAt ts ∧ a ≤ 1099511627776 ∧ 1 ≤ nextId ts s ∧ nextId ts s ≤ 1073741824 ∧ 0 ≤ own ∧ own ≤ 2 ∧ (0 < own → heir = 0) ∧ (¬ 0 < own → 1 ≤ heir ∧ heir ≤ 2)
    omega
  · rw [highId_snoc, h.high, Bool.false_or, decide_eq_false]
    show ¬ 1073741824 < nextId ts s
    omega
  · rw [maxIds_snoc, List.length_append, List.length_singleton]
    show max (maxIds ts) (nextId ts s) ≤ _
    omega
theorem Good.right {ts : List Tag} {a : Int} (h : Good ts a) (hl : ts.length ≤ 32) : rightB ts = true := by
  rw [rightB, h.ok, Bool.and_true, decide_eq_true ⟨h.one, hl⟩]
theorem Good.hist {ts : List Tag} {a b site : Int} (h : Good ts a) (hl : ts.length ≤ 32) (hs : 1 ≤ site ∧ site ≤ 2) (hab : a ≤ b) (hb : b ≤ 1000000) : histB site ts b = true := by
  have := h.at0; have := h.last
  rw [histB, h.right hl, decide_eq_true hs, decide_eq_true ⟨by omega, by omega, by omega⟩]; rfl
theorem Good.turn {ts : List Tag} {a : Int} (h : Good ts a) (hl : ts.length ≤ 31) (site own heir : Int) : turnTags site ts own heir a = (ts ++ [⟨nextId ts site, own, heir, a⟩], 0) := by
  obtain ⟨_, h2, _⟩ := nextId_bounds h.high site
  have := h.ids
  rw [turnTags, moreTags, if_neg]
  show ¬ (ts.length = 32 ∨ 1073741824 < nextId ts site)
  omega
theorem grow_good : ∀ (l : List Int) (s : List Tag × Int), Good s.1 s.2 → s.1.length ≤ 20 → s.2 + 3 * l.length ≤ 1000000 → Good (l.foldl growStep s).1 (l.foldl growStep s).2 ∧ (l.foldl growStep s).1.length ≤ 20
  | [], s, h, hl, _ => ⟨h, hl⟩
  | x :: l, s, h, hl, hb => by
    rw [List.foldl_cons]
    have hb' : s.2 + 3 * (l.length + 1 : Nat) ≤ 1000000 := by simpa using hb
    refine grow_good l _ ?_ ?_ ?_
    all_goals unfold growStep; split
    · exact h
    · have h3 : Good s.1 (s.2 + x % 4) := h.later (by omega) (by omega)
      split
      · exact h3
      · by_cases h16 : x / 16 % 2 = 0
        · rw [if_pos h16]
          exact h3.more (by omega) (.inr ⟨by omega, by omega, rfl⟩)
        · rw [if_neg h16]
          exact h3.more (by omega) (.inl ⟨rfl, by omega, by omega⟩)
    · exact hl
    · split
      · exact hl
      · simp; omega
    · omega
    · split <;> (simp; omega)
theorem grow_Good (l : List Int) (h : l.length ≤ 60) : Good (grow l).1 (grow l).2 ∧ (grow l).1.length ≤ 20 := grow_good l ([⟨1, 1, 0, 0⟩], 0) Good.start (by decide) (by show (0 : Int) + _ ≤ _; omega)

theorem lastIs_snoc (l : List Tag) (t : Tag) (p : Tag → Prop) [DecidablePred p] : lastIs (l ++ [t]) p = decide (p t) := by
  rw [lastIs, List.getLast?_concat]
theorem demote_of {ts : List Tag} {a site : Int} (h : Good ts a) (hl : ts.length ≤ 31) (hs : 1 ≤ site ∧ site ≤ 2) :
    demoteTags 1 site ts a = (ts ++ [⟨nextId ts site, 0, peerOf site, a⟩], 0) := by
  rw [demoteTags, if_neg (by rw [h.hist (by omega) hs (Int.le_refl _) h.at1]; simp), if_neg (by simp), h.turn hl]
theorem force_of {ts : List Tag} {a site phase : Int} (h : Good ts a) (hl : ts.length ≤ 31) (hs : 1 ≤ site ∧ site ≤ 2) (hp : phase = 3 ∨ phase = 5) :
    forceTags phase site ts a = (ts ++ [⟨nextId ts site, site, 0, a⟩], 0) := by
  rw [forceTags, if_neg (by rw [h.hist (by omega) hs (Int.le_refl _) h.at1]; simp), if_neg (by omega), if_neg (by omega), if_neg (by omega), h.turn hl]
theorem promote_of {ts : List Tag} {a site : Int} {x : Tag} (h : Good (ts ++ [x]) a) (hl : ts.length ≤ 30) (hs : 1 ≤ site ∧ site ≤ 2) (ho : x.own = 0) (hh : x.heir = site) (ha : x.at_ = a) :
    promoteTags 3 site (ts ++ [x]) a = ((ts ++ [x]) ++ [⟨nextId (ts ++ [x]) site, site, 0, a⟩], 0) := by
  have hlen : (ts ++ [x]).length = ts.length + 1 := by simp
  rw [promoteTags, if_neg (by rw [h.hist (by omega) hs (Int.le_refl _) h.at1]; simp), if_neg (by omega), if_neg (by omega), if_neg (by rw [lastIs_snoc]; simp [ho, hh, ha]), h.turn (by omega)]
theorem promote_no {ts : List Tag} {a b site : Int} {x : Tag} (h : Good (ts ++ [x]) a) (hl : ts.length ≤ 30) (hs : 1 ≤ site ∧ site ≤ 2) (hab : a ≤ b) (hb : b ≤ 1000000) (hn : ¬ (x.own = 0 ∧ x.heir = site ∧ x.at_ = b)) :
    promoteTags 3 site (ts ++ [x]) b = ([], 9) := by
  have hlen : (ts ++ [x]).length = ts.length + 1 := by simp
  rw [promoteTags, if_neg (by rw [h.hist (by omega) hs hab hb]; simp), if_neg (by omega), if_neg (by omega), if_pos (by rw [lastIs_snoc]; simp [hn])]
theorem isPhase_snoc (phase site : Int) (l : List Tag) (t : Tag) : isPhase phase site (l ++ [t]) = if phase = 2 then phase else if t.own = site then 1 else if phase = 1 then 3 else phase := by
  rw [isPhase, lastIs_snoc]; simp
theorem same_self (x : Tag) : x.same x = true := by simp [Tag.same]
theorem alike_prefix : ∀ (l r : List Tag), alikeN l (l ++ r) = l.length
  | [], r => by simp [alikeN]
  | a :: l, r => by simp [alikeN, same_self, alike_prefix l r]
theorem alike_split : ∀ (l : List Tag) (x y : Tag), x.same y = false → alikeN (l ++ [x]) (l ++ [y]) = l.length
  | [], x, y, h => by simp [alikeN, h]
  | a :: l, x, y, h => by simp [alikeN, same_self, alike_split l x y h]
theorem begins_prefix {l : List Tag} {t : Tag} {a b : Int} (h : a ≤ t.at_) : beginsB l a (l ++ [t]) b = true := by
  rw [beginsB, alike_prefix, if_neg (by omega), atOf_some (t := t) (by simp)]
  simpa using h
theorem ofN_snoc {l : List Tag} {t : Tag} {seq : Int} (h : t.at_ < seq) : ofN (l ++ [t]) seq = t.id := by
  rw [ofN, List.length_append, List.length_singleton, ofUpto]
  simp [h]

theorem get_snoc (l : List Tag) (t : Tag) : (l ++ [t])[l.length]? = some t := by simp
/-- All that the law on turns asks. -/
theorem turns_facts {ts : List Tag} {a site x : Int} (h : Good ts a) (hl : ts.length ≤ 20) (hs : 1 ≤ site ∧ site ≤ 2) (ha : a ≤ 180) (hx : 0 ≤ x ∧ x ≤ 65535) :
    ∃ TA TB TC : List Tag, demoteTags 1 site ts a = (TA, 0) ∧ isPhase 1 site TA = 3 ∧ isPhase 3 (peerOf site) TA = 3 ∧
      promoteTags 3 (peerOf site) TA a = (TB, 0) ∧ promoteTags 3 site TA a = ([], 9) ∧ promoteTags 3 (peerOf site) TA (a + 1 + x) = ([], 9) ∧
      isPhase 3 (peerOf site) TB = 1 ∧ isPhase 1 site TB = 3 ∧
      promoteTags 3 (peerOf site) TB a = ([], 9) ∧ promoteTags 3 site TB a = ([], 9) ∧ forceTags 3 site TB a = (TC, 0) ∧ rightB TC = true ∧
      beginsB ts a TA a = true ∧ beginsB TA a TB a = true ∧ beginsB TB a TC a = true ∧ isPhase 5 site TC = 1 ∧ isPhase 2 site TC = 2 := by
  have hp : 1 ≤ peerOf site ∧ peerOf site ≤ 2 := by unfold peerOf; split <;> omega
  have hne : peerOf site ≠ site := by unfold peerOf; split <;> omega
  have g1 : Good (ts ++ [⟨nextId ts site, 0, peerOf site, a⟩]) a := h.more (by omega) (.inl ⟨rfl, hp⟩)
  have l1 : (ts ++ [(⟨nextId ts site, 0, peerOf site, a⟩ : Tag)]).length = ts.length + 1 := by simp
  obtain ⟨TA, hTA⟩ : ∃ T, ts ++ [(⟨nextId ts site, 0, peerOf site, a⟩ : Tag)] = T := ⟨_, rfl⟩
  have g2 : Good (TA ++ [⟨nextId TA (peerOf site), peerOf site, 0, a⟩]) a := by
    rw [hTA] at g1 l1
    exact g1.more (by omega) (.inr ⟨hp.1, hp.2, rfl⟩)
  have l2 : (TA ++ [(⟨nextId TA (peerOf site), peerOf site, 0, a⟩ : Tag)]).length = ts.length + 2 := by rw [← hTA]; simp
  obtain ⟨TB, hTB⟩ : ∃ T, TA ++ [(⟨nextId TA (peerOf site), peerOf site, 0, a⟩ : Tag)] = T := ⟨_, rfl⟩
  have g3 : Good (TB ++ [⟨nextId TB site, site, 0, a⟩]) a := by
    rw [hTB] at g2 l2
    exact g2.more (by omega) (.inr ⟨hs.1, hs.2, rfl⟩)
  have l3 : (TB ++ [(⟨nextId TB site, site, 0, a⟩ : Tag)]).length = ts.length + 3 := by rw [List.length_append, ← hTB, l2]; rfl
  refine ⟨TA, TB, TB ++ [⟨nextId TB site, site, 0, a⟩], ?_, ?_, ?_, ?_, ?_, ?_, ?_, ?_, ?_, ?_, ?_, ?_, ?_, ?_, ?_, ?_, ?_⟩
  · rw [demote_of h (by omega) hs, hTA]
  · rw [← hTA, isPhase_snoc]
    show (if (1 : Int) = 2 then (1 : Int) else if (0 : Int) = site then 1 else if (1 : Int) = 1 then 3 else 1) = 3
    rw [if_neg (by omega), if_neg (by omega), if_pos rfl]
  · rw [← hTA, isPhase_snoc]
    show (if (3 : Int) = 2 then (3 : Int) else if (0 : Int) = peerOf site then 1 else if (3 : Int) = 1 then 3 else 3) = 3
    rw [if_neg (by omega), if_neg (by omega), if_neg (by omega)]
  · rw [← hTB, ← hTA]
    exact promote_of g1 (by omega) hp rfl rfl rfl
  · rw [← hTA]
    exact promote_no g1 (by omega) hs (Int.le_refl _) g1.at1 (fun hh => hne hh.2.1)
  · rw [← hTA]
    exact promote_no g1 (by omega) hp (by omega) (by omega) (fun hh => by have := hh.2.2; simp at this; omega)
  · rw [← hTB, isPhase_snoc]; simp
  · rw [← hTB, isPhase_snoc]; simp [hne]
  · rw [← hTB]
    have : TA.length = ts.length + 1 := by rw [← hTA, l1]
    exact promote_no g2 (by omega) hp (Int.le_refl _) g2.at1 (fun hh => by have := hh.1; simp at this; omega)
  · rw [← hTB]
    have : TA.length = ts.length + 1 := by rw [← hTA, l1]
    exact promote_no g2 (by omega) hs (Int.le_refl _) g2.at1 (fun hh => by have := hh.1; simp at this; omega)
  · rw [hTB] at g2 l2
    exact force_of g2 (by omega) hs (.inl rfl)
  · exact g3.right (by omega)
  · rw [← hTA]; exact begins_prefix (Int.le_refl _)
  · rw [← hTB]; exact begins_prefix (Int.le_refl _)
  · exact begins_prefix (Int.le_refl _)
  · rw [isPhase_snoc]; simp
  · rw [isPhase_snoc]; simp

/-- All that the law on a forced promotion asks. -/
theorem forced_facts {ts : List Tag} {a x y : Int} (h : Good ts a) (hl : ts.length ≤ 20) (hx : 0 ≤ x ∧ x ≤ 15) (hy : 0 ≤ y ∧ y ≤ 15) :
    ∃ TA TB : List Tag, ∃ i j : Int, forceTags 3 1 ts a = (TA, 0) ∧ forceTags 5 2 ts a = (TB, 0) ∧
      compareN TA (a + 1 + x) TB (a + 1 + y) = 2 ∧ forkN TA (a + 1 + x) TB (a + 1 + y) = a ∧ ofN TA (a + 1 + x) = i ∧ ofN TB (a + 1 + y) = j ∧ (i != j) = true ∧ 0 < i := by
  obtain ⟨i1, i2, i3⟩ := nextId_bounds h.high 1
  obtain ⟨j1, j2, j3⟩ := nextId_bounds h.high 2
  have h0 := maxIds_nonneg ts
  have ha := h.at0
  have hne : nextId ts 1 ≠ nextId ts 2 := by
    intro e
    have : nextId ts 1 % 2 = 1 := i3.2 rfl
    rw [e] at this
    have := j3.1 this
    omega
  have hs : (⟨nextId ts 1, 1, 0, a⟩ : Tag).same ⟨nextId ts 2, 2, 0, a⟩ = false := by simp [Tag.same]
  have hs' : (⟨nextId ts 2, 2, 0, a⟩ : Tag).same ⟨nextId ts 1, 1, 0, a⟩ = false := by simp [Tag.same]
  have k1 := alike_split ts _ _ hs
  have k2 := alike_split ts _ _ hs'
  have b1 : beginsB (ts ++ [⟨nextId ts 1, 1, 0, a⟩]) (a + 1 + x) (ts ++ [⟨nextId ts 2, 2, 0, a⟩]) (a + 1 + y) = false := by
    rw [beginsB, k1, if_pos (by simp)]
  have b2 : beginsB (ts ++ [⟨nextId ts 2, 2, 0, a⟩]) (a + 1 + y) (ts ++ [⟨nextId ts 1, 1, 0, a⟩]) (a + 1 + x) = false := by
    rw [beginsB, k2, if_pos (by simp)]
  refine ⟨_, _, nextId ts 1, nextId ts 2, force_of h (by omega) (by omega) (.inl rfl), force_of h (by omega) (by omega) (.inr rfl), ?_, ?_, ?_, ?_, ?_, ?_⟩
  · rw [compareN, b1, b2]; rfl
  · rw [forkN_low, k1, lowAt_some (get_snoc ts ⟨nextId ts 1, 1, 0, a⟩), lowAt_some (get_snoc ts ⟨nextId ts 2, 2, 0, a⟩)]
    show max (min (min (min (a + 1 + x) (a + 1 + y)) a) a) 0 = a
    omega
  · exact ofN_snoc (by show a < _; omega)
  · exact ofN_snoc (by show a < _; omega)
  · rw [bne_iff_ne]; exact hne
  · omega
end Go.Proofs.Ytagfdgdoboncfaa
