/- A map whose values own memory of their own. No program in sight. -/
import Derived.Test.YtnokhjhhadnckaaMaps
set_option linter.unusedSimpArgs false
set_option linter.unusedVariables false
set_option linter.unusedSectionVars false
namespace Go.Proofs.Ytnokhjhhadnckaa
open Go.RowKit
section
variable {P : Program} {k : TypeId} {K : Type} [DecidableEq K] {α : Type}
def fst3 (m : K × Value × α) : K × Value := (m.1, m.2.1)
def dat3 (m : K × Value × α) : K × α := (m.1, m.2.2)
def own3 (own : Value → α → HP) (m : K × Value × α) : HP := own m.2.1 m.2.2
/-- What is in the map, and what each value owns. -/
def HP.mapOf (T : KT P k K) (own : Value → α → HP) (b : Nat) (L : List (K × α)) : HP :=
  HP.ex fun M : List (K × Value × α) => HP.all (HP.pure ((M.map dat3).Perm L) :: HP.map T b (M.map fst3) :: M.map (own3 own))
/-- The same, but what the value v at key a owns is taken out. L: what is at the other keys. -/
def HP.hole (T : KT P k K) (own : Value → α → HP) (b : Nat) (a : K) (v : Value) (L : List (K × α)) : HP :=
  HP.ex fun M : List (K × Value × α) => HP.all (HP.pure ((M.map dat3).Perm L ∧ ∀ p ∈ L, p.1 ≠ a) :: HP.map T b ((a, v) :: M.map fst3) :: M.map (own3 own))
variable {T : KT P k K} {own : Value → α → HP} {W w w' : World} {I : Hp} {l : List HP} {b : Nat} {L L' : List (K × α)} {a : K} {x : α} {v : Value}

theorem fst3_keys {K α : Type} (M : List (K × Value × α)) : (M.map fst3).map (·.1) = (M.map dat3).map (·.1) := by
  simp only [List.map_map]; congr 1
theorem St.mapOf_open (h : St W I w (HP.mapOf T own b L :: l)) : ∃ M : List (K × Value × α), (M.map dat3).Perm L ∧ St W I w (HP.map T b (M.map fst3) :: (M.map (own3 own) ++ l)) := by
  obtain ⟨M, h⟩ := h.ex_open
  obtain ⟨hp, h⟩ := (St.all_open h).pure_open
  exact ⟨M, hp, h⟩
theorem St.mapOf_shut {M : List (K × Value × α)} (h : St W I w (HP.map T b (M.map fst3) :: (M.map (own3 own) ++ l))) (hp : (M.map dat3).Perm L) : St W I w (HP.mapOf T own b L :: l) :=
  St.ex_shut M (St.all_shut (h.pure_shut hp))
theorem St.mapOf_perm (h : St W I w (HP.mapOf T own b L :: l)) (p : L.Perm L') : St W I w (HP.mapOf T own b L' :: l) := by
  obtain ⟨M, hp, h⟩ := h.mapOf_open
  exact h.mapOf_shut (hp.trans p)
theorem St.mapOf_made (h : St W I w (HP.pt b (.map #[] 0) :: l)) : St W I w (HP.mapOf T own b [] :: l) :=
  St.mapOf_shut (M := []) h.map_made (List.Perm.refl _)
theorem St.mapOf_nodup (h : St W I w (HP.mapOf T own b L :: l)) : (L.map (·.1)).Nodup := by
  obtain ⟨M, hp, h⟩ := h.mapOf_open
  have := h.map_nodup
  rw [fst3_keys] at this
  exact nodup_perm this hp
theorem get_fst3 (a : K) : ∀ M : List (K × Value × α), (get a (M.map fst3) = none ∧ get a (M.map dat3) = none) ∨ ∃ v x, (a, v, x) ∈ M ∧ get a (M.map fst3) = some v ∧ get a (M.map dat3) = some x
  | [] => .inl ⟨rfl, rfl⟩
  | (c, u, y) :: M => by
    by_cases e : a = c
    · subst e
      exact .inr ⟨u, y, by simp, by simp [fst3, get], by simp [dat3, get]⟩
    · rcases get_fst3 a M with ⟨h1, h2⟩ | ⟨v, x, h1, h2, h3⟩
      · exact .inl ⟨by simpa [fst3, get, e] using h1, by simpa [dat3, get, e] using h2⟩
      · exact .inr ⟨v, x, by simp [h1], by simpa [fst3, get, e] using h2, by simpa [dat3, get, e] using h3⟩
/-- A look at a key: nothing there, or a value, and what it owns by itself. -/
theorem St.mapOf_look (h : St W I w (HP.mapOf T own b L :: l)) {t e : TypeId} (ht : P.underlying t = some (.map k e)) {z : Value} (hz : ∀ w, (zeroValue e).run P w = .ok z w) (a : K) :
    (get a L = none ∧ ∀ w2, Below w.heap.size w w2 → ∀ ok, (Instr.lookup t (.map (some b)) (T.kv a) ok).run P w2 = .ok (if ok then .tuple #[z, .bool false] else z) w2) ∨
    ∃ v x, get a L = some x ∧ (∀ w2, Below w.heap.size w w2 → ∀ ok, (Instr.lookup t (.map (some b)) (T.kv a) ok).run P w2 = .ok (if ok then .tuple #[v, .bool true] else v) w2) ∧ St W I w (own v x :: HP.hole T own b a v (del a L) :: l) := by
  obtain ⟨M, hp, h⟩ := h.mapOf_open
  have hn := h.map_nodup
  have hn2 := hn
  rw [fst3_keys] at hn2
  have hlook := fun w2 (hw : Below w.heap.size w w2) ok => h.map_look ht hz a ok hw
  rcases get_fst3 a M with ⟨h1, h2⟩ | ⟨v, x, h1, h2, h3⟩
  · left
    rw [get_perm hn2 hp] at h2
    exact ⟨h2, fun w2 hw ok => by rw [hlook w2 hw ok, h1]; rfl⟩
  · right
    have hg : get a L = some x := by rw [← get_perm hn2 hp]; exact h3
    refine ⟨v, x, hg, fun w2 hw ok => by rw [hlook w2 hw ok, h2]; rfl, ?_⟩
    obtain ⟨i, hi⟩ := List.getElem?_of_mem h1
    have pM : M.Perm ((a, v, x) :: M.eraseIdx i) := pull_perm _ _ _ hi
    have hnM : (((a, v, x) :: M.eraseIdx i).map dat3 |>.map (·.1)).Nodup := nodup_perm hn2 (pM.map _)
    have hd : ((M.eraseIdx i).map dat3).Perm (del a L) := by
      have e1 : (del a (((a, v, x) :: M.eraseIdx i).map dat3)).Perm (del a L) := del_perm ((pM.map _).symm.trans hp)
      have e2 : del a (((a, v, x) :: M.eraseIdx i).map dat3) = (M.eraseIdx i).map dat3 := by
        unfold del
        simp only [List.map_cons, dat3, List.filter_cons, ne_eq, not_true_eq_false, decide_false, Bool.false_eq_true, if_false]
        exact del_of_none (get_none.2 fun p hp' e => (List.nodup_cons.1 hnM).1 (List.mem_map.2 ⟨p, hp', e⟩))
      rwa [e2] at e1
    have h' := h.map_perm (pM.map fst3)
    have h2' : St W I w (HP.map T b (((a, v, x) :: M.eraseIdx i).map fst3) :: (((a, v, x) :: M.eraseIdx i).map (own3 own) ++ l)) := h'.perm (((pM.map (own3 own)).append_right l).cons _)
    have h3' : St W I w (own v x :: HP.map T b ((a, v) :: (M.eraseIdx i).map fst3) :: ((M.eraseIdx i).map (own3 own) ++ l)) := h2'.perm (List.Perm.swap _ _ _)
    have h4 : St W I w ((HP.map T b ((a, v) :: (M.eraseIdx i).map fst3) :: (M.eraseIdx i).map (own3 own)) ++ (own v x :: l)) := h3'.perm (by
      simp only [List.cons_append]
      exact (List.Perm.swap _ _ _).trans (List.Perm.cons _ (List.perm_middle.symm)))
    have h5 : St W I w (HP.hole T own b a v (del a L) :: own v x :: l) := St.ex_shut (M.eraseIdx i) (St.all_shut (St.pure_shut (⟨hd, fun p hp' => by simpa using (List.mem_filter.1 hp').2⟩ : _ ∧ _) h4))
    exact h5.perm (List.Perm.swap _ _ _)
theorem St.hole_open (h : St W I w (HP.hole T own b a v L :: l)) : ∃ M : List (K × Value × α), (M.map dat3).Perm L ∧ (∀ p ∈ L, p.1 ≠ a) ∧ St W I w (HP.map T b ((a, v) :: M.map fst3) :: (M.map (own3 own) ++ l)) := by
  obtain ⟨M, h⟩ := h.ex_open
  obtain ⟨hp, h⟩ := (St.all_open h).pure_open
  exact ⟨M, hp.1, hp.2, h⟩
theorem del_of_ne {V : Type} {L : List (K × V)} (h : ∀ p ∈ L, p.1 ≠ a) : del a L = L := del_of_none (get_none.2 h)
/-- Put back: the value is the same, what it owns may have turned. -/
theorem St.hole_back (h : St W I w (own v x :: HP.hole T own b a v L :: l)) : St W I w (HP.mapOf T own b ((a, x) :: L) :: l) := by
  obtain ⟨M, hp, _, h⟩ := (h.perm (List.Perm.swap _ _ _)).hole_open
  refine St.mapOf_shut (M := (a, v, x) :: M) (h.perm ?_) (hp.cons _)
  refine List.Perm.cons _ ?_
  simp only [List.map_cons, List.cons_append]
  exact List.perm_middle
/-- A store: another value, which owns x. -/
theorem St.mapOf_put (h : St W I w (own v x :: HP.mapOf T own b L :: l)) {t e : TypeId} (ht : P.underlying t = some (.map k e)) (a : K) :
    ∃ w', (Instr.mapUpdate t (.map (some b)) (T.kv a) v).run P w = .ok () w' ∧ w'.heap.size = w.heap.size ∧ St W I w' (HP.mapOf T own b (put a x L) :: l) := by
  obtain ⟨M, hp, h⟩ := (h.perm (List.Perm.swap _ _ _)).mapOf_open
  have hn := h.map_nodup
  obtain ⟨w', hrun, hsz, h⟩ := h.map_put ht a v
  refine ⟨w', hrun, hsz, ?_⟩
  have hM : put a v (M.map fst3) = ((a, v, x) :: M.filter fun m => decide (m.1 ≠ a)).map fst3 := by
    simp only [put, del, List.map_cons, List.filter_map]
    rfl
  rw [hM] at h
  have hD : (((a, v, x) :: M.filter fun m => decide (m.1 ≠ a)).map dat3).Perm (put a x L) := by
    have : put a x (M.map dat3) = ((a, v, x) :: M.filter fun m => decide (m.1 ≠ a)).map dat3 := by
      simp only [put, del, List.map_cons, List.filter_map]
      rfl
    rw [← this]
    exact put_perm hp
  refine St.mapOf_shut (M := (a, v, x) :: M.filter fun m => decide (m.1 ≠ a)) ?_ hD
  -- what the old value owned is let go
  have hsplit : (M.map (own3 own)).Perm ((M.filter fun m => !decide (m.1 ≠ a)).map (own3 own) ++ (M.filter fun m => decide (m.1 ≠ a)).map (own3 own)) := by
    rw [← List.map_append]
    exact ((List.perm_append_comm.trans (List.filter_append_perm _ M)).symm).map _
  have h2 := h.perm (List.Perm.cons _ (hsplit.append_right (own v x :: l)))
  have h3 : St W I w' ((M.filter fun m => !decide (m.1 ≠ a)).map (own3 own) ++ (HP.map T b (((a, v, x) :: M.filter fun m => decide (m.1 ≠ a)).map fst3) :: ((M.filter fun m => decide (m.1 ≠ a)).map (own3 own) ++ (own v x :: l)))) := h2.perm (by
    rw [List.append_assoc]
    exact List.perm_middle.symm)
  exact h3.drops.perm (List.Perm.cons _ (by simp only [List.map_cons, List.cons_append]; exact List.perm_middle))
theorem St.hole_put {u : Value} (h : St W I w (own v x :: HP.hole T own b a u L :: l)) {t e : TypeId} (ht : P.underlying t = some (.map k e)) :
    ∃ w', (Instr.mapUpdate t (.map (some b)) (T.kv a) v).run P w = .ok () w' ∧ w'.heap.size = w.heap.size ∧ St W I w' (HP.mapOf T own b ((a, x) :: L) :: l) := by
  obtain ⟨M, hp, hne, h⟩ := (h.perm (List.Perm.swap _ _ _)).hole_open
  have hn := h.map_nodup
  obtain ⟨w', hrun, hsz, h⟩ := h.map_put ht a v
  refine ⟨w', hrun, hsz, ?_⟩
  have hdel : del a ((a, u) :: M.map fst3) = M.map fst3 := by
    unfold del
    simp only [List.filter_cons, ne_eq, not_true_eq_false, decide_false, Bool.false_eq_true, if_false]
    exact del_of_none (get_none.2 fun p hp' e => (List.nodup_cons.1 hn).1 (List.mem_map.2 ⟨p, hp', e⟩))
  unfold put at h
  rw [hdel] at h
  refine St.mapOf_shut (M := (a, v, x) :: M) (h.perm ?_) (hp.cons _)
  refine List.Perm.cons _ ?_
  simp only [List.map_cons, List.cons_append]
  exact List.perm_middle
theorem St.mapOf_del (h : St W I w (HP.mapOf T own b L :: l)) {t e ty : TypeId} (ht : P.underlying t = some (.map k e)) (a : K) :
    ∃ w', (Builtin.delete_ #[t, k] ty #[.map (some b), T.kv a]).run P w = .ok (.tuple #[]) w' ∧ w'.heap.size = w.heap.size ∧ St W I w' (HP.mapOf T own b (del a L) :: l) := by
  obtain ⟨M, hp, h⟩ := h.mapOf_open
  obtain ⟨w', hrun, hsz, h⟩ := h.map_del (ty := ty) ht a
  refine ⟨w', hrun, hsz, ?_⟩
  have hM : del a (M.map fst3) = (M.filter fun m => decide (m.1 ≠ a)).map fst3 := by
    simp only [del, List.filter_map]
    rfl
  rw [hM] at h
  have hD : ((M.filter fun m => decide (m.1 ≠ a)).map dat3).Perm (del a L) := by
    have : del a (M.map dat3) = (M.filter fun m => decide (m.1 ≠ a)).map dat3 := by
      simp only [del, List.filter_map]
      rfl
    rw [← this]
    exact del_perm hp
  refine St.mapOf_shut (M := M.filter fun m => decide (m.1 ≠ a)) ?_ hD
  have hsplit : (M.map (own3 own)).Perm ((M.filter fun m => !decide (m.1 ≠ a)).map (own3 own) ++ (M.filter fun m => decide (m.1 ≠ a)).map (own3 own)) := by
    rw [← List.map_append]
    exact ((List.perm_append_comm.trans (List.filter_append_perm _ M)).symm).map _
  have h2 := h.perm (List.Perm.cons _ (hsplit.append_right l))
  have h3 : St W I w' ((M.filter fun m => !decide (m.1 ≠ a)).map (own3 own) ++ (HP.map T b ((M.filter fun m => decide (m.1 ≠ a)).map fst3) :: ((M.filter fun m => decide (m.1 ≠ a)).map (own3 own) ++ l))) := h2.perm (by
    rw [List.append_assoc]
    exact List.perm_middle.symm)
  exact h3.drops
/-- The hole's key struck out. -/
theorem St.hole_del (h : St W I w (HP.hole T own b a v L :: l)) {t e ty : TypeId} (ht : P.underlying t = some (.map k e)) :
    ∃ w', (Builtin.delete_ #[t, k] ty #[.map (some b), T.kv a]).run P w = .ok (.tuple #[]) w' ∧ w'.heap.size = w.heap.size ∧ St W I w' (HP.mapOf T own b L :: l) := by
  obtain ⟨M, hp, hne, h⟩ := h.hole_open
  have hn := h.map_nodup
  obtain ⟨w', hrun, hsz, h⟩ := h.map_del (ty := ty) ht a
  refine ⟨w', hrun, hsz, ?_⟩
  have hdel : del a ((a, v) :: M.map fst3) = M.map fst3 := by
    unfold del
    simp only [List.filter_cons, ne_eq, not_true_eq_false, decide_false, Bool.false_eq_true, if_false]
    exact del_of_none (get_none.2 fun p hp' e => (List.nodup_cons.1 hn).1 (List.mem_map.2 ⟨p, hp', e⟩))
  rw [hdel] at h
  exact h.mapOf_shut hp
theorem St.iter_perm {r : Nat} {L left left' : List (K × Value)} (h : St W I w (HP.iter T b r L left :: l)) (p : left.Perm left') : St W I w (HP.iter T b r L left' :: l) :=
  h.imp fun _ ⟨h1, h2, d', a', b', ⟨es, clock, L', since, seen, c0, q1, q2, q3, q4, q5, q6, q7, q8, l1, q9, q10⟩, s⟩ => ⟨h1, h2, d', a', b', ⟨es, clock, L', since, seen, c0, q1, q2, q3, q4, q5, q6, q7, q8, l1, q9, q10.trans p⟩, s⟩
theorem St.iter_left {r : Nat} {L left : List (K × Value)} (h : St W I w (HP.iter T b r L left :: l)) : w.rangeLeft b r = left.length := by
  obtain ⟨k, a, _, h1, h2, _, a', _, ⟨es, clock, L', since, seen, c0, q1, q2, q3, q4, q5, q6, q7, q8, l1, q9, q10⟩, _⟩ := h.own
  have e1 : w.heap[b]? = some (.map es clock) := a _ _ (a' _ _ q1)
  have e2 : w.heap[r]? = some (.mapIter (some b) since seen c0) := a _ _ (a' _ _ q4)
  simp only [World.rangeLeft, e1, e2]
  have h3 := congrArg List.length q9
  simp only [List.length_map, Array.length_toList] at h3
  rw [h3, q10.length_eq]
/-- A step of a range, in triples. -/
theorem St.nextM {r : Nat} {M lm : List (K × Value × α)} (h : St W I w (HP.iter T b r (M.map fst3) (lm.map fst3) :: l)) (ty : TypeId) :
    (lm = [] ∧ (Instr.next (.pointer (some ⟨r, 0, none⟩)) false ty).run P w = .ok (.tuple #[.bool false]) w) ∨
    ∃ a v x lm' w', lm.Perm ((a, v, x) :: lm') ∧ (Instr.next (.pointer (some ⟨r, 0, none⟩)) false ty).run P w = .ok (.tuple #[.bool true, T.kv a, v]) w' ∧ w'.heap.size = w.heap.size ∧
      (Instr.entry (.pointer (some ⟨r, 0, none⟩))).run P w' = .ok (.tuple #[T.kv a, v]) w' ∧ St W I w' (HP.iter T b r (M.map fst3) (lm'.map fst3) :: l) := by
  rcases h.next ty with ⟨h0, hr⟩ | ⟨a, v, left', w', hp, _, hr, hs, he, h'⟩
  · exact .inl ⟨by simpa using h0, hr⟩
  · right
    have hm : (a, v) ∈ lm.map fst3 := hp.mem_iff.2 (by simp)
    obtain ⟨m, hm1, hm2⟩ := List.mem_map.1 hm
    obtain ⟨a', v', x⟩ := m
    simp only [fst3, Prod.mk.injEq] at hm2
    obtain ⟨rfl, rfl⟩ := hm2
    obtain ⟨i, hi⟩ := List.getElem?_of_mem hm1
    have pM : lm.Perm ((a', v', x) :: lm.eraseIdx i) := pull_perm _ _ _ hi
    have h2 : left'.Perm ((lm.eraseIdx i).map fst3) := ((hp.symm.trans (pM.map fst3))).cons_inv
    exact ⟨a', v', x, lm.eraseIdx i, w', pM, hr, hs, he, h'.iter_perm h2⟩
end
end Go.Proofs.Ytnokhjhhadnckaa
