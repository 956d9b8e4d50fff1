/- What is shown of a store, as plain data; a look at a map that may find nothing. No program in sight. -/
import Derived.Test.YtnokhjhhadnckaaInsertGrow
import Derived.Test.YtnokhjhhadnckaaThingSet
set_option linter.unusedSimpArgs false
set_option linter.unusedVariables false
set_option linter.unusedSectionVars false
namespace Go.Proofs.Ytnokhjhhadnckaa
open Go.RowKit
section
variable {P : Program} {k : TypeId} {K : Type} [DecidableEq K] {α : Type}
variable {T : KT P k K} {own : Value → α → HP} {W w w' : World} {I : Hp} {l : List HP} {b : Nat} {L L' : List (K × α)} {a : K} {x : α} {v : Value}
/-- A look that may find nothing: then the zero value, which owns x0 at any time. H: the rest of the map. -/
theorem St.look_or (h : St W I w (HP.mapOf T own b L :: l)) {t e : TypeId} (ht : P.underlying t = some (.map k e)) {z : Value} {x0 : α} (hz : ∀ w, (zeroValue e).run P w = .ok z w)
    (h0 : ∀ I w l, St W I w l → St W I w (own z x0 :: l)) (a : K) :
    ∃ v H, (∀ w2, Below w.heap.size w w2 → ∀ ok, (Instr.lookup t (.map (some b)) (T.kv a) ok).run P w2 = .ok (if ok then .tuple #[v, .bool (get a L).isSome] else v) w2) ∧ St W I w (own v ((get a L).getD x0) :: H :: l) ∧
      (∀ I' w' l', St W I' w' (own v ((get a L).getD x0) :: H :: l') → St W I' w' (HP.mapOf T own b L :: l')) ∧
      (∀ I' w' l' v' x', St W I' w' (own v' x' :: H :: l') → ∃ w'', (Instr.mapUpdate t (.map (some b)) (T.kv a) v').run P w' = .ok () w'' ∧ w''.heap.size = w'.heap.size ∧ St W I' w'' (HP.mapOf T own b (put a x' L) :: l')) := by
  have hn := h.mapOf_nodup
  rcases h.mapOf_look ht hz a with ⟨hg, hl⟩ | ⟨v, x, hg, hl, h1⟩
  · refine ⟨z, HP.mapOf T own b L, fun w2 hw ok => by rw [hl w2 hw ok, hg]; rfl, by rw [hg]; exact h0 _ _ _ h, fun I' w' l' h' => h'.drop, fun I' w' l' v' x' h' => h'.mapOf_put ht a⟩
  · have hp : ((a, x) :: del a L).Perm L := (perm_of_get hn hg).symm
    refine ⟨v, HP.hole T own b a v (del a L), fun w2 hw ok => by rw [hl w2 hw ok, hg]; rfl, by rw [hg]; exact h1, fun I' w' l' h' => ?_, fun I' w' l' v' x' h' => ?_⟩
    · rw [hg] at h'
      exact (h'.hole_back).mapOf_perm hp
    · exact h'.hole_put ht
/-- A store into a map: what the value owns stays in sight. -/
theorem St.mapOf_put_hole (h : St W I w (own v x :: HP.mapOf T own b L :: l)) {t e : TypeId} (ht : P.underlying t = some (.map k e)) (a : K) :
    ∃ w', (Instr.mapUpdate t (.map (some b)) (T.kv a) v).run P w = .ok () w' ∧ w'.heap.size = w.heap.size ∧ St W I w' (own v x :: HP.hole T own b a v (del a L) :: l) := by
  obtain ⟨M, hp, h⟩ := (h.perm (List.Perm.swap _ _ _)).mapOf_open
  obtain ⟨w', hrun, hsz, h⟩ := h.map_put ht a v
  refine ⟨w', hrun, hsz, ?_⟩
  have hM : put a v (M.map fst3) = (a, v) :: (M.filter fun m => decide (m.1 ≠ a)).map fst3 := by
    simp only [put, del, List.filter_map]
    rfl
  rw [hM] at h
  have hD : ((M.filter fun m => decide (m.1 ≠ a)).map dat3).Perm (del a L) := by
    have : del a (M.map dat3) = (M.filter fun m => decide (m.1 ≠ a)).map dat3 := by
      simp only [del, List.filter_map]
      rfl
    rw [← this]
    exact del_perm hp
  have hsplit : (M.map (own3 own)).Perm ((M.filter fun m => !decide (m.1 ≠ a)).map (own3 own) ++ (M.filter fun m => decide (m.1 ≠ a)).map (own3 own)) := by
    rw [← List.map_append]
    exact ((List.perm_append_comm.trans (List.filter_append_perm _ M)).symm).map _
  have h2 := h.perm (List.Perm.cons _ (hsplit.append_right (own v x :: l)))
  have h3 : St W I w' ((M.filter fun m => !decide (m.1 ≠ a)).map (own3 own) ++ (HP.map T b ((a, v) :: (M.filter fun m => decide (m.1 ≠ a)).map fst3) :: ((M.filter fun m => decide (m.1 ≠ a)).map (own3 own) ++ (own v x :: l)))) := h2.perm (by
    rw [List.append_assoc]
    exact List.perm_middle.symm)
  have h5 : St W I w' (HP.hole T own b a v (del a L) :: own v x :: l) := St.ex_shut (M.filter fun m => decide (m.1 ≠ a)) (St.all_shut (St.pure_shut (⟨hD, fun p hp' => by simpa using (List.mem_filter.1 hp').2⟩ : _ ∧ _) h3.drops))
  exact h5.perm (List.Perm.swap _ _ _)
end
def keysAt (S : Str) (g : G2) : List K4 := (get g S.keys).getD []
def remK (k : K4) (ks : List K4) : List K4 := ks.filter fun a => decide (a ≠ k)
def addK (k : K4) (ks : List K4) : List K4 := ks.filter (fun a => a.lt k) ++ k :: ks.filter (fun a => !a.lt k)
def showS (S : Str) (k : K4) (was : Int) (o : Option TS) : Str :=
  { S with
    seen := match o with
      | none => del k S.seen
      | some t => put k t S.seen
    keys := match o with
      | none => if k ∈ keysAt S k.grp then put k.grp (remK k (keysAt S k.grp)) S.keys else S.keys
      | some _ => if k ∈ keysAt S k.grp then S.keys else put k.grp (addK k (keysAt S k.grp)) S.keys
    used := IntKind.i64.wrap (S.used + (sizeO o - was)) }
theorem lt_irrefl' (a : K4) : a.lt a = false := by
  rw [Bool.eq_false_iff]
  intro h
  simp only [K4.lt, decide_eq_true_eq] at h
  omega
theorem place_mem {ks : List K4} {k : K4} {i : Nat} (hr : Rising ks) (h : Place ks k i) : ks[i]? = some k ↔ k ∈ ks := by
  constructor
  · exact List.mem_of_getElem?
  · intro hm
    obtain ⟨j, hj⟩ := List.getElem?_of_mem hm
    rcases Nat.lt_trichotomy j i with h1 | h1 | h1
    · have := h.below j k h1 hj
      rw [lt_irrefl'] at this; cases this
    · rw [← h1]; exact hj
    · have hil : i < ks.length := by have := (List.getElem?_eq_some_iff.1 hj).1; omega
      have h2 := rising_get hr (List.getElem?_eq_getElem hil) hj h1
      have h3 := h.above i _ (Nat.le_refl _) (List.getElem?_eq_getElem hil)
      rw [h2] at h3; cases h3
theorem place_take {ks : List K4} {k : K4} {i : Nat} (h : Place ks k i) : ks.take i = ks.filter (fun a => a.lt k) ∧ ks.drop i = ks.filter (fun a => !a.lt k) := by
  have h1 : ∀ a ∈ ks.take i, a.lt k = true := fun a ha => by
    obtain ⟨j, hj⟩ := List.getElem?_of_mem ha
    rw [List.getElem?_take] at hj
    split at hj
    · exact h.below j a ‹_› hj
    · cases hj
  have h2 : ∀ a ∈ ks.drop i, a.lt k = false := fun a ha => by
    obtain ⟨j, hj⟩ := List.getElem?_of_mem ha
    rw [List.getElem?_drop] at hj
    exact h.above _ a (by omega) hj
  have e : ks = ks.take i ++ ks.drop i := (List.take_append_drop i ks).symm
  constructor
  · conv => rhs; rw [e]
    rw [List.filter_append, List.filter_eq_self.2 h1, List.filter_eq_nil_iff.2 (fun a ha => by rw [h2 a ha]; decide), List.append_nil]
  · conv => rhs; rw [e]
    rw [List.filter_append, List.filter_eq_nil_iff.2 (fun a ha => by rw [h1 a ha]; decide), List.filter_eq_self.2 (fun a ha => by rw [h2 a ha]; rfl), List.nil_append]
theorem place_ins {ks : List K4} {k : K4} {i : Nat} (h : Place ks k i) : insK i k ks = addK k ks := by
  unfold insK addK
  rw [(place_take h).1, (place_take h).2]
theorem rising_nodup {ks : List K4} (hr : Rising ks) : ks.Nodup := hr.imp fun {a b} h e => by subst e; rw [lt_irrefl'] at h; cases h
theorem place_rem {ks : List K4} {k : K4} {i : Nat} (hr : Rising ks) (hi : ks[i]? = some k) : ks.eraseIdx i = remK k ks := by
  have hn := rising_nodup hr
  obtain ⟨hlt, hk⟩ := List.getElem?_eq_some_iff.1 hi
  have e : ks = ks.take i ++ k :: ks.drop (i + 1) := by
    rw [← hk, ← List.drop_eq_getElem_cons hlt, List.take_append_drop]
  have hn' : (ks.take i ++ k :: ks.drop (i + 1)).Nodup := e ▸ hn
  have h1 := List.nodup_append.1 hn'
  have h2 := List.nodup_cons.1 h1.2.1
  have e2 : ks.eraseIdx i = ks.take i ++ ks.drop (i + 1) := List.eraseIdx_eq_take_drop_succ ..
  rw [e2]
  unfold remK
  conv => rhs; rw [e]
  rw [List.filter_append, List.filter_eq_self.2 (fun a ha => by simpa using h1.2.2 a ha k (List.mem_cons_self ..)), List.filter_cons]
  simp only [ne_eq, not_true_eq_false, decide_false, Bool.false_eq_true, if_false]
  rw [List.filter_eq_self.2 (fun a ha => by simpa using fun q : a = k => h2.1 (q ▸ ha))]
end Go.Proofs.Ytnokhjhhadnckaa
