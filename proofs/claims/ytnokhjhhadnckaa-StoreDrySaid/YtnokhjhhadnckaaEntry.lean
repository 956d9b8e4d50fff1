/- m[k] op= ..: an entry that is taken ahead of what is stored. No program in sight. -/
import Derived.Test.YtnokhjhhadnckaaMapOf
import Derived.WideKeyEntry
set_option linter.unusedSimpArgs false
set_option linter.unusedVariables false
set_option linter.unusedSectionVars false
namespace Go.Proofs.Ytnokhjhhadnckaa
open Go.RowKit Go.MapKept Go.ChangeMaps
section
variable {P : Program} {k : TypeId} {K α : Type} [DecidableEq K] (T : KT P k K)
/-- A map whose key a has the stamp st. -/
def HP.ent (b : Nat) (a : K) (st : Nat) (L : List (K × Value)) : HP :=
  ⟨fun _ h => ∃ es clock L', h b = some (.map es clock) ∧ Lies T es clock L' ∧ L'.Perm L ∧ ∃ j v e, at_ a L' 0 = some (j, v) ∧ L'[j]? = some (a, v) ∧ es[j]? = some e ∧ e.born = st, fun _ q => q⟩
/-- A map whose key a has the stamp st; what v at it owns is taken out. -/
def HP.held (own : Value → α → HP) (b : Nat) (a : K) (v : Value) (st : Nat) (L : List (K × α)) : HP :=
  HP.ex fun M : List (K × Value × α) => HP.all (HP.pure ((M.map dat3).Perm L ∧ ∀ p ∈ L, p.1 ≠ a) :: HP.ent T b a st ((a, v) :: M.map fst3) :: M.map (own3 own))
variable {T} {own : Value → α → HP} {W w w' : World} {I : Hp} {l : List HP} {b : Nat} {a : K} {x : α} {v : Value} {st : Nat}
theorem St.ent_open {L : List (K × Value)} (h : St W I w (HP.ent T b a st L :: l)) : ∃ es clock L', Lies T es clock L' ∧ L'.Perm L ∧ St W I w (HP.pt b (.map es clock) :: l) ∧ ∃ j v e, at_ a L' 0 = some (j, v) ∧ L'[j]? = some (a, v) ∧ es[j]? = some e ∧ e.born = st := by
  obtain ⟨k, a, d, h1, h2, d', a', b', ⟨es, clock, L', p, q, r, t⟩, s⟩ := h.own
  exact ⟨es, clock, L', q, r, ⟨h.os, h.tape, h.output, h.base, h.imm, k, a, d, h1, h2, d', a', b', p, s⟩, t⟩
theorem St.ent_shut {L L' : List (K × Value)} {es : Array MapEntry} {clock j : Nat} {e : MapEntry} (h : St W I w (HP.pt b (.map es clock) :: l)) (q : Lies T es clock L') (r : L'.Perm L) (h1 : at_ a L' 0 = some (j, v)) (h2 : L'[j]? = some (a, v)) (h3 : es[j]? = some e) (h4 : e.born = st) : St W I w (HP.ent T b a st L :: l) :=
  h.imp fun _ ⟨h1', h2', d', a', b', p, s⟩ => ⟨h1', h2', d', a', b', ⟨es, clock, L', p, q, r, j, v, e, h1, h2, h3, h4⟩, s⟩
theorem St.ent_map {L : List (K × Value)} (h : St W I w (HP.ent T b a st L :: l)) : St W I w (HP.map T b L :: l) := by
  obtain ⟨es, clock, L', q, r, s, _⟩ := h.ent_open
  exact s.map_shut q r
theorem same_key {L : List (K × Value)} {es : Array MapEntry} {clock j : Nat} {e : MapEntry} (q : Lies T es clock L) (he : es[j]? = some e) (hk : e.key = T.kv a) : get a L ≠ none := by
  intro hg
  have h1 := congrArg (·[j]?) q.1
  have he' : es.toList[j]? = some e := by simpa using he
  simp only [List.getElem?_map, he', Option.map_some] at h1
  cases hl : L[j]? with
  | none => rw [hl] at h1; cases h1
  | some x =>
    rw [hl] at h1
    simp only [Option.map_some, Option.some.injEq, Prod.mk.injEq] at h1
    exact get_none.1 hg x (List.mem_of_getElem? hl) (T.inj (h1.1.symm.trans hk))
theorem St.map_entry {L : List (K × Value)} (h : St W I w (HP.map T b L :: l)) {t e : TypeId} (ht : P.underlying t = some (.map k e)) {z : Value} (hz : ∀ w, (zeroValue e).run P w = .ok z w) (a : K) :
    ∃ st w', (Instr.mapEntry t (.map (some b)) (T.kv a)).run P w = .ok (.tuple #[(get a L).getD z, goInt (st : Nat)]) w' ∧ w'.heap.size = w.heap.size ∧ St W I w' (HP.ent T b a st (put a ((get a L).getD z) L) :: l) := by
  obtain ⟨es, clock, L1, q, p, s⟩ := h.map_open
  have hf := T.find w a L1 es.toList q.1
  have hb := s.heap
  have hgp := get_perm q.2.2.2 p (a := a)
  cases hg : get a L1 with
  | none =>
    rw [hg] at hgp
    rw [← hgp]
    rw [at_none.2 hg] at hf
    obtain ⟨w', hr, hsz, h2⟩ := h.map_put ht a z
    have hr2 : (Instr.mapUpdate t (.map (some b)) (T.kv a) z).run P w = .ok () (setBlock w b (.map (es.push ⟨T.kv a, z, clock⟩) (clock + 1))) := by
      simp [Instr.mapUpdate, run_underlying ht, MapKept.run_getObj_map hb, T.check, hf, MapKept.run_setObj_map _ hb, Result.andThen, setBlock]
    rw [hr2] at hr
    obtain rfl : setBlock w b (.map (es.push ⟨T.kv a, z, clock⟩) (clock + 1)) = w' := by injection hr
    refine ⟨clock, _, by simp [Instr.mapEntry, run_underlying ht, MapKept.run_getObj_map hb, T.check, hf, hz, MapKept.run_setObj_map _ hb, Result.andThen, setBlock], hsz, ?_⟩
    obtain ⟨es2, clock2, L2, q2, p2, s2⟩ := h2.map_open
    have e1 := s2.heap
    have e0 : (setBlock w b (.map (es.push ⟨T.kv a, z, clock⟩) (clock + 1))).heap[b]? = _ := (MapKept.heap_set (o' := .map (es.push ⟨T.kv a, z, clock⟩) (clock + 1)) hb).1
    rw [e0] at e1
    simp only [Option.some.injEq, Obj.map.injEq] at e1
    obtain ⟨rfl, rfl⟩ := e1
    have hg2 : get a L2 = some z := by
      rw [get_perm q2.2.2.2 p2]
      simp [put, get]
    obtain ⟨j, h5, h6⟩ := at_get hg2
    obtain ⟨x, hx, hxk, hxv⟩ := entry_at q2 h6
    refine s2.ent_shut q2 p2 h5 h6 hx ?_
    rw [Array.getElem?_push] at hx
    split at hx
    · simp only [Option.some.injEq] at hx; rw [← hx]
    · exact absurd hg (same_key q hx hxk)
  | some u =>
    rw [hg] at hgp
    rw [← hgp]
    obtain ⟨j, hj, hL⟩ := at_get hg
    rw [hj] at hf
    obtain ⟨x, hx, hxk, hxv⟩ := entry_at q hL
    have hlt := (Array.getElem?_eq_some_iff.1 hx).1
    have hsame : es.modify j (fun e => { e with key := T.kv a }) = es := by
      apply Array.ext'
      rw [Array.toList_modify, modify_eq_set _ _ _ _ (show es.toList[j]? = some x by simpa using hx)]
      have : ({ x with key := T.kv a } : MapEntry) = x := by rw [← hxk]
      rw [this]
      exact WideElems.set_self _ _ _ (by simpa using hx)
    refine ⟨x.born, setBlock w b (.map es clock), by simp [Instr.mapEntry, run_underlying ht, MapKept.run_getObj_map hb, T.check, hf, hx, hxk, T.stays, hsame, MapKept.run_setObj_map _ hb, Result.andThen, setBlock], by simp [setBlock], ?_⟩
    refine s.block_set.ent_shut q ?_ hj hL hx rfl
    have h7 := set_perm_put (v := u) q.2.2.2 hL
    rw [WideElems.set_self _ _ _ hL] at h7
    exact h7.trans (put_perm p)
/-- What is stored at the entry is what an update would store. -/
theorem St.ent_run {L : List (K × Value)} (h : St W I w (HP.ent T b a st L :: l)) {t e : TypeId} (ht : P.underlying t = some (.map k e)) (v : Value) :
    (Instr.entryStore t (.map (some b)) (goInt (st : Nat)) v).run P w = (Instr.mapUpdate t (.map (some b)) (T.kv a) v).run P w := by
  obtain ⟨es, clock, L1, q, p, s, j, u, x, hj, hL, hx, hbn⟩ := h.ent_open
  have hf := T.find w a L1 es.toList q.1
  have hb := s.heap
  rw [hj] at hf
  obtain ⟨x', hx', hxk, hxv⟩ := entry_at q hL
  rw [hx] at hx'
  cases hx'
  subst hbn
  have hidx : es.findIdx? (fun e => ((e.born : Nat) : Int) == ((x.born : Nat) : Int)) = some j := by
    rw [WideElems.findIdx_arr]
    exact WideElems.findIdx_born q.2.2.1 (by simpa using hx)
  have hmod : es.modify j (fun e => { e with val := v }) = es.modify j (fun e' => { e' with key := T.kv a, val := v }) := by
    apply Array.ext'
    rw [Array.toList_modify, Array.toList_modify, modify_eq_set _ _ _ _ (show es.toList[j]? = some x by simpa using hx), modify_eq_set _ _ _ _ (show es.toList[j]? = some x by simpa using hx), ← hxk]
  have e1 : (Instr.entryStore t (.map (some b)) (goInt (x.born : Nat)) v).run P w = .ok () (setBlock w b (.map (es.modify j (fun e' => { e' with key := T.kv a, val := v })) clock)) := by
    simp [Instr.entryStore, MapKept.run_getObj_map hb, asInt, asIntOf, goInt, hidx, hmod, MapKept.run_setObj_map _ hb, Result.andThen, setBlock]
  have e2 : (Instr.mapUpdate t (.map (some b)) (T.kv a) v).run P w = .ok () (setBlock w b (.map (es.modify j (fun e' => { e' with key := T.kv a, val := v })) clock)) := by
    simp [Instr.mapUpdate, run_underlying ht, MapKept.run_getObj_map hb, T.check, hf, hx, hxk, T.stays, MapKept.run_setObj_map _ hb, Result.andThen, setBlock]
  rw [e1, e2]
theorem St.held_hole {L : List (K × α)} (h : St W I w (HP.held T own b a v st L :: l)) : St W I w (HP.hole T own b a v L :: l) := by
  obtain ⟨M, h⟩ := h.ex_open
  obtain ⟨hp, h⟩ := (St.all_open h).pure_open
  exact St.ex_shut M (St.all_shut (St.pure_shut hp h.ent_map))
theorem St.held_run {L : List (K × α)} (h : St W I w (HP.held T own b a v st L :: l)) {t e : TypeId} (ht : P.underlying t = some (.map k e)) (u : Value) :
    (Instr.entryStore t (.map (some b)) (goInt (st : Nat)) u).run P w = (Instr.mapUpdate t (.map (some b)) (T.kv a) u).run P w := by
  obtain ⟨M, h⟩ := h.ex_open
  obtain ⟨hp, h⟩ := (St.all_open h).pure_open
  exact h.ent_run ht u
theorem St.held_put {L : List (K × α)} {u : Value} (h : St W I w (own v x :: HP.held T own b a u st L :: l)) {t e : TypeId} (ht : P.underlying t = some (.map k e)) :
    ∃ w', (Instr.entryStore t (.map (some b)) (goInt (st : Nat)) v).run P w = .ok () w' ∧ w'.heap.size = w.heap.size ∧ St W I w' (HP.mapOf T own b ((a, x) :: L) :: l) := by
  have h1 := (h.perm (List.Perm.swap _ _ _)).held_hole.perm (List.Perm.swap _ _ _)
  obtain ⟨w', hr, hs, h2⟩ := h1.hole_put ht
  exact ⟨w', ((h.perm (List.Perm.swap _ _ _)).held_run ht v).trans hr, hs, h2⟩
theorem St.mapOf_entry {L : List (K × α)} (h : St W I w (HP.mapOf T own b L :: l)) {t e : TypeId} (ht : P.underlying t = some (.map k e)) {z : Value} (hz : ∀ w, (zeroValue e).run P w = .ok z w) (a : K) :
    ∃ st v w', (Instr.mapEntry t (.map (some b)) (T.kv a)).run P w = .ok (.tuple #[v, goInt (st : Nat)]) w' ∧ w'.heap.size = w.heap.size ∧
      ((get a L = none ∧ v = z ∧ St W I w' (HP.held T own b a v st (del a L) :: l)) ∨ ∃ x, get a L = some x ∧ St W I w' (own v x :: HP.held T own b a v st (del a L) :: l)) := by
  obtain ⟨M, hp, h⟩ := h.mapOf_open
  have hn := h.map_nodup
  have hn2 := hn
  rw [fst3_keys] at hn2
  obtain ⟨st, w', hrun, hsz, h⟩ := h.map_entry ht hz a
  refine ⟨st, _, w', hrun, hsz, ?_⟩
  have hdne : ∀ p ∈ del a L, p.1 ≠ a := fun p hp' => by simpa [del] using (List.mem_filter.1 hp').2
  have hM : ∀ v : Value, put a v (M.map fst3) = (a, v) :: (M.filter fun m => decide (m.1 ≠ a)).map fst3 := fun v => by
    simp only [put, del, List.filter_map]
    rfl
  have hD : ((M.filter fun m => decide (m.1 ≠ a)).map dat3).Perm (del a L) := by
    have : del a (M.map dat3) = (M.filter fun m => decide (m.1 ≠ a)).map dat3 := by
      simp only [del, List.filter_map]
      rfl
    rw [← this]
    exact del_perm hp
  rw [hM] at h
  rcases get_fst3 a M with ⟨h1, h2⟩ | ⟨v, x, h1, h2, h3⟩
  · left
    rw [get_perm hn2 hp] at h2
    rw [h1] at h ⊢
    refine ⟨h2, rfl, ?_⟩
    have hall : (M.filter fun m => decide (m.1 ≠ a)) = M := List.filter_eq_self.2 fun m hm => by
      have : get a (M.map fst3) = none := h1
      have h9 : m.1 ≠ a := get_none.1 this (fst3 m) (List.mem_map.2 ⟨m, hm, rfl⟩)
      simpa using h9
    refine St.ex_shut (M.filter fun m => decide (m.1 ≠ a)) (St.all_shut (St.pure_shut ⟨hD, hdne⟩ ?_))
    rw [hall] at h ⊢
    exact h
  · right
    have hg : get a L = some x := by rw [← get_perm hn2 hp]; exact h3
    rw [h2] at h ⊢
    refine ⟨x, hg, ?_⟩
    obtain ⟨i, hi⟩ := List.getElem?_of_mem h1
    have pM : M.Perm ((a, v, x) :: M.eraseIdx i) := pull_perm _ _ _ hi
    have hnM : (((a, v, x) :: M.eraseIdx i).map dat3 |>.map (·.1)).Nodup := nodup_perm hn2 (pM.map _)
    have hE : ((M.eraseIdx i).filter fun m => decide (m.1 ≠ a)) = M.eraseIdx i := List.filter_eq_self.2 fun m hm => by
      have hne : m.1 ≠ a := fun e => (List.nodup_cons.1 hnM).1 (List.mem_map.2 ⟨dat3 m, List.mem_map.2 ⟨m, hm, rfl⟩, e⟩)
      simpa using hne
    have pF : M.Perm ((a, v, x) :: M.filter fun m => decide (m.1 ≠ a)) := by
      have h7 := pM.filter fun m => decide (m.1 ≠ a)
      rw [List.filter_cons_of_neg (by simp), hE] at h7
      exact pM.trans (h7.symm.cons _)
    have h8 : St W I w' (HP.ent T b a st ((a, v) :: (M.filter fun m => decide (m.1 ≠ a)).map fst3) :: (((a, v, x) :: M.filter fun m => decide (m.1 ≠ a)).map (own3 own) ++ l)) := h.perm (((pF.map (own3 own)).append_right l).cons _)
    have h9 : St W I w' ((HP.ent T b a st ((a, v) :: (M.filter fun m => decide (m.1 ≠ a)).map fst3) :: (M.filter fun m => decide (m.1 ≠ a)).map (own3 own)) ++ (own v x :: l)) := h8.perm (by
      simp only [List.map_cons, List.cons_append]
      exact List.Perm.cons _ (List.perm_middle.symm))
    have h10 : St W I w' (HP.held T own b a v st (del a L) :: own v x :: l) := St.ex_shut (M.filter fun m => decide (m.1 ≠ a)) (St.all_shut (St.pure_shut (⟨hD, hdne⟩ : _ ∧ _) h9))
    exact h10.perm (List.Perm.swap _ _ _)
end
end Go.Proofs.Ytnokhjhhadnckaa
