/- Maps that are owned: what is in them, in no order; read, written, ranged over. No program in sight. -/
import Derived.Test.YtnokhjhhadnckaaSep
import Derived.Maps.RangeWalk
import Derived.Carry
set_option linter.unusedSimpArgs false
set_option linter.unusedVariables false
set_option linter.unusedSectionVars false
namespace Go.Proofs.Ytnokhjhhadnckaa
open Go.RowKit
open Go.ChangeMaps (setBlock)

/-- first that has the key. -/
def get {K V : Type} [DecidableEq K] (a : K) : List (K × V) → Option V
  | [] => none
  | (b, v) :: l => if a = b then some v else get a l
def del {K V : Type} [DecidableEq K] (a : K) (l : List (K × V)) : List (K × V) := l.filter fun p => decide (p.1 ≠ a)
def put {K V : Type} [DecidableEq K] (a : K) (v : V) (l : List (K × V)) : List (K × V) := (a, v) :: del a l
def at_ {K V : Type} [DecidableEq K] (a : K) : List (K × V) → Nat → Option (Nat × V)
  | [], _ => none
  | (b, v) :: l, i => if a = b then some (i, v) else at_ a l (i + 1)

theorem nodup_perm {K V : Type} {l l' : List (K × V)} (hn : (l.map (·.1)).Nodup) (p : l.Perm l') : (l'.map (·.1)).Nodup := (p.map _).nodup_iff.1 hn
section
variable {K V : Type} [DecidableEq K]
theorem get_none {a : K} : ∀ {l : List (K × V)}, get a l = none ↔ ∀ p ∈ l, p.1 ≠ a
  | [] => by simp [get]
  | (b, v) :: l => by
    unfold get
    by_cases e : a = b
    · subst e
      simp
    · simp only [e, if_false, get_none (l := l), List.mem_cons, forall_eq_or_imp, ne_eq]
      exact ⟨fun h => ⟨fun q => e q.symm, h⟩, fun h => h.2⟩
theorem get_mem {a : K} {v : V} : ∀ {l : List (K × V)}, get a l = some v → (a, v) ∈ l
  | (b, u) :: l, h => by
    unfold get at h
    by_cases e : a = b
    · subst e
      simp at h
      subst h
      exact List.mem_cons_self ..
    · simp only [e, if_false] at h
      exact List.mem_cons_of_mem _ (get_mem h)
theorem get_of_mem {a : K} {v : V} : ∀ {l : List (K × V)}, (l.map (·.1)).Nodup → (a, v) ∈ l → get a l = some v
  | (b, u) :: l, hn, h => by
    have hn' : b ∉ l.map (·.1) ∧ (l.map (·.1)).Nodup := List.nodup_cons.1 hn
    unfold get
    rcases List.mem_cons.1 h with e | h
    · cases e; simp
    · have : a ≠ b := fun e => hn'.1 (e ▸ List.mem_map.2 ⟨_, h, rfl⟩)
      simp only [this, if_false]
      exact get_of_mem hn'.2 h
theorem get_perm {a : K} {l l' : List (K × V)} (hn : (l.map (·.1)).Nodup) (p : l.Perm l') : get a l = get a l' := by
  cases h : get a l with
  | none =>
    refine (get_none.2 fun q hq => ?_).symm
    exact get_none.1 h q (p.mem_iff.2 hq)
  | some v => exact (get_of_mem ((p.map _).nodup_iff.1 hn) (p.mem_iff.1 (get_mem h))).symm
theorem del_nodup {a : K} {l : List (K × V)} (hn : (l.map (·.1)).Nodup) : ((del a l).map (·.1)).Nodup := ((List.filter_sublist (l := l)).map _).nodup hn
theorem put_nodup {a : K} {v : V} {l : List (K × V)} (hn : (l.map (·.1)).Nodup) : ((put a v l).map (·.1)).Nodup :=
  List.nodup_cons.2 ⟨fun h => by
    obtain ⟨p, hp, e⟩ := List.mem_map.1 h
    have := (List.mem_filter.1 hp).2
    simp at this
    exact this e, del_nodup hn⟩
theorem del_of_none {a : K} {l : List (K × V)} (h : get a l = none) : del a l = l := List.filter_eq_self.2 fun p hp => by simpa using get_none.1 h p hp
theorem get_del_same {a : K} {l : List (K × V)} : get a (del a l) = none := get_none.2 fun p hp => by simpa using (List.mem_filter.1 hp).2
theorem get_del_ne {a b : K} (h : b ≠ a) : ∀ {l : List (K × V)}, get b (del a l) = get b l
  | [] => rfl
  | (c, v) :: l => by
    unfold del
    by_cases e : c = a
    · subst e
      simp only [List.filter_cons, ne_eq, not_true_eq_false, decide_false, Bool.false_eq_true, if_false]
      rw [show get b ((c, v) :: l) = get b l by simp [get, h]]
      exact get_del_ne h
    · simp only [List.filter_cons, ne_eq, e, not_false_eq_true, decide_true, if_true]
      unfold get
      rw [show get b (List.filter (fun p => decide (p.1 ≠ a)) l) = get b l from get_del_ne h]
theorem get_put_same {a : K} {v : V} {l : List (K × V)} : get a (put a v l) = some v := by simp [put, get]
theorem get_put_ne {a b : K} {v : V} (h : b ≠ a) {l : List (K × V)} : get b (put a v l) = get b l := by
  unfold put
  rw [show get b ((a, v) :: del a l) = get b (del a l) by simp [get, h]]
  exact get_del_ne h
theorem perm_of_get {a : K} {v : V} : ∀ {l : List (K × V)}, (l.map (·.1)).Nodup → get a l = some v → l.Perm ((a, v) :: del a l)
  | (b, u) :: l, hn, h => by
    have hn' : b ∉ l.map (·.1) ∧ (l.map (·.1)).Nodup := List.nodup_cons.1 hn
    unfold get at h
    unfold del
    by_cases e : a = b
    · subst e
      simp only [if_true, Option.some.injEq] at h
      subst h
      simp only [List.filter_cons, ne_eq, not_true_eq_false, decide_false, Bool.false_eq_true, if_false]
      rw [show List.filter (fun p : K × V => decide (p.1 ≠ a)) l = l from del_of_none (get_none.2 fun p hp q => hn'.1 (List.mem_map.2 ⟨p, hp, q⟩))]
    · simp only [e, if_false] at h
      simp only [List.filter_cons, ne_eq, Ne.symm e, not_false_eq_true, decide_true, if_true]
      exact ((perm_of_get hn'.2 h).cons _).trans (List.Perm.swap ..)
theorem del_perm {a : K} {l l' : List (K × V)} (p : l.Perm l') : (del a l).Perm (del a l') := p.filter _
theorem put_perm {a : K} {v : V} {l l' : List (K × V)} (p : l.Perm l') : (put a v l).Perm (put a v l') := (del_perm p).cons _
end

/-- A type of keys as the model sees it. -/
structure KT (P : Program) (k : TypeId) (K : Type) [DecidableEq K] where
  kv : K → Value
  inj : ∀ {a b : K}, kv a = kv b → a = b
  check : ∀ (w : World) (em : Bool) (a : K), (Instr.checkKey em 10000 k (kv a)).run P w = .ok () w
  find : ∀ (w : World) (a : K) (L : List (K × Value)) (es : List MapEntry), es.map (fun x => (x.key, x.val)) = L.map (fun p => (kv p.1, p.2)) → (Instr.findKey k (kv a) es).run P w = .ok (at_ a L 0) w
  stays : ∀ (w : World) (a : K), (Instr.keyThatStays (kv a) (kv a)).run P w = .ok (kv a) w

section
variable {P : Program} {k : TypeId} {K : Type} [DecidableEq K] (T : KT P k K)
/-- The block's entries, in the order in which they lie. -/
def Lies (es : Array MapEntry) (clock : Nat) (L : List (K × Value)) : Prop :=
  es.toList.map (fun x => (x.key, x.val)) = L.map (fun p => (T.kv p.1, p.2)) ∧ (∀ x ∈ es.toList, x.born < clock) ∧ (es.toList.map (·.born)).Nodup ∧ (L.map (·.1)).Nodup
def HP.map (b : Nat) (L : List (K × Value)) : HP := ⟨fun _ h => ∃ es clock L', h b = some (.map es clock) ∧ Lies T es clock L' ∧ L'.Perm L, fun _ q => q⟩

theorem at_none {V : Type} {a : K} : ∀ {L : List (K × V)} {i : Nat}, at_ a L i = none ↔ get a L = none
  | [], _ => by simp [at_, get]
  | (b, v) :: L, i => by
    unfold at_ get
    by_cases e : a = b
    · simp [e]
    · simp only [e, if_false]; exact at_none
theorem at_some {V : Type} {a : K} : ∀ {L : List (K × V)} {i j : Nat} {v : V}, at_ a L i = some (j, v) → i ≤ j ∧ L[j - i]? = some (a, v) ∧ get a L = some v
  | (b, u) :: L, i, j, v, h => by
    unfold at_ at h
    unfold get
    by_cases e : a = b
    · simp only [e, if_true, Option.some.injEq, Prod.mk.injEq] at h ⊢
      obtain ⟨rfl, rfl⟩ := h
      simp
    · simp only [e, if_false] at h ⊢
      obtain ⟨h1, h2, h3⟩ := at_some h
      refine ⟨by omega, ?_, h3⟩
      rw [show j - i = (j - (i + 1)) + 1 by omega]
      simpa using h2
theorem at_get {V : Type} {a : K} {L : List (K × V)} {v : V} (h : get a L = some v) : ∃ j, at_ a L 0 = some (j, v) ∧ L[j]? = some (a, v) := by
  cases e : at_ a L 0 with
  | none => rw [at_none.1 e] at h; cases h
  | some q =>
    obtain ⟨j, u⟩ := q
    obtain ⟨_, h2, h3⟩ := at_some e
    rw [h] at h3
    cases h3
    exact ⟨j, rfl, by simpa using h2⟩

variable {W w : World} {I : Hp} {l : List HP} {b : Nat} {L : List (K × Value)}
variable {T}
theorem St.map_open (h : St W I w (HP.map T b L :: l)) : ∃ es clock L', Lies T es clock L' ∧ L'.Perm L ∧ St W I w (HP.pt b (.map es clock) :: l) := by
  obtain ⟨k, a, d, h1, h2, d', a', b', ⟨es, clock, L', p, q, r⟩, s⟩ := h.own
  exact ⟨es, clock, L', q, r, h.os, h.tape, h.output, h.base, h.imm, k, a, d, h1, h2, d', a', b', p, s⟩
theorem St.map_shut {es : Array MapEntry} {clock : Nat} {L' : List (K × Value)} (h : St W I w (HP.pt b (.map es clock) :: l)) (q : Lies T es clock L') (r : L'.Perm L) : St W I w (HP.map T b L :: l) :=
  h.imp fun _ ⟨h1, h2, d', a', b', p, s⟩ => ⟨h1, h2, d', a', b', ⟨es, clock, L', p, q, r⟩, s⟩
theorem St.map_perm {L' : List (K × Value)} (h : St W I w (HP.map T b L :: l)) (r : L.Perm L') : St W I w (HP.map T b L' :: l) := by
  obtain ⟨es, clock, L1, q, p, s⟩ := h.map_open
  exact s.map_shut q (p.trans r)
theorem St.map_nodup (h : St W I w (HP.map T b L :: l)) : (L.map (·.1)).Nodup := by
  obtain ⟨es, clock, L1, q, p, s⟩ := h.map_open
  exact nodup_perm q.2.2.2 p
theorem lies_empty : Lies T #[] 0 [] := ⟨rfl, by simp, by simp, by simp⟩
theorem St.map_made (h : St W I w (HP.pt b (.map #[] 0) :: l)) : St W I w (HP.map T b [] :: l) := h.map_shut lies_empty (List.Perm.refl _)

theorem St.map_look (h : St W I w (HP.map T b L :: l)) {t e : TypeId} (ht : P.underlying t = some (.map k e)) {z : Value} (hz : ∀ w, (zeroValue e).run P w = .ok z w) (a : K) (ok : Bool) {w2 : World} (hw : Below w.heap.size w w2) :
    (Instr.lookup t (.map (some b)) (T.kv a) ok).run P w2 = .ok (if ok then .tuple #[(get a L).getD z, .bool (get a L).isSome] else (get a L).getD z) w2 := by
  obtain ⟨es, clock, L1, q, p, s⟩ := h.map_open
  have hf := T.find w2 a L1 es.toList q.1
  have hb := (hw.block b s.lt).trans s.heap
  rw [← get_perm q.2.2.2 p]
  cases hg : get a L1 with
  | none =>
    rw [at_none.2 hg] at hf
    simp [Instr.lookup, run_underlying ht, MapKept.run_getObj_map hb, T.check, hf, hz, Result.andThen]
  | some v =>
    obtain ⟨j, hj, _⟩ := at_get hg
    rw [hj] at hf
    simp [Instr.lookup, run_underlying ht, MapKept.run_getObj_map hb, T.check, hf, Result.andThen]

theorem entry_at {es : Array MapEntry} {clock : Nat} {L : List (K × Value)} (q : Lies T es clock L) {j : Nat} {a : K} {v : Value} (h : L[j]? = some (a, v)) : ∃ e, es[j]? = some e ∧ e.key = T.kv a ∧ e.val = v := by
  have h1 := congrArg (·[j]?) q.1
  simp only [List.getElem?_map, h, Option.map_some] at h1
  cases e : es.toList[j]? with
  | none => rw [e] at h1; cases h1
  | some x =>
    rw [e] at h1
    simp only [Option.map_some, Option.some.injEq, Prod.mk.injEq] at h1
    exact ⟨x, by simpa using e, h1.1, h1.2⟩

theorem set_perm_put {L : List (K × Value)} {j : Nat} {a : K} {u v : Value} (hn : (L.map (·.1)).Nodup) (h : L[j]? = some (a, u)) : (L.set j (a, v)).Perm (put a v L) := by
  have h1 : L.Perm ((a, u) :: L.eraseIdx j) := pull_perm _ _ _ h
  have h2 : (L.set j (a, v)).Perm ((a, v) :: L.eraseIdx j) := by
    have hlt := (List.getElem?_eq_some_iff.1 h).1
    have := pull_perm (L.set j (a, v)) j (a, v) (by simp [hlt])
    rwa [List.eraseIdx_set_eq] at this
  refine h2.trans (List.Perm.cons _ ?_)
  have h3 : (del a L).Perm (del a ((a, u) :: L.eraseIdx j)) := del_perm h1
  have hn' := nodup_perm hn h1
  have h4 : del a ((a, u) :: L.eraseIdx j) = L.eraseIdx j := by
    unfold del
    simp only [List.filter_cons, ne_eq, not_true_eq_false, decide_false, Bool.false_eq_true, if_false]
    exact del_of_none (get_none.2 fun p hp e => (List.nodup_cons.1 hn').1 (List.mem_map.2 ⟨p, hp, e⟩))
  rw [h4] at h3
  exact h3.symm

theorem erase_perm_del {L : List (K × Value)} {j : Nat} {a : K} {u : Value} (hn : (L.map (·.1)).Nodup) (h : L[j]? = some (a, u)) : (L.eraseIdx j).Perm (del a L) := by
  have h1 : L.Perm ((a, u) :: L.eraseIdx j) := pull_perm _ _ _ h
  have h3 : (del a L).Perm (del a ((a, u) :: L.eraseIdx j)) := del_perm h1
  have hn' := nodup_perm hn h1
  have h4 : del a ((a, u) :: L.eraseIdx j) = L.eraseIdx j := by
    unfold del
    simp only [List.filter_cons, ne_eq, not_true_eq_false, decide_false, Bool.false_eq_true, if_false]
    exact del_of_none (get_none.2 fun p hp e => (List.nodup_cons.1 hn').1 (List.mem_map.2 ⟨p, hp, e⟩))
  rw [h4] at h3
  exact h3.symm

theorem St.block_set {o o' : Obj} (h : St W I w (HP.pt b o :: l)) : St W I (setBlock w b o') (HP.pt b o' :: l) := by
  have hb := MapKept.heap_set (o' := o') h.heap
  exact h.write rfl rfl rfl hb.1 fun c _ hc => hb.2 c hc

theorem St.map_put (h : St W I w (HP.map T b L :: l)) {t e : TypeId} (ht : P.underlying t = some (.map k e)) (a : K) (v : Value) :
    ∃ w', (Instr.mapUpdate t (.map (some b)) (T.kv a) v).run P w = .ok () w' ∧ w'.heap.size = w.heap.size ∧ St W I w' (HP.map T b (put a v L) :: l) := by
  obtain ⟨es, clock, L1, q, p, s⟩ := h.map_open
  have hf := T.find w a L1 es.toList q.1
  have hb := s.heap
  cases hg : get a L1 with
  | none =>
    rw [at_none.2 hg] at hf
    refine ⟨setBlock w b (.map (es.push ⟨T.kv a, v, clock⟩) (clock + 1)), by simp [Instr.mapUpdate, run_underlying ht, MapKept.run_getObj_map hb, T.check, hf, MapKept.run_setObj_map _ hb, Result.andThen, setBlock], by simp [setBlock], ?_⟩
    refine s.block_set.map_shut (L' := L1 ++ [(a, v)]) ⟨by simp [q.1], fun x hx => ?_, ?_, ?_⟩ ?_
    · simp only [Array.toList_push, List.mem_append, List.mem_singleton] at hx
      rcases hx with hx | rfl
      · have := q.2.1 x hx; omega
      · simp
    · simp only [Array.toList_push, List.map_append, List.map_cons, List.map_nil]
      refine List.nodup_append.2 ⟨q.2.2.1, by simp, ?_⟩
      intro x hx y hy
      obtain ⟨z, hz, rfl⟩ := List.mem_map.1 hx
      have := q.2.1 z hz
      simp at hy
      omega
    · simp only [List.map_append, List.map_cons, List.map_nil]
      refine List.nodup_append.2 ⟨q.2.2.2, by simp, ?_⟩
      intro x hx y hy
      obtain ⟨z, hz, rfl⟩ := List.mem_map.1 hx
      simp at hy
      subst hy
      exact get_none.1 hg z hz
    · refine List.perm_append_comm.trans ?_
      show ((a, v) :: L1).Perm (put a v L)
      rw [show (a, v) :: L1 = put a v L1 by unfold put; rw [del_of_none hg]]
      exact put_perm p
  | some u =>
    obtain ⟨j, hj, hL⟩ := at_get hg
    rw [hj] at hf
    obtain ⟨x, hx, hxk, hxv⟩ := entry_at q hL
    have hlt := (Array.getElem?_eq_some_iff.1 hx).1
    have hxe : es[j] = x := (Array.getElem?_eq_some_iff.1 hx).2
    have hmod : (es.modify j fun e => { e with key := T.kv a, val := v }).toList = es.toList.set j { x with key := T.kv a, val := v } := by
      apply List.ext_getElem?
      intro i
      simp only [Array.getElem?_toList, Array.getElem?_modify, List.getElem?_set]
      by_cases e : j = i
      · subst e
        simp [hx, hlt, hxe]
      · simp [e]
    refine ⟨setBlock w b (.map (es.modify j fun e => { e with key := T.kv a, val := v }) clock), by simp [Instr.mapUpdate, run_underlying ht, MapKept.run_getObj_map hb, T.check, hf, hx, hxk, T.stays, MapKept.run_setObj_map _ hb, Result.andThen, setBlock], by simp [setBlock], ?_⟩
    have hborn : (es.toList.set j { x with key := T.kv a, val := v }).map (·.born) = es.toList.map (·.born) := by
      rw [List.map_set]
      apply List.ext_getElem?
      intro i
      simp only [List.getElem?_set, List.length_map, List.getElem?_map]
      by_cases e : j = i
      · subst e
        simp [hx, hlt, hxe]
      · simp [e]
    refine s.block_set.map_shut (L' := L1.set j (a, v)) ⟨?_, fun y hy => ?_, ?_, ?_⟩ ?_
    · rw [hmod, List.map_set, List.map_set, q.1]
    · rw [hmod] at hy
      have : y.born ∈ es.toList.map (·.born) := by rw [← hborn]; exact List.mem_map.2 ⟨y, hy, rfl⟩
      obtain ⟨z, hz, e⟩ := List.mem_map.1 this
      rw [← e]
      exact q.2.1 z hz
    · rw [hmod, hborn]; exact q.2.2.1
    · exact nodup_perm (put_nodup q.2.2.2) (set_perm_put q.2.2.2 hL).symm
    · exact (set_perm_put q.2.2.2 hL).trans (put_perm p)

theorem St.map_del (h : St W I w (HP.map T b L :: l)) {t e ty : TypeId} (ht : P.underlying t = some (.map k e)) (a : K) :
    ∃ w', (Builtin.delete_ #[t, k] ty #[.map (some b), T.kv a]).run P w = .ok (.tuple #[]) w' ∧ w'.heap.size = w.heap.size ∧ St W I w' (HP.map T b (del a L) :: l) := by
  obtain ⟨es, clock, L1, q, p, s⟩ := h.map_open
  have hf := T.find w a L1 es.toList q.1
  have hb := s.heap
  cases hg : get a L1 with
  | none =>
    rw [at_none.2 hg] at hf
    refine ⟨setBlock w b (.map es clock), by simp [Builtin.delete_, run_underlying ht, MapKept.run_getObj_map hb, T.check, hf, MapKept.run_setObj_map _ hb, Result.andThen, setBlock], by simp [setBlock], ?_⟩
    refine s.block_set.map_shut q (p.trans ?_)
    have := del_perm (a := a) p
    rw [del_of_none hg] at this
    exact p.symm.trans this
  | some u =>
    obtain ⟨j, hj, hL⟩ := at_get hg
    rw [hj] at hf
    obtain ⟨x, hx, hxk, hxv⟩ := entry_at q hL
    have hlt := (Array.getElem?_eq_some_iff.1 hx).1
    have hsub : (es.eraseIdxIfInBounds j).toList = es.toList.eraseIdx j := by
      unfold Array.eraseIdxIfInBounds
      rw [dif_pos hlt]
      simp
    have hmapE : ∀ {α β : Type} (f : α → β) (l : List α) (j : Nat), (l.eraseIdx j).map f = (l.map f).eraseIdx j := fun f l j => (Go.ChangeMaps.map_eraseIdx f l j)
    refine ⟨setBlock w b (.map (es.eraseIdxIfInBounds j) clock), by simp [Builtin.delete_, run_underlying ht, MapKept.run_getObj_map hb, T.check, hf, MapKept.run_setObj_map _ hb, Result.andThen, setBlock], by simp [setBlock], ?_⟩
    refine s.block_set.map_shut (L' := L1.eraseIdx j) ⟨?_, fun y hy => ?_, ?_, ?_⟩ ((erase_perm_del q.2.2.2 hL).trans (del_perm p))
    · rw [hsub, hmapE, hmapE, q.1]
    · rw [hsub] at hy
      exact q.2.1 y ((List.eraseIdx_sublist _ _).subset hy)
    · rw [hsub]
      exact ((List.eraseIdx_sublist _ _).map _).nodup q.2.2.1
    · exact ((List.eraseIdx_sublist _ _).map _).nodup q.2.2.2

/-! ### a range over it -/
/-- A map that is ranged over, and what of it is still to come. -/
def HP.iter (T : KT P k K) (b r : Nat) (L left : List (K × Value)) : HP :=
  ⟨fun _ h => ∃ es clock L' since seen c0, h b = some (.map es clock) ∧ Lies T es clock L' ∧ L'.Perm L ∧ h r = some (.mapIter (some b) since seen c0) ∧ r ≠ b ∧ (∀ x ∈ es.toList, x.born < since) ∧ since ≤ c0 ∧ since ≤ clock ∧
    ∃ left' : List (K × Value), (leftOf es seen).toList.map (fun x => (x.key, x.val)) = left'.map (fun p => (T.kv p.1, p.2)) ∧ left'.Perm left, fun _ q => q⟩

theorem St.iter_shut_map {r : Nat} {left : List (K × Value)} (h : St W I w (HP.iter T b r L left :: l)) : St W I w (HP.map T b L :: l) :=
  h.imp fun _ ⟨h1, h2, d', a', b', ⟨es, clock, L', since, seen, c0, hb, q, p, _⟩, s⟩ => ⟨h1, h2, d', a', b', ⟨es, clock, L', hb, q, p⟩, s⟩

theorem St.range (h : St W I w (HP.map T b L :: l)) {t e : TypeId} (ht : P.underlying t = some (.map k e)) :
    ∃ w', (Instr.range t (.map (some b))).run P w = .ok (.pointer (some ⟨w.heap.size, 0, none⟩)) w' ∧ w'.heap.size = w.heap.size + 1 ∧ St W I w' (HP.iter T b w.heap.size L L :: l) := by
  obtain ⟨es, clock, L1, q, p, s⟩ := h.map_open
  have hb := s.heap
  have hlt := s.lt
  refine ⟨_, run_range_map w t k e b es clock ht hb, by simp, ?_⟩
  refine (s.alloc (.mapIter (some b) clock #[] clock)).imp ?_
  rintro H ⟨h1, h2, d, a, c, hr, h3, h4, d', a', c', hb', rest⟩
  have hr' : h1 w.heap.size = some (.mapIter (some b) clock #[] clock) := hr
  have hb'' : h3 b = some (.map es clock) := hb'
  refine ⟨h1.join h3, h4, (Hp.disj_join (d.mono (Hp.sub.refl _) c').symm d'.symm).symm, Hp.join_sub a (a'.trans c), c'.trans c, ?_, rest⟩
  refine ⟨es, clock, L1, clock, #[], clock, Hp.sub_join_right (d.mono (Hp.sub.refl _) a') _ _ hb'', q, p, Hp.sub_join_left _ _ _ _ hr', by omega, q.2.1, Nat.le_refl _, Nat.le_refl _, L1, ?_, p⟩
  have e0 : leftOf es #[] = es := by unfold leftOf; exact Array.filter_eq_self.2 fun x _ => by simp
  rw [e0]
  exact q.1

theorem filter_born : ∀ {l : List MapEntry} {i : Nat} {e : MapEntry}, (l.map (·.born)).Nodup → l[i]? = some e → l.filter (fun x => !(x.born == e.born)) = l.eraseIdx i
  | x :: l, 0, e, hn, h => by
    simp at h
    subst h
    have hn' : x.born ∉ l.map (·.born) ∧ (l.map (·.born)).Nodup := List.nodup_cons.1 hn
    simp only [List.filter_cons, beq_self_eq_true, Bool.not_true, Bool.false_eq_true, if_false, List.eraseIdx_cons_zero]
    exact List.filter_eq_self.2 fun y hy => by
      simp
      exact fun e1 => hn'.1 (List.mem_map.2 ⟨y, hy, e1⟩)
  | x :: l, i + 1, e, hn, h => by
    have hn' : x.born ∉ l.map (·.born) ∧ (l.map (·.born)).Nodup := List.nodup_cons.1 hn
    have h' : l[i]? = some e := by simpa using h
    have hne : (x.born == e.born) = false := by
      cases hc : x.born == e.born with
      | false => rfl
      | true => exact absurd (List.mem_map.2 ⟨e, List.mem_of_getElem? h', (beq_iff_eq.1 hc).symm⟩) hn'.1
    simp only [List.filter_cons, hne, Bool.not_false, if_true, List.eraseIdx_cons_succ]
    rw [filter_born hn'.2 h']
theorem St.next' {r : Nat} {left : List (K × Value)} (h : St W I w (HP.iter T b r L left :: l)) (ty : TypeId) :
    (left = [] ∧ (Instr.next (.pointer (some ⟨r, 0, none⟩)) false ty).run P w = .ok (.tuple #[.bool false]) w) ∨
    ∃ a v left' w', left.Perm ((a, v) :: left') ∧ (a, v) ∈ L ∧ (Instr.next (.pointer (some ⟨r, 0, none⟩)) false ty).run P w = .ok (.tuple #[.bool true, T.kv a, v]) w' ∧ w'.heap.size = w.heap.size ∧
      (Instr.entry (.pointer (some ⟨r, 0, none⟩))).run P w' = .ok (.tuple #[T.kv a, v]) w' ∧ St W I w' (HP.iter T b r L left' :: l) ∧ ∃ w1 o, (w1 = w ∨ w1 = w.drew) ∧ w' = setBlock w1 r o := by
  obtain ⟨H, hs, hd, h1, h2, d, a1, a2, ⟨es, clock, L1, since, seen, c0, hb, q, p, hr, hne, hold, hsc, hsk, left1, hl, hp⟩, rest⟩ := h.own
  have hbw : w.heap[b]? = some (.map es clock) := hs _ _ (a1 _ _ hb)
  have hrw : w.heap[r]? = some (.mapIter (some b) since seen c0) := hs _ _ (a1 _ _ hr)
  rcases run_next_at (P := P) w ty r b since c0 seen es clock hrw hbw hold hsc with ⟨h0, hrun⟩ | ⟨e, he, w1, hal, hrun⟩
  · refine Or.inl ⟨?_, hrun⟩
    have hz : (leftOf es seen).toList = [] := by simpa using h0
    rw [hz] at hl
    simp at hl
    subst hl
    exact hp.nil_eq.symm
  · right
    obtain ⟨hem, hes⟩ := mem_left he
    obtain ⟨i, hi⟩ := List.getElem?_of_mem he
    have h3 := congrArg (·[i]?) hl
    simp only [List.getElem?_map, hi, Option.map_some] at h3
    cases hl1 : left1[i]? with
    | none => rw [hl1] at h3; cases h3
    | some av =>
      obtain ⟨a, v⟩ := av
      rw [hl1] at h3
      simp only [Option.map_some, Option.some.injEq, Prod.mk.injEq] at h3
      obtain ⟨hk, hv⟩ := h3
      have hr1 : w1.heap[r]? = some (.mapIter (some b) since seen c0) := by rcases hal with rfl | rfl <;> exact hrw
      have hb1 : w1.heap[b]? = some (.map es clock) := by rcases hal with rfl | rfl <;> exact hbw
      have hset := MapKept.heap_set (o' := .mapIter (some b) since (seen.push e.born) clock) hr1
      have hb' : (setBlock w1 r (.mapIter (some b) since (seen.push e.born) clock)).heap[b]? = some (.map es clock) := (hset.2 b (fun e1 => hne e1.symm)).trans hb1
      have hent := run_entry_at (P := P) _ r b since seen es clock e hset.1 hb' hem q.2.2.1
      have hmemL : (a, v) ∈ L := by
        obtain ⟨j, hj⟩ := List.getElem?_of_mem hem
        have h4 := congrArg (·[j]?) q.1
        simp only [List.getElem?_map, hj, Option.map_some] at h4
        cases hL1 : L1[j]? with
        | none => rw [hL1] at h4; cases h4
        | some bu =>
          obtain ⟨b', u⟩ := bu
          rw [hL1] at h4
          simp only [Option.map_some, Option.some.injEq, Prod.mk.injEq] at h4
          have e1 : b' = a := T.inj (h4.1.symm.trans hk)
          have e2 : u = v := h4.2.symm.trans hv
          subst e1
          subst e2
          exact p.mem_iff.1 (List.mem_of_getElem? hL1)
      refine ⟨a, v, left1.eraseIdx i, _, hp.symm.trans (pull_perm _ _ _ hl1), hmemL, by rw [hrun, hk, hv], by rcases hal with rfl | rfl <;> simp [setBlock], by rw [hent, hk, hv], ?_, w1, _, hal, rfl⟩
      -- the iterator's block is turned
      have hI : ∀ g : Hp, g.sub w.hp → g r = none → g.sub (setBlock w1 r (.mapIter (some b) since (seen.push e.born) clock)).hp := fun g s hg c x hx => by
        have hcr : c ≠ r := fun e => by subst e; rw [hg] at hx; cases hx
        have hc : w.heap[c]? = some x := s _ _ hx
        refine (hset.2 c hcr).trans ?_
        rcases hal with rfl | rfl <;> exact hc
      have hIr : I r = none := by
        rcases hd r with e | e
        · exact e
        · rw [a1 _ _ hr] at e; cases e
      have h2r : h2 r = none := by
        rcases d r with e | e
        · rw [hr] at e; cases e
        · exact e
      have hbr : (Hp.one b (.map es clock)) r = none := by simp [Hp.one, hne]
      have dbr : (Hp.one b (.map es clock)).disj (Hp.one r (.mapIter (some b) since (seen.push e.born) clock)) := fun c => by
        by_cases e1 : c = b
        · subst e1; exact .inr (by simp [Hp.one, Ne.symm hne])
        · exact .inl (by simp [Hp.one, e1])
      have sb : (Hp.one b (.map es clock)).sub h1 := Hp.one_sub hb
      have dr : ∀ g : Hp, g r = none → g.disj (Hp.one r (.mapIter (some b) since (seen.push e.born) clock)) := fun g hg c => by
        by_cases e1 : c = r
        · subst e1; exact .inl hg
        · exact .inr (by simp [Hp.one, e1])
      have dN : ((Hp.one b (.map es clock)).join (Hp.one r (.mapIter (some b) since (seen.push e.born) clock))).disj h2 :=
        (Hp.disj_join (d.mono sb (Hp.sub.refl _)).symm (dr h2 h2r)).symm
      refine ⟨?_, ?_, ?_, h.base, hI I h.imm hIr, ((Hp.one b (.map es clock)).join (Hp.one r (.mapIter (some b) since (seen.push e.born) clock))).join h2, ?_, ?_, _, h2, dN, Hp.sub_join_left _ _, Hp.sub_join_right dN, ?_, rest⟩
      · rcases hal with rfl | rfl <;> exact h.os
      · rcases hal with rfl | rfl <;> exact h.tape
      · rcases hal with rfl | rfl <;> exact h.output
      · exact Hp.join_sub (Hp.join_sub (Hp.one_sub hb') (Hp.one_sub hset.1)) (hI h2 (a2.trans hs) h2r)
      · exact Hp.disj_join (Hp.disj_join (hd.mono (Hp.sub.refl _) (sb.trans a1)) (dr I hIr)) (hd.mono (Hp.sub.refl _) a2)
      · refine ⟨es, clock, L1, since, seen.push e.born, clock, Hp.sub_join_left _ _ _ _ (Hp.one_same _ _), q, p, Hp.sub_join_right dbr _ _ (Hp.one_same _ _), hne, hold, hsk, hsk, left1.eraseIdx i, ?_, List.Perm.refl _⟩
        have hnod : ((leftOf es seen).toList.map (·.born)).Nodup := by
          refine List.Sublist.nodup (List.Sublist.map _ ?_) q.2.2.1
          unfold leftOf
          rw [Array.toList_filter]
          exact List.filter_sublist
        have herase : (leftOf es (seen.push e.born)).toList = (leftOf es seen).toList.eraseIdx i := by
          have e1 : (leftOf es (seen.push e.born)).toList = (leftOf es seen).toList.filter (fun x => !(x.born == e.born)) := by
            unfold leftOf
            rw [Array.toList_filter, Array.toList_filter, List.filter_filter]
            congr 1
            funext x
            rw [contains_push]
            cases seen.contains x.born <;> cases (x.born == e.born) <;> rfl
          rw [e1]
          exact filter_born hnod hi
        rw [herase, Go.ChangeMaps.map_eraseIdx, Go.ChangeMaps.map_eraseIdx, hl]
theorem St.next {r : Nat} {left : List (K × Value)} (h : St W I w (HP.iter T b r L left :: l)) (ty : TypeId) :
    (left = [] ∧ (Instr.next (.pointer (some ⟨r, 0, none⟩)) false ty).run P w = .ok (.tuple #[.bool false]) w) ∨
    ∃ a v left' w', left.Perm ((a, v) :: left') ∧ (a, v) ∈ L ∧ (Instr.next (.pointer (some ⟨r, 0, none⟩)) false ty).run P w = .ok (.tuple #[.bool true, T.kv a, v]) w' ∧ w'.heap.size = w.heap.size ∧
      (Instr.entry (.pointer (some ⟨r, 0, none⟩))).run P w' = .ok (.tuple #[T.kv a, v]) w' ∧ St W I w' (HP.iter T b r L left' :: l) := by
  rcases h.next' ty with h | ⟨a, v, left', w', h1, h2, h3, h4, h5, h6, _⟩
  · exact .inl h
  · exact .inr ⟨a, v, left', w', h1, h2, h3, h4, h5, h6⟩
/-- The same of a world by itself. -/
theorem iter_at {r : Nat} {left : List (K × Value)} (h : (HP.iter T b r L left).p Hp.nil w.hp) : St { w with heap := #[] } Hp.nil w [HP.iter T b r L left] :=
  ⟨rfl, rfl, rfl, fun c o e => by simp [World.hp] at e, Hp.nil_sub _, w.hp, Hp.sub.refl _, (Hp.disj_nil _).symm, w.hp, Hp.nil, Hp.disj_nil _, Hp.sub.refl _, Hp.nil_sub _, h, trivial⟩
theorem iter_up {r : Nat} {left : List (K × Value)} {I g k : Hp} (s : g.sub k) (h : (HP.iter T b r L left).p I g) : (HP.iter T b r L left).p Hp.nil k := by
  obtain ⟨es, clock, L', since, seen, c0, h1, h2, h3, h4, h5⟩ := h
  exact ⟨es, clock, L', since, seen, c0, s _ _ h1, h2, h3, s _ _ h4, h5⟩
theorem St.iter_out {r : Nat} {left : List (K × Value)} (h : St W I w (HP.iter T b r L left :: l)) : (HP.iter T b r L left).p Hp.nil w.hp := by
  obtain ⟨k, a, _, h1, h2, _, a', _, p, _⟩ := h.own
  exact iter_up (a'.trans a) p
theorem setBlock_grown {w1 : World} {r : Nat} {o : Obj} (h : w1 = w ∨ w1 = w.drew) : w.grownBy (setBlock w1 r o) (some r) := by
  rcases h with rfl | rfl <;> exact ⟨rfl, rfl, rfl, by simp [setBlock], fun k _ hk => by
    have : k ≠ r := fun e => hk (by rw [e])
    exact Array.getElem?_setIfInBounds_ne (Ne.symm this)⟩
/-- A step of a range, in plain words. -/
theorem next_plain {r : Nat} {left : List (K × Value)} (h : (HP.iter T b r L left).p Hp.nil w.hp) (ty : TypeId) :
    (left = [] ∧ (Instr.next (.pointer (some ⟨r, 0, none⟩)) false ty).run P w = .ok (.tuple #[.bool false]) w) ∨
    ∃ a v left' w', left.Perm ((a, v) :: left') ∧ (Instr.next (.pointer (some ⟨r, 0, none⟩)) false ty).run P w = .ok (.tuple #[.bool true, T.kv a, v]) w' ∧
      (Instr.entry (.pointer (some ⟨r, 0, none⟩))).run P w' = .ok (.tuple #[T.kv a, v]) w' ∧ (HP.iter T b r L left').p Hp.nil w'.hp ∧ w.grownBy w' (some r) := by
  rcases (iter_at h).next' ty with h | ⟨a, v, left', w', h1, _, h3, _, h5, h6, w1, o, h7, rfl⟩
  · exact .inl h
  · exact .inr ⟨a, v, left', _, h1, h3, h5, h6.iter_out, setBlock_grown h7⟩
end
end Go.Proofs.Ytnokhjhhadnckaa
