/- Memory in parts: what nobody writes any more (I), and what is owned, part by part. No program in sight. -/
import Derived.Below
import Derived.Deep.Draws
import Derived.Lib.Hide
import Derived.Laws.OwnMore
set_option linter.unusedSimpArgs false
set_option linter.unusedVariables false
set_option linter.unusedSectionVars false
namespace Go.Proofs.Ytnokhjhhadnckaa
open Go.RowKit

abbrev Hp := Nat → Option Obj
def Hp.sub (h k : Hp) : Prop := ∀ b o, h b = some o → k b = some o
def Hp.disj (h k : Hp) : Prop := ∀ b, h b = none ∨ k b = none
def Hp.join (h k : Hp) : Hp := fun b => match h b with | some o => some o | none => k b
def Hp.one (b : Nat) (o : Obj) : Hp := fun c => if c = b then some o else none
def Hp.nil : Hp := fun _ => none
theorem Hp.sub.refl (h : Hp) : h.sub h := fun _ _ e => e
theorem Hp.sub.trans {a b c : Hp} (h : a.sub b) (k : b.sub c) : a.sub c := fun _ _ e => k _ _ (h _ _ e)
theorem Hp.nil_sub (h : Hp) : Hp.nil.sub h := fun _ _ e => by cases e
theorem Hp.disj.symm {h k : Hp} (d : h.disj k) : k.disj h := fun b => (d b).symm
theorem Hp.disj.mono {h k h' k' : Hp} (d : h.disj k) (s : h'.sub h) (t : k'.sub k) : h'.disj k' := fun b => by
  rcases d b with e | e
  · left
    cases h1 : h' b with
    | none => rfl
    | some o => rw [s _ _ h1] at e; cases e
  · right
    cases h1 : k' b with
    | none => rfl
    | some o => rw [t _ _ h1] at e; cases e
theorem Hp.disj_nil (h : Hp) : h.disj Hp.nil := fun _ => .inr rfl
theorem Hp.sub_join_left (h k : Hp) : h.sub (h.join k) := fun b o e => by simp [Hp.join, e]
theorem Hp.sub_join_right {h k : Hp} (d : h.disj k) : k.sub (h.join k) := fun b o e => by
  rcases d b with h1 | h1
  · simp [Hp.join, h1, e]
  · rw [h1] at e; cases e
theorem Hp.join_sub {h k l : Hp} (a : h.sub l) (b : k.sub l) : (h.join k).sub l := fun c o e => by
  unfold Hp.join at e
  split at e
  · rename_i q hq; cases e; exact a _ _ hq
  · exact b _ _ e
theorem Hp.disj_join {h k l : Hp} (a : l.disj h) (b : l.disj k) : l.disj (h.join k) := fun c => by
  rcases a c with e | e
  · exact .inl e
  · rcases b c with f | f
    · exact .inl f
    · exact .inr (by simp [Hp.join, e, f])
theorem Hp.one_sub {h : Hp} {b : Nat} {o : Obj} (e : h b = some o) : (Hp.one b o).sub h := fun c q hq => by
  unfold Hp.one at hq
  split at hq
  · cases hq; subst c; exact e
  · cases hq
theorem Hp.one_same (b : Nat) (o : Obj) : Hp.one b o b = some o := by simp [Hp.one]

end Go.Proofs.Ytnokhjhhadnckaa
namespace Go
/-- What lies in each block. -/
def World.hp (w : World) : Go.Proofs.Ytnokhjhhadnckaa.Hp := fun b => w.heap[b]?
end Go
namespace Go.Proofs.Ytnokhjhhadnckaa
open Go.RowKit
/-- A statement on memory: of what is never written again, and of a part that is owned. -/
structure HP where
  p : Hp → Hp → Prop
  mono : ∀ {I I' h : Hp}, I.sub I' → p I h → p I' h

def sepL : List HP → Hp → Hp → Prop
  | [], _, _ => True
  | A :: l, I, h => ∃ h1 h2, Hp.disj h1 h2 ∧ h1.sub h ∧ h2.sub h ∧ A.p I h1 ∧ sepL l I h2
theorem sepL_up : ∀ {l : List HP} {I h k : Hp}, h.sub k → sepL l I h → sepL l I k
  | [], _, _, _, _, _ => trivial
  | _ :: _, _, _, _, s, ⟨h1, h2, d, a, b, p, q⟩ => ⟨h1, h2, d, a.trans s, b.trans s, p, q⟩
theorem sepL_mono : ∀ {l : List HP} {I I' h : Hp}, I.sub I' → sepL l I h → sepL l I' h
  | [], _, _, _, _, _ => trivial
  | A :: _, _, _, _, s, ⟨h1, h2, d, a, b, p, q⟩ => ⟨h1, h2, d, a, b, A.mono s p, sepL_mono s q⟩
theorem sepL_perm {l l' : List HP} (hp : l.Perm l') : ∀ {I h : Hp}, sepL l I h → sepL l' I h := by
  induction hp with
  | nil => exact fun h => h
  | cons A _ ih => exact fun ⟨h1, h2, d, a, b, p, q⟩ => ⟨h1, h2, d, a, b, p, ih q⟩
  | swap A B l =>
    rintro I h ⟨h1, h2, d, a, b, p, h3, h4, d', a', b', p', q⟩
    exact ⟨h3, h1.join h4, Hp.disj_join ((d.mono (Hp.sub.refl _) a').symm) d', a'.trans b, Hp.join_sub a (b'.trans b), p', h1, h4, d.mono (Hp.sub.refl _) b', Hp.sub_join_left _ _, Hp.sub_join_right (d.mono (Hp.sub.refl _) b'), p, q⟩
  | trans _ _ i j => exact fun h => j (i h)
theorem sepL_append : ∀ {l m : List HP} {I h : Hp}, sepL (l ++ m) I h ↔ ∃ h1 h2, Hp.disj h1 h2 ∧ h1.sub h ∧ h2.sub h ∧ sepL l I h1 ∧ sepL m I h2
  | [], m, I, h => ⟨fun q => ⟨Hp.nil, h, (Hp.disj_nil _).symm, Hp.nil_sub _, Hp.sub.refl _, trivial, q⟩, fun ⟨_, _, _, _, b, _, q⟩ => sepL_up b q⟩
  | A :: l, m, I, h => by
    constructor
    · rintro ⟨h1, h2, d, a, b, p, q⟩
      obtain ⟨h3, h4, d', a', b', r, s⟩ := sepL_append.1 q
      exact ⟨h1.join h3, h4, Hp.disj.symm (Hp.disj_join (d.mono (Hp.sub.refl _) b').symm d'.symm), Hp.join_sub a (a'.trans b), b'.trans b, ⟨h1, h3, d.mono (Hp.sub.refl _) a', Hp.sub_join_left _ _, Hp.sub_join_right (d.mono (Hp.sub.refl _) a'), p, r⟩, s⟩
    · rintro ⟨h1, h2, d, a, b, ⟨h3, h4, d', a', b', p, r⟩, s⟩
      exact ⟨h3, h4.join h2, Hp.disj_join d' (d.mono a' (Hp.sub.refl _)), a'.trans a, Hp.join_sub (b'.trans a) b, p, sepL_append.2 ⟨h4, h2, d.mono b' (Hp.sub.refl _), Hp.sub_join_left _ _, Hp.sub_join_right (d.mono b' (Hp.sub.refl _)), r, s⟩⟩

def HP.all (l : List HP) : HP := ⟨sepL l, sepL_mono⟩
def HP.ex {α : Type} (A : α → HP) : HP := ⟨fun I h => ∃ x, (A x).p I h, fun s ⟨x, q⟩ => ⟨x, (A x).mono s q⟩⟩
def HP.pure (φ : Prop) : HP := ⟨fun _ _ => φ, fun _ q => q⟩
def HP.pt (b : Nat) (o : Obj) : HP := ⟨fun _ h => h b = some o, fun _ q => q⟩
/-- What is never written again: a statement that stays true when more is. -/
structure IP where
  p : Hp → Prop
  mono : ∀ {I I' : Hp}, I.sub I' → p I → p I'
def HP.imm (A : IP) : HP := ⟨fun I _ => A.p I, fun s q => A.mono s q⟩
def HP.row (e : TypeId) (size : Nat) (v : Value) (n : Nat) (xs : List Value) : HP :=
  ⟨fun _ h => xs.length = n * size ∧ ((v = .slice none 0 0 ∧ n = 0) ∨
    ∃ g cap cur, v = .slice (some ⟨g, 0, none⟩) n cap ∧ h g = some (.cells cur e (0, 0)) ∧ n ≤ cap ∧ cap ≤ maxLen ∧ cur.size = cap * size ∧ cur.toList.take (n * size) = xs), fun _ q => q⟩

structure St (W : World) (I : Hp) (w : World) (l : List HP) : Prop where
  os : w.os = W.os
  tape : w.tape = W.tape
  output : w.output = W.output
  base : W.hp.sub I
  imm : I.sub w.hp
  own : ∃ h : Hp, h.sub w.hp ∧ I.disj h ∧ sepL l I h

section
variable {W w w' : World} {I : Hp} {l m : List HP}
theorem St.init (W : World) : St W W.hp W [] := ⟨rfl, rfl, rfl, Hp.sub.refl _, Hp.sub.refl _, Hp.nil, Hp.nil_sub _, Hp.disj_nil _, trivial⟩
theorem hp_sub_size {W w : World} (h : W.hp.sub w.hp) : W.heap.size ≤ w.heap.size := by
  rcases Nat.eq_zero_or_pos W.heap.size with e | e
  · omega
  · have : W.hp (W.heap.size - 1) = some W.heap[W.heap.size - 1] := Array.getElem?_eq_getElem (by omega)
    have := (Array.getElem?_eq_some_iff.1 (h _ _ this)).1
    omega
theorem St.below (h : St W I w l) : Below W.heap.size W w := by
  have hs := h.base.trans h.imm
  refine ⟨h.os, h.tape, h.output, hp_sub_size hs, fun k hk => ?_⟩
  have e : W.hp k = some W.heap[k] := Array.getElem?_eq_getElem hk
  exact (hs _ _ e).trans e.symm
theorem St.perm (h : St W I w l) (p : l.Perm m) : St W I w m := by
  obtain ⟨k, a, b, c⟩ := h.own
  exact ⟨h.os, h.tape, h.output, h.base, h.imm, k, a, b, sepL_perm p c⟩
theorem pull_perm {α : Type} : ∀ (l : List α) (n : Nat) (A : α), l[n]? = some A → l.Perm (A :: l.eraseIdx n)
  | a :: l, 0, A, h => by simp at h; subst h; exact List.Perm.refl _
  | a :: l, n + 1, A, h => ((pull_perm l n A (by simpa using h)).cons a).trans (List.Perm.swap A a _)
theorem St.pull (h : St W I w l) (n : Nat) (A : HP) (hA : l[n]? = some A) : St W I w (A :: l.eraseIdx n) := by
  exact h.perm (pull_perm _ _ _ hA)
theorem St.imp (h : St W I w l) (p : ∀ k, sepL l I k → sepL m I k) : St W I w m := by
  obtain ⟨k, a, b, c⟩ := h.own
  exact ⟨h.os, h.tape, h.output, h.base, h.imm, k, a, b, p k c⟩
theorem St.drop {A : HP} (h : St W I w (A :: l)) : St W I w l := h.imp fun _ ⟨_, _, _, _, b, _, q⟩ => sepL_up b q
theorem St.drops (h : St W I w (l ++ m)) : St W I w m := h.imp fun _ c => by
  obtain ⟨_, _, _, _, b, _, q⟩ := sepL_append.1 c
  exact sepL_up b q
theorem St.all_open (h : St W I w (HP.all l :: m)) : St W I w (l ++ m) := h.imp fun _ ⟨h1, h2, d, a, b, p, q⟩ => sepL_append.2 ⟨h1, h2, d, a, b, p, q⟩
theorem St.all_shut (h : St W I w (l ++ m)) : St W I w (HP.all l :: m) := h.imp fun _ c => by
  obtain ⟨h1, h2, d, a, b, p, q⟩ := sepL_append.1 c
  exact ⟨h1, h2, d, a, b, p, q⟩
theorem St.ex_open {α : Type} {A : α → HP} (h : St W I w (HP.ex A :: m)) : ∃ x, St W I w (A x :: m) := by
  obtain ⟨k, a, b, h1, h2, d, a', b', ⟨x, p⟩, q⟩ := h.own
  exact ⟨x, h.os, h.tape, h.output, h.base, h.imm, k, a, b, h1, h2, d, a', b', p, q⟩
theorem St.ex_shut {α : Type} {A : α → HP} (x : α) (h : St W I w (A x :: m)) : St W I w (HP.ex A :: m) := h.imp fun _ ⟨h1, h2, d, a', b', p, q⟩ => ⟨h1, h2, d, a', b', ⟨x, p⟩, q⟩
theorem St.pure_open {φ : Prop} (h : St W I w (HP.pure φ :: m)) : φ ∧ St W I w m := by
  obtain ⟨_, _, _, _, _, _, _, _, p, _⟩ := h.own
  exact ⟨p, h.drop⟩
theorem St.pure_shut {φ : Prop} (p : φ) (h : St W I w m) : St W I w (HP.pure φ :: m) := h.imp fun k c => ⟨Hp.nil, k, (Hp.disj_nil _).symm, Hp.nil_sub _, Hp.sub.refl _, p, c⟩
theorem St.imm_open {A : IP} (h : St W I w (HP.imm A :: m)) : A.p I ∧ St W I w m := by
  obtain ⟨_, _, _, _, _, _, _, _, p, _⟩ := h.own
  exact ⟨p, h.drop⟩
theorem St.imm_shut {A : IP} (p : A.p I) (h : St W I w m) : St W I w (HP.imm A :: m) := h.imp fun k c => ⟨Hp.nil, k, (Hp.disj_nil _).symm, Hp.nil_sub _, Hp.sub.refl _, p, c⟩
theorem St.heap {b : Nat} {o : Obj} (h : St W I w (HP.pt b o :: m)) : w.heap[b]? = some o := by
  obtain ⟨k, a, _, h1, h2, _, a', _, p, _⟩ := h.own
  exact a _ _ (a' _ _ p)
theorem St.lt {b : Nat} {o : Obj} (h : St W I w (HP.pt b o :: m)) : b < w.heap.size := (Array.getElem?_eq_some_iff.1 h.heap).1

/-- One block is written (or not), others may be new: what is owned besides is as it was. -/
theorem St.write {b : Nat} {o o' : Obj} (h : St W I w (HP.pt b o :: m)) (hos : w'.os = w.os) (ht : w'.tape = w.tape) (ho : w'.output = w.output) (hb : w'.heap[b]? = some o')
    (hne : ∀ c, c < w.heap.size → c ≠ b → w'.heap[c]? = w.heap[c]?) : St W I w' (HP.pt b o' :: m) := by
  obtain ⟨k, a, dI, h1, h2, d, a', b', p, q⟩ := h.own
  have p' : h1 b = some o := p
  have hI : I b = none := by
    rcases dI b with e | e
    · exact e
    · rw [a' _ _ p'] at e; cases e
  have h2b : h2 b = none := by
    rcases d b with e | e
    · rw [p'] at e; cases e
    · exact e
  have old : ∀ {g : Hp}, g.sub w.hp → g b = none → g.sub w'.hp := fun {g} s e c x hx => by
    have hc : w.heap[c]? = some x := s _ _ hx
    have hlt := (Array.getElem?_eq_some_iff.1 hc).1
    have hcb : c ≠ b := fun q => by subst c; rw [e] at hx; cases hx
    exact (hne c hlt hcb).trans hc
  refine ⟨hos.trans h.os, ht.trans h.tape, ho.trans h.output, h.base, old h.imm hI, (Hp.one b o').join h2, Hp.join_sub (Hp.one_sub hb) (old (b'.trans a) h2b), Hp.disj_join (fun c => ?_) (dI.mono (Hp.sub.refl _) b'), Hp.one b o', h2, ?_, Hp.sub_join_left _ _, Hp.sub_join_right ?_, Hp.one_same b o', q⟩
  · by_cases e : c = b
    · subst c; exact .inl hI
    · exact .inr (by simp [Hp.one, e])
  all_goals
    intro c
    by_cases e : c = b
    · subst c; exact .inr h2b
    · exact .inl (by simp [Hp.one, e])

theorem St.keep (h : St W I w l) (hb : Below w.heap.size w w') : St W I w' l := by
  obtain ⟨k, a, b, c⟩ := h.own
  have old : ∀ {g : Hp}, g.sub w.hp → g.sub w'.hp := fun {g} s c x hx => by
    have hc : w.heap[c]? = some x := s _ _ hx
    exact (hb.block c (Array.getElem?_eq_some_iff.1 hc).1).trans hc
  exact ⟨hb.os.trans h.os, hb.tape.trans h.tape, hb.output.trans h.output, h.base, old h.imm, k, old a, b, c⟩
theorem St.drew (h : St W I w l) : St W I w.drew l := h.keep (Below.refl _ _).drew
theorem St.drewN (h : St W I w l) (n : Nat) : St W I (w.drewN n) l := h.keep ⟨rfl, rfl, rfl, Nat.le_refl _, fun _ _ => rfl⟩

/-- A new block is owned. -/
theorem St.fresh {b : Nat} {o : Obj} (h : St W I w l) (hb : Below w.heap.size w w') (hlt : w.heap.size ≤ b) (ho : w'.heap[b]? = some o) : St W I w' (HP.pt b o :: l) := by
  have h' := h.keep hb
  obtain ⟨k, a, d, c⟩ := h.own
  have none_of : ∀ {g : Hp}, g.sub w.hp → g b = none := fun {g} s => by
    cases e : g b with
    | none => rfl
    | some x =>
      have hc : w.heap[b]? = some x := s _ _ e
      have := (Array.getElem?_eq_some_iff.1 hc).1
      omega
  have old : k.sub w'.hp := fun c x hx => by
    have hc : w.heap[c]? = some x := a _ _ hx
    exact (hb.block c (Array.getElem?_eq_some_iff.1 hc).1).trans hc
  have dk : (Hp.one b o).disj k := fun c => by
    by_cases e : c = b
    · subst c; exact .inr (none_of a)
    · exact .inl (by simp [Hp.one, e])
  refine ⟨h'.os, h'.tape, h'.output, h'.base, h'.imm, (Hp.one b o).join k, Hp.join_sub (Hp.one_sub ho) old, Hp.disj_join (fun c => ?_) d, Hp.one b o, k, dk, Hp.sub_join_left _ _, Hp.sub_join_right dk, Hp.one_same b o, c⟩
  by_cases e : c = b
  · subst c; exact .inl (none_of h.imm)
  · exact .inr (by simp [Hp.one, e])
theorem St.alloc (h : St W I w l) (o : Obj) : St W I (w.alloc o) (HP.pt w.heap.size o :: l) :=
  h.fresh ((Below.refl _ _).alloc (Nat.le_refl _) _) (Nat.le_refl _) (heap_alloc_new w o)
theorem St.setCell {b : Nat} {cs : Array Value} {t : TypeId} {f : Nat × Nat} (h : St W I w (HP.pt b (.cells cs t f) :: l)) (i : Nat) (v : Value) : St W I (w.setCell ⟨b, i, none⟩ v) (HP.pt b (.cells (cs.setIfInBounds i v) t f) :: l) := by
  refine h.write rfl rfl rfl ?_ fun c _ hc => Below.heap_setCell w _ _ _ hc
  have := h.heap
  simp [World.setCell, Array.getElem?_modify, this]
/-- What is owned is from now on never written again. -/
theorem St.freeze {b : Nat} {o : Obj} (h : St W I w (HP.pt b o :: l)) : ∃ I' : Hp, I.sub I' ∧ I' b = some o ∧ St W I' w l := by
  obtain ⟨k, a, d, h1, h2, d', a', b', p, q⟩ := h.own
  have p' : h1 b = some o := p
  have hd : I.disj (Hp.one b o) := (d.mono (Hp.sub.refl _) a').mono (Hp.sub.refl _) (Hp.one_sub p')
  have hd2 : (Hp.one b o).disj h2 := d'.mono (Hp.one_sub p') (Hp.sub.refl _)
  refine ⟨I.join (Hp.one b o), Hp.sub_join_left _ _, Hp.sub_join_right hd _ _ (Hp.one_same b o), h.os, h.tape, h.output, h.base.trans (Hp.sub_join_left _ _), Hp.join_sub h.imm (Hp.one_sub (a _ _ (a' _ _ p'))), h2, b'.trans a, ?_, sepL_mono (Hp.sub_join_left _ _) q⟩
  exact (Hp.disj_join (d.mono (Hp.sub.refl _) b').symm hd2.symm).symm
/-- All that is new is from now on never written again. -/
theorem St.settle (h : St W I w l) (hb : Below w.heap.size w w') : ∃ I' : Hp, I.sub I' ∧ (∀ b o, w.heap.size ≤ b → w'.heap[b]? = some o → I' b = some o) ∧ St W I' w' l := by
  have h' := h.keep hb
  obtain ⟨k, a, d, c⟩ := h.own
  let N : Hp := fun b => if w.heap.size ≤ b then w'.heap[b]? else none
  have hN : ∀ {g : Hp}, g.sub w.hp → g.disj N := fun {g} s b => by
    by_cases e : w.heap.size ≤ b
    · left
      cases e' : g b with
      | none => rfl
      | some x =>
        have hc : w.heap[b]? = some x := s _ _ e'
        have := (Array.getElem?_eq_some_iff.1 hc).1
        omega
    · exact .inr (by simp [N, e])
  have hNs : N.sub w'.hp := fun b o e => by
    by_cases e' : w.heap.size ≤ b
    · exact (by simpa [N, e'] using e : w'.heap[b]? = some o)
    · simp [N, e'] at e
  have old : k.sub w'.hp := fun c x hx => by
    have hc : w.heap[c]? = some x := a _ _ hx
    exact (hb.block c (Array.getElem?_eq_some_iff.1 hc).1).trans hc
  refine ⟨I.join N, Hp.sub_join_left _ _, fun b o e f => Hp.sub_join_right (hN h.imm) _ _ (by simp [N, e, f]), h'.os, h'.tape, h'.output, h'.base.trans (Hp.sub_join_left _ _), Hp.join_sub h'.imm hNs, k, old, ?_, sepL_mono (Hp.sub_join_left _ _) c⟩
  exact (Hp.disj_join d.symm (hN a)).symm
theorem St.sub_hp (h : St W I w l) : I.sub w.hp := h.imm
theorem St.imm_heap (h : St W I w l) {b : Nat} {o : Obj} (e : I b = some o) : w.heap[b]? = some o := h.imm _ _ e
/-- Two that are owned are two. -/
theorem St.ne {b c : Nat} {o q : Obj} (h : St W I w (HP.pt b o :: HP.pt c q :: l)) : b ≠ c := by
  rintro rfl
  obtain ⟨k, a, dI, h1, h2, d, a', b', p, h3, h4, d', a'', b'', p', _⟩ := h.own
  rcases d b with e | e
  · rw [show h1 b = some o from p] at e; cases e
  · rw [a'' _ _ (show h3 b = some q from p')] at e; cases e
end

section
variable {W w w' : World} {I : Hp} {l : List HP} {e : TypeId} {size : Nat} {v v' : Value} {n n' : Nat} {xs xs' : List Value}
/-- The row's block by itself, where there is one. -/
theorem St.row_open (h : St W I w (HP.row e size v n xs :: l)) : xs.length = n * size ∧ ((v = .slice none 0 0 ∧ n = 0 ∧ St W I w l) ∨
    ∃ g cap cur, v = .slice (some ⟨g, 0, none⟩) n cap ∧ n ≤ cap ∧ cap ≤ maxLen ∧ cur.size = cap * size ∧ cur.toList.take (n * size) = xs ∧ St W I w (HP.pt g (.cells cur e (0, 0)) :: l)) := by
  have hd := h.drop
  obtain ⟨k, a, d, h1, h2, d', a', b', ⟨hl, p⟩, q⟩ := h.own
  refine ⟨hl, ?_⟩
  rcases p with ⟨p1, p2⟩ | ⟨g, cap, cur, p1, p2, p3, p4, p5, p6⟩
  · exact .inl ⟨p1, p2, hd⟩
  · exact .inr (⟨g, cap, cur, p1, p3, p4, p5, p6, h.os, h.tape, h.output, h.base, h.imm, k, a, d, h1, h2, d', a', b', p2, q⟩)
theorem St.row_nil (h : St W I w l) (e : TypeId) (size : Nat) : St W I w (HP.row e size (.slice none 0 0) 0 [] :: l) :=
  h.imp fun k c => ⟨Hp.nil, k, (Hp.disj_nil _).symm, Hp.nil_sub _, Hp.sub.refl _, ⟨by simp, .inl ⟨rfl, rfl⟩⟩, c⟩
theorem St.row_shut {g cap : Nat} {cur : Array Value} (h : St W I w (HP.pt g (.cells cur e (0, 0)) :: l)) (hx : xs.length = n * size) (hn : n ≤ cap) (hc : cap ≤ maxLen) (hs : cur.size = cap * size) (ht : cur.toList.take (n * size) = xs) :
    St W I w (HP.row e size (.slice (some ⟨g, 0, none⟩) n cap) n xs :: l) :=
  h.imp fun _ ⟨h1, h2, d', a', b', p2, q⟩ => ⟨h1, h2, d', a', b', ⟨hx, .inr ⟨g, cap, cur, rfl, p2, hn, hc, hs, ht⟩⟩, q⟩
theorem St.row_len (h : St W I w (HP.row e size v n xs :: l)) : xs.length = n * size := h.row_open.1
/-- nil or a block of its own: the kit's word for it. -/
theorem St.row_owns (h : St W I w (HP.row e size v n xs :: l)) : w.ownsRow 0 e size v n xs := by
  obtain ⟨hl, p⟩ := h.row_open
  refine ⟨hl, ?_⟩
  rcases p with ⟨p1, p2, _⟩ | ⟨g, cap, cur, p1, p3, p4, p5, p6, s⟩
  · exact .inl ⟨p1, p2⟩
  · exact .inr ⟨g, cap, cur, p1, Nat.zero_le _, s.heap, p3, p4, p5, p6⟩
/-- A row that was made anew, or that has grown. -/
theorem St.row_fresh (h : St W I w l) (hb : Below w.heap.size w w') (ho : w'.ownsRow w.heap.size e size v n xs) : St W I w' (HP.row e size v n xs :: l) := by
  obtain ⟨hl, p⟩ := ho
  rcases p with ⟨rfl, rfl⟩ | ⟨g, cap, cur, rfl, hg, hc, h1, h2, h3, h4⟩
  · simp at hl
    subst hl
    exact (h.keep hb).row_nil e size
  · exact (h.fresh hb hg hc).row_shut hl h1 h2 h3 h4
theorem below_of_grown_none (h : w.grownBy w' none) : Below w.heap.size w w' := ⟨h.os, h.tape, h.output, h.size, fun k hk => h.block k hk (by simp)⟩
theorem St.row_grown (h : St W I w (HP.row e size v n xs :: l)) (ho : w'.ownsRow 0 e size v' n' xs') (hg : w.grownBy w' v.ownBlock) (hv : v'.ownBlock = v.ownBlock ∨ v'.ownBlock = some w.heap.size) : St W I w' (HP.row e size v' n' xs' :: l) := by
  obtain ⟨hl, p⟩ := h.row_open
  obtain ⟨hl', p'⟩ := ho
  rcases p with ⟨rfl, rfl, s⟩ | ⟨g, cap, cur, rfl, p3, p4, p5, p6, s⟩
  · have hb := below_of_grown_none hg
    rcases p' with ⟨rfl, rfl⟩ | ⟨g, cap, cur, rfl, _, hc, h1, h2, h3, h4⟩
    · simp at hl'
      subst hl'
      exact (s.keep hb).row_nil e size
    · rcases hv with hv | hv
      · simp [Value.ownBlock] at hv
      · simp [Value.ownBlock] at hv
        subst hv
        exact (s.fresh hb (Nat.le_refl _) hc).row_shut hl' h1 h2 h3 h4
  · rcases p' with ⟨rfl, rfl⟩ | ⟨g', cap', cur', rfl, _, hc, h1, h2, h3, h4⟩
    · rcases hv with hv | hv <;> simp [Value.ownBlock] at hv
    · have hne : ∀ c, c < w.heap.size → c ≠ g → w'.heap[c]? = w.heap[c]? := fun c hc hcg => hg.block c hc (by simpa [Value.ownBlock] using hcg)
      simp only [Value.ownBlock, Option.some.injEq] at hv
      rcases hv with hv | hv
      · subst hv
        exact (s.write hg.os hg.tape hg.output hc hne).row_shut hl' h1 h2 h3 h4
      · subst hv
        -- the old block is let go
        have hlt := s.lt
        obtain ⟨o, ho⟩ : ∃ o, w'.heap[g]? = some o := ⟨_, Array.getElem?_eq_getElem (Nat.lt_of_lt_of_le hlt hg.size)⟩
        have s2 := s.write (w' := { w' with heap := w.heap.set g o }) (o' := o) (by exact hg.os) (by exact hg.tape) (by exact hg.output) (by simp) (fun c hc hcg => by simp [Array.getElem?_set, Ne.symm hcg])
        have hb : Below w.heap.size ({ w' with heap := w.heap.set g o } : World) w' := ⟨rfl, rfl, rfl, by simpa using hg.size, fun k hk => by
          by_cases e : k = g
          · subst k; simp [ho]
          · simp [Array.getElem?_set, Ne.symm e, hne k hk e]⟩
        exact (s2.drop.fresh (w := { w' with heap := w.heap.set g o }) (by simpa using hb) (by simp) hc).row_shut hl' h1 h2 h3 h4
end
theorem find_here {α : Type} {B : α} {l : List α} : (B :: l).Perm (B :: l) := List.Perm.refl _
theorem find_there {α : Type} {A B : α} {l k : List α} (h : l.Perm (B :: k)) : (A :: l).Perm (B :: A :: k) := (h.cons A).trans (List.Perm.swap _ _ _)
theorem perm_step {α : Type} {B : α} {l k m : List α} (h1 : l.Perm (B :: k)) (h2 : k.Perm m) : l.Perm (B :: m) := h1.trans (h2.cons B)
example {α : Type} (a b c d : α) (l : List α) : (a :: b :: c :: d :: l).Perm (d :: b :: a :: c :: l) := by ((try simp only [List.eraseIdx_cons_succ, List.eraseIdx_cons_zero, List.cons_append, List.nil_append]); repeat (first | with_reducible exact List.Perm.refl _ | (apply perm_step; (· repeat (first | with_reducible exact find_here | with_reducible apply find_there)))))
example {α : Type} (a b c d : α) (l : List α) : ((a :: b :: c :: d :: l).eraseIdx 2).Perm (d :: b :: a :: l) := by ((try simp only [List.eraseIdx_cons_succ, List.eraseIdx_cons_zero, List.cons_append, List.nil_append]); repeat (first | with_reducible exact List.Perm.refl _ | (apply perm_step; (· repeat (first | with_reducible exact find_here | with_reducible apply find_there)))))
end Go.Proofs.Ytnokhjhhadnckaa
