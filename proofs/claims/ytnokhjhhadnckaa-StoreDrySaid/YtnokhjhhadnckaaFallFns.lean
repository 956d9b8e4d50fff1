/- What a fall leaves, as plain data; what is kept by it. -/
import Derived.Test.YtnokhjhhadnckaaLeft
import Derived.Test.YtnokhjhhadnckaaFuse
import Derived.Test.YtnokhjhhadnckaaSortKeys
set_option linter.unusedSimpArgs false
set_option linter.unusedVariables false
set_option linter.unusedSectionVars false
namespace Go.Proofs.Ytnokhjhhadnckaa
open Go.RowKit
def keepAt (keep : List Int) (i : Nat) : Int := (keep[i]?).getD 0
def dryPut (L : List (K4 × TS)) (k : K4) : Option TS → List (K4 × TS)
  | none => del k L
  | some t => put k t L
def fallK (S : Str) (k : K4) (n torn : Int) : Str :=
  let S1 := showS S k (wrap64 (sizeO (get k S.seen))) (leftS S k n torn).1
  { S1 with dry := dryPut S.dry k (leftS S k n torn).1 }
def fallL (keep : List Int) (torn : Int) : List K4 → Nat → Str → Int → Str × Int
  | [], _, S, n => (S, n)
  | k :: ks, i, S, n => fallL keep torn ks (i + 1) (fallK S k (keepAt keep i) torn) (wrap64 (n + (leftS S k (keepAt keep i) torn).2))
def fallEnd (S : Str) : Str := fuseS { S with late := [], wet := 0, on := false } (-1) [] 0
/-- What the store keeps between two calls. m: how many keys more it may take. -/
structure Inv (S : Str) (m : Nat) : Prop where
  rise : ∀ g, Rising (keysAt S g)
  many : ∀ g, (keysAt S g).length + m ≤ 100000
  seen : ∀ x ∈ S.seen, x.2.small
  dry : ∀ x ∈ S.dry, x.2.small
  late : ∀ x ∈ S.late, ∀ d ∈ x.2, d.fits
  lateN : ∀ x ∈ S.late, x.2.length ≤ 100000
theorem Inv.lateAt {S : Str} {m : Nat} (h : Inv S m) (k : K4) : (lateAt S k).length ≤ 100000 ∧ ∀ d ∈ lateAt S k, d.fits := by
  unfold Go.Proofs.Ytnokhjhhadnckaa.lateAt
  cases hg : get k S.late with
  | none => exact ⟨by simp, fun d hd => by simp at hd⟩
  | some x => exact ⟨h.lateN _ (get_mem hg), h.late _ (get_mem hg)⟩
theorem get_small {L : List (K4 × TS)} (h : ∀ x ∈ L, x.2.small) (k : K4) : smallO (get k L) := by
  cases hg : get k L with
  | none => trivial
  | some t => exact h _ (get_mem hg)
theorem left_small {S : Str} {m : Nat} (h : Inv S m) (k : K4) (n torn : Int) : smallO (leftS S k n torn).1 := by
  have h1 := small_fold (l := (lateAt S k).take (keptN n (lateAt S k).length)) (get_small h.dry k) (fun d hd => (h.lateAt k).2 d (List.mem_of_mem_take hd))
  unfold leftS
  simp only
  split
  · rename_i d hd
    split
    · exact small_step h1 (torn_fits ((h.lateAt k).2 d (List.mem_of_getElem? hd)))
    · exact h1
  · exact h1
theorem rising_rem {ks : List K4} {k : K4} (h : Rising ks) : Rising (remK k ks) := List.Pairwise.filter _ h
theorem rising_add {ks : List K4} {k : K4} (h : Rising ks) (hk : k ∉ ks) : Rising (addK k ks) := by
  unfold addK
  refine List.pairwise_append.2 ⟨List.Pairwise.filter _ h, List.pairwise_cons.2 ⟨fun a ha => ?_, List.Pairwise.filter _ h⟩, fun a ha b hb => ?_⟩
  · have h1 := List.mem_filter.1 ha
    have hne : a ≠ k := fun e => hk (e ▸ h1.1)
    have h2 : a.lt k = false := by simpa using h1.2
    rw [Bool.eq_false_iff] at h2
    obtain ⟨a0, a1, a2, a3⟩ := a
    obtain ⟨b0, b1, b2, b3⟩ := k
    simp only [K4.lt, ne_eq, decide_eq_true_eq, K4.mk.injEq] at h2 hne ⊢
    omega
  · have h1 := (List.mem_filter.1 ha).2
    rcases List.mem_cons.1 hb with rfl | hb
    · exact h1
    · have h2 : b.lt k = false := by simpa using (List.mem_filter.1 hb).2
      rw [Bool.eq_false_iff] at h2
      obtain ⟨a0, a1, a2, a3⟩ := a
      obtain ⟨b0, b1, b2, b3⟩ := b
      obtain ⟨k0, k1, k2, k3⟩ := k
      simp only [K4.lt, ne_eq, decide_eq_true_eq] at h1 h2 ⊢
      omega
theorem len_rem (ks : List K4) (k : K4) : (remK k ks).length ≤ ks.length := List.length_filter_le _ _
theorem len_add (ks : List K4) (k : K4) : (addK k ks).length ≤ ks.length + 1 := by
  unfold addK
  rw [List.length_append, List.length_cons]
  have h : (ks.filter fun a => a.lt k).length + (ks.filter fun a => !a.lt k).length = ks.length := by
    induction ks with
    | nil => rfl
    | cons a ks ih => simp only [List.filter_cons]; cases a.lt k <;> simp <;> omega
  omega
theorem keysAt_put {S : Str} {L : List (G2 × List K4)} {g g' : G2} {x : List K4} : (get g (put g' x L)).getD [] = if g = g' then x else (get g L).getD [] := by
  by_cases e : g = g'
  · subst e; simp [get_put_same]
  · simp [get_put_ne e, e]
theorem show_inv {S : Str} {m : Nat} {k : K4} {was : Int} {o : Option TS} (h : Inv S (m + 1)) (ho : smallO o) : Inv (showS S k was o) m := by
  have hk : ∀ g, keysAt (showS S k was o) g = keysAt S g ∨ (g = k.grp ∧ ((k ∈ keysAt S g ∧ keysAt (showS S k was o) g = remK k (keysAt S g)) ∨ (k ∉ keysAt S g ∧ keysAt (showS S k was o) g = addK k (keysAt S g)))) := fun g => by
    cases o with
    | none =>
      by_cases hm : k ∈ keysAt S k.grp
      · by_cases e : g = k.grp
        · subst e
          right
          refine ⟨rfl, .inl ⟨hm, ?_⟩⟩
          show (get k.grp (showS S k was none).keys).getD [] = _
          simp only [showS, hm, if_true, get_put_same, Option.getD_some]
        · left
          show (get g (showS S k was none).keys).getD [] = _
          simp only [showS, hm, if_true, get_put_ne e]
          rfl
      · left
        show (get g (showS S k was none).keys).getD [] = _
        simp only [showS, hm, if_false]
        rfl
    | some t =>
      by_cases hm : k ∈ keysAt S k.grp
      · left
        show (get g (showS S k was (some t)).keys).getD [] = _
        simp only [showS, hm, if_true]
        rfl
      · by_cases e : g = k.grp
        · subst e
          right
          refine ⟨rfl, .inr ⟨hm, ?_⟩⟩
          show (get k.grp (showS S k was (some t)).keys).getD [] = _
          simp only [showS, hm, if_false, get_put_same, Option.getD_some]
        · left
          show (get g (showS S k was (some t)).keys).getD [] = _
          simp only [showS, hm, if_false, get_put_ne e]
          rfl
  refine ⟨fun g => ?_, fun g => ?_, ?_, h.dry, h.late, h.lateN⟩
  · rcases hk g with e | ⟨_, ⟨_, e⟩ | ⟨hm, e⟩⟩
    · rw [e]; exact h.rise g
    · rw [e]; exact rising_rem (h.rise g)
    · rw [e]; exact rising_add (h.rise g) hm
  · have h1 := h.many g
    rcases hk g with e | ⟨_, ⟨_, e⟩ | ⟨hm, e⟩⟩
    · rw [e]; omega
    · rw [e]; have := len_rem (keysAt S g) k; omega
    · rw [e]; have := len_add (keysAt S g) k; omega
  · intro x hx
    cases o with
    | none => exact h.seen x (List.mem_filter.1 hx).1
    | some t =>
      rcases List.mem_cons.1 hx with rfl | hx
      · exact ho
      · exact h.seen x (List.mem_filter.1 hx).1
theorem fall_inv {S : Str} {m : Nat} {k : K4} {n torn : Int} (h : Inv S (m + 1)) : Inv (fallK S k n torn) m := by
  have hl := left_small h k n torn
  have h1 := show_inv (k := k) (was := wrap64 (sizeO (get k S.seen))) h hl
  refine ⟨h1.rise, h1.many, h1.seen, ?_, h.late, h.lateN⟩
  intro x hx
  show x.2.small
  have hx' : x ∈ dryPut S.dry k (leftS S k n torn).1 := hx
  revert hx' hl
  cases (leftS S k n torn).1 with
  | none => exact fun _ hx' => h.dry x (List.mem_filter.1 hx').1
  | some t =>
    intro hl hx'
    rcases List.mem_cons.1 hx' with rfl | hx'
    · exact hl
    · exact h.dry x (List.mem_filter.1 hx').1
theorem Inv.less {S : Str} {m m' : Nat} (h : Inv S m) (hm : m' ≤ m) : Inv S m' := ⟨h.rise, fun g => by have := h.many g; omega, h.seen, h.dry, h.late, h.lateN⟩
section
variable {W w : World} {I : Hp} {l : List HP} {p : Nat}
/-- A look at a map of objects: what is there, or none. -/
theorem St.look_opt {b : Nat} {L : List (K4 × TS)} (h : St W I w (HP.mapOf keyKT thingHP b L :: l)) (a : K4) :
    ∃ v H, (∀ w2, Below w.heap.size w w2 → (Instr.lookup 85 (.map (some b)) (keyKT.kv a) false).run Try.prog w2 = .ok v w2) ∧ St W I w (optHP v (get a L) :: H :: l) ∧
      (∀ I' w' l', St W I' w' (optHP v (get a L) :: H :: l') → St W I' w' (HP.mapOf keyKT thingHP b L :: l')) := by
  have hn := h.mapOf_nodup
  rcases h.mapOf_look Try.underlying85 (z := .pointer none) (fun w => by kernel_rfl) a with ⟨hg, hl⟩ | ⟨v, x, hg, hl, h1⟩
  · exact ⟨.pointer none, HP.mapOf keyKT thingHP b L, fun w2 hw => hl w2 hw false, by rw [hg]; exact St.pure_shut rfl h, fun I' w' l' h' => h'.drop⟩
  · refine ⟨v, HP.hole keyKT thingHP b a v (del a L), fun w2 hw => hl w2 hw false, by rw [hg]; exact h1, fun I' w' l' h' => ?_⟩
    rw [hg] at h'
    exact (St.hole_back h').mapOf_perm (perm_of_get hn hg).symm
end
end Go.Proofs.Ytnokhjhhadnckaa
