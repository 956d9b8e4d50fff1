/- Words on memory for this seat's walks: a slice of tags that reads as a list of tags. No program in sight. What the chain's and the role's functions compute, as plain functions on lists of tags. No program in sight. Small words that every walk of this seat uses. Tag. Right. Hist. A slice of tags as a source of an append, and a row that the call owns read as a slice of tags. Clone. Next. More. role.Peer, role.Demote. Note. -/
import Derived.Below
import Derived.Laws.OwnMore
import Derived.Deep.AppendLies
import Derived.Deep.Draws
import Derived.Lib.Hide
import Derived.Test.YtnokhjhhadnckaaBits
import Derived.Test.YtnokhjhhadnckaaProg
import Derived.WalkKit
import Derived.WalkSpells
import Derived.WalkLawsBesides
import Derived.Deep.RegionWith
import Derived.Deep.RegionHeld3
import Derived.BigQuiet
import Derived.Test.YtnokhjhhadnckaaAppend
/- Words on memory for this seat's walks: a slice of tags that reads as a list of tags. No program in sight. -/
set_option linter.unusedSimpArgs false
set_option linter.unusedVariables false
set_option linter.unusedSectionVars false
namespace Go.Proofs.Ytnokhjhhadnckaa
open Go.RowKit

structure Tag where
  id : Int
  own : Int
  heir : Int
  at_ : Int

def Tag.val (t : Tag) : Value := .agg #[.int .i64 t.id, .int .i64 t.own, .int .i64 t.heir, .int .i64 t.at_]
def Tag.vals (t : Tag) : List Value := [.int .i64 t.id, .int .i64 t.own, .int .i64 t.heir, .int .i64 t.at_]

/-- The slice value '.slice A n c' reads as the list l of tags, and lies in the world's heap. -/
def TagsAt (w : World) (A : Option Addr) (n : Nat) (l : List Tag) : Prop :=
  l.length = n ∧ (0 < n → ∃ b off, A = some ⟨b, off, none⟩ ∧ b < w.heap.size ∧ ∀ i t, l[i]? = some t →
    w.cell? ⟨b, off + i * 4, none⟩ = some (.int .i64 t.id) ∧ w.cell? ⟨b, off + i * 4 + 1, none⟩ = some (.int .i64 t.own) ∧
    w.cell? ⟨b, off + i * 4 + 2, none⟩ = some (.int .i64 t.heir) ∧ w.cell? ⟨b, off + i * 4 + 3, none⟩ = some (.int .i64 t.at_))

theorem TagsAt.nil (w : World) : TagsAt w none 0 [] := ⟨rfl, fun h => absurd h (by omega)⟩
theorem TagsAt.zero (w : World) (A : Option Addr) : TagsAt w A 0 [] := ⟨rfl, fun h => absurd h (by omega)⟩
theorem TagsAt.len {w : World} {A : Option Addr} {n : Nat} {l : List Tag} (h : TagsAt w A n l) : l.length = n := h.1

theorem TagsAt.below {w w' : World} {A : Option Addr} {n : Nat} {l : List Tag} {B : Nat} (h : TagsAt w A n l) (hb : Below B w w') (hB : w.heap.size ≤ B) : TagsAt w' A n l :=
  ⟨h.1, fun hn => by
    obtain ⟨b, off, e, hlt, hc⟩ := h.2 hn
    refine ⟨b, off, e, Nat.lt_of_lt_of_le hlt hb.size, fun i t hi => ?_⟩
    obtain ⟨c0, c1, c2, c3⟩ := hc i t hi
    have k : ∀ o, w'.cell? ⟨b, o, none⟩ = w.cell? ⟨b, o, none⟩ := fun o => hb.cell (p := ⟨b, o, none⟩) (by simp; omega)
    exact ⟨(k _).trans c0, (k _).trans c1, (k _).trans c2, (k _).trans c3⟩⟩

theorem TagsAt.take {w : World} {A : Option Addr} {n : Nat} {l : List Tag} (h : TagsAt w A n l) {k : Nat} (hk : k ≤ n) : TagsAt w A k (l.take k) :=
  ⟨by rw [List.length_take, h.1]; omega, fun hn => by
    obtain ⟨b, off, e, hlt, hc⟩ := h.2 (by omega)
    refine ⟨b, off, e, hlt, fun i t hi => hc i t ?_⟩
    rw [List.getElem?_take] at hi
    split at hi
    · exact hi
    · cases hi⟩
/-- At an index: the address and the four cells. -/
theorem TagsAt.at_ {w : World} {A : Option Addr} {n : Nat} {l : List Tag} (h : TagsAt w A n l) {k : Nat} (hk : k < n) :
    ∃ b off t, A = some ⟨b, off, none⟩ ∧ b < w.heap.size ∧ l[k]? = some t ∧
    w.cell? ⟨b, off + k * 4, none⟩ = some (.int .i64 t.id) ∧ w.cell? ⟨b, off + k * 4 + 1, none⟩ = some (.int .i64 t.own) ∧
    w.cell? ⟨b, off + k * 4 + 2, none⟩ = some (.int .i64 t.heir) ∧ w.cell? ⟨b, off + k * 4 + 3, none⟩ = some (.int .i64 t.at_) := by
  obtain ⟨b, off, e, hlt, hc⟩ := h.2 (by omega)
  have hl : k < l.length := by have := h.1; omega
  exact ⟨b, off, l[k], e, hlt, List.getElem?_eq_getElem hl, hc k _ (List.getElem?_eq_getElem hl)⟩

end Go.Proofs.Ytnokhjhhadnckaa
/- What the chain's and the role's functions compute, as plain functions on lists of tags. No program in sight. -/
namespace Go.Proofs.Ytnokhjhhadnckaa

def noDup (t : Tag) (l : List Tag) : Bool := l.all fun x => x.id != t.id
def lastAt (l : List Tag) : Int := (l.getLast?.map Tag.at_).getD 0
theorem lastAt_nil : lastAt [] = 0 := rfl
theorem lastAt_snoc (l : List Tag) (t : Tag) : lastAt (l ++ [t]) = t.at_ := by simp [lastAt]
theorem noDup_snoc (t x : Tag) (l : List Tag) : noDup t (l ++ [x]) = (noDup t l && (x.id != t.id)) := by simp [noDup]
theorem take_snoc {α : Type} {l : List α} {k : Nat} {t : α} (h : l[k]? = some t) : l.take (k + 1) = l.take k ++ [t] := by
  obtain ⟨hk, he⟩ := List.getElem?_eq_some_iff.1 h
  rw [List.take_succ_eq_append_getElem hk, he]

/-- The tag by itself, behind so many, the last of which begins at 'at'. -/
def fieldsOk (t : Tag) (n : Nat) (at_ : Int) : Prop :=
  ¬ (n = 0 ∧ t.at_ ≠ 0) ∧ ¬ t.at_ < at_ ∧ t.at_ ≤ 1099511627776 ∧ 1 ≤ t.id ∧ t.id ≤ 1073741824 ∧ 0 ≤ t.own ∧ t.own ≤ 2 ∧
  (0 < t.own → t.heir = 0) ∧ (¬ 0 < t.own → 1 ≤ t.heir ∧ t.heir ≤ 2)
instance (t : Tag) (n : Nat) (a : Int) : Decidable (fieldsOk t n a) := by unfold fieldsOk; infer_instance
def tagOk (t : Tag) (l : List Tag) : Bool := noDup t l && decide (fieldsOk t l.length (lastAt l))

theorem tagOk_dup {t x : Tag} {l : List Tag} {k : Nat} (hx : l[k]? = some x) (h : (x.id == t.id) = true) : tagOk t l = false := by
  have hm : x ∈ l := List.mem_of_getElem? hx
  have : noDup t l = false := by
    rw [noDup, List.all_eq_false]
    exact ⟨x, hm, by simpa using h⟩
  simp [tagOk, this]
theorem tagOk_take {t : Tag} {l : List Tag} {k n : Nat} (hl : l.length = n) (hk : k ≤ n) (hn : ¬ k < n) (h : noDup t (l.take k) = true) {b : Bool}
    (hb : b = true ↔ fieldsOk t n (lastAt (l.take k))) : b = tagOk t l := by
  obtain rfl : k = n := by omega
  rw [List.take_of_length_le (by omega)] at h hb
  rw [tagOk, h, hl, Bool.true_and, Bool.eq_iff_iff, hb, decide_eq_true_eq]
theorem noDup_more {t x : Tag} {l : List Tag} {k : Nat} (hx : l[k]? = some x) (h : (x.id == t.id) = false) (hd : noDup t (l.take k) = true) : noDup t (l.take (k + 1)) = true := by
  rw [take_snoc hx, noDup_snoc, hd]
  simpa using h
theorem lastAt_more {x : Tag} {l : List Tag} {k : Nat} (hx : l[k]? = some x) : lastAt (l.take (k + 1)) = x.at_ := by
  rw [take_snoc hx, lastAt_snoc]

/-- All tags up to the k-th may be, each behind those ahead of it. -/
def okUpto (l : List Tag) : Nat → Bool
  | 0 => true
  | k + 1 => okUpto l k && (match l[k]? with | some t => tagOk t (l.take k) | none => true)
def rightB (l : List Tag) : Bool := decide (1 ≤ l.length ∧ l.length ≤ 32) && okUpto l l.length
theorem okUpto_more {l : List Tag} {k : Nat} {t : Tag} (ht : l[k]? = some t) (h : okUpto l k = true) : okUpto l (k + 1) = tagOk t (l.take k) := by
  simp [okUpto, h, ht]
theorem okUpto_mono {l : List Tag} {k : Nat} (h : okUpto l k = false) (j : Nat) : okUpto l (k + j) = false := by
  induction j with
  | zero => exact h
  | succ j ih => rw [Nat.add_succ, okUpto, ih, Bool.false_and]
theorem rightB_not {l : List Tag} {k n : Nat} {t : Tag} (hl : l.length = n) (hk : k < n) (ht : l[k]? = some t) (h : okUpto l k = true) (hf : tagOk t (l.take k) = false) : rightB l = false := by
  have h1 := okUpto_mono (l := l) (k := k + 1) (by rw [okUpto_more ht h, hf]) (n - (k + 1))
  rw [rightB, hl, show n = k + 1 + (n - (k + 1)) by omega, h1, Bool.and_false]

def maxIds (l : List Tag) : Int := l.foldl (fun n t => max n t.id) 0
def highId (l : List Tag) : Bool := l.any fun t => decide (1073741824 < t.id)
def nextOdd (n s : Int) : Int := if (decide (n % 2 = 1)) = (decide (s = 1)) then n else n + 1
def nextId (l : List Tag) (s : Int) : Int := if highId l then 0 else nextOdd (maxIds l + 1) s
theorem maxIds_snoc (l : List Tag) (t : Tag) : maxIds (l ++ [t]) = max (maxIds l) t.id := by simp [maxIds]
theorem highId_snoc (l : List Tag) (t : Tag) : highId (l ++ [t]) = (highId l || decide (1073741824 < t.id)) := by simp [highId]
theorem maxIds_more {l : List Tag} {k : Nat} {t : Tag} (h : l[k]? = some t) : maxIds (l.take (k + 1)) = if maxIds (l.take k) < t.id then t.id else maxIds (l.take k) := by
  rw [take_snoc h, maxIds_snoc]; omega
theorem highId_more {l : List Tag} {k : Nat} {t : Tag} (h : l[k]? = some t) (hf : highId (l.take k) = false) : highId (l.take (k + 1)) = decide (1073741824 < t.id) := by
  rw [take_snoc h, highId_snoc, hf, Bool.false_or]
theorem highId_at {l : List Tag} {k : Nat} {t : Tag} (h : l[k]? = some t) (hf : 1073741824 < t.id) : highId l = true := by
  rw [highId, List.any_eq_true]
  exact ⟨t, List.mem_of_getElem? h, by simpa using hf⟩
theorem nextId_high {l : List Tag} {k : Nat} {t : Tag} (h : l[k]? = some t) (hf : 1073741824 < t.id) (s : Int) : 0 = nextId l s := by
  rw [nextId, highId_at h hf]; rfl
theorem nextId_low {l : List Tag} {k n : Nat} (hl : l.length = n) (hk : k ≤ n) (hn : ¬ k < n) (hf : highId (l.take k) = false) {m r : Int} (hm : m = maxIds (l.take k)) {s : Int} (hr : r = nextOdd (m + 1) s) : r = nextId l s := by
  obtain rfl : k = n := by omega
  rw [List.take_of_length_le (by omega)] at hf hm
  rw [nextId, hf, hr, hm]; rfl
theorem nextOdd_step {n s : Int} (h : ((n % 2 == 1) == (s == 1)) = false) : n + 1 = nextOdd n s := by
  rw [nextOdd, if_neg]
  rw [beq_eq_false_iff_ne] at h; exact h
theorem nextOdd_stay {n s : Int} (h : ((n % 2 == 1) == (s == 1)) = true) : n = nextOdd n s := by
  rw [nextOdd, if_pos]
  rw [beq_iff_eq] at h; exact h

def Tag.same (a b : Tag) : Bool := a.id == b.id && a.own == b.own && a.heir == b.heir && a.at_ == b.at_
def sameB : List Tag → List Tag → Bool
  | [], [] => true
  | a :: l, b :: r => a.same b && sameB l r
  | _, _ => false
theorem sameB_len : ∀ (l r : List Tag), l.length ≠ r.length → sameB l r = false
  | [], [], h => absurd rfl h
  | [], _ :: _, _ => rfl
  | _ :: _, [], _ => rfl
  | a :: l, b :: r, h => by
    rw [sameB, sameB_len l r (by simpa using h), Bool.and_false]
theorem sameB_take : ∀ {l r : List Tag} {k : Nat} {x y : Tag}, l[k]? = some x → r[k]? = some y → sameB (l.take (k + 1)) (r.take (k + 1)) = (sameB (l.take k) (r.take k) && x.same y)
  | [], _, _, _, _, h, _ => by simp at h
  | _ :: _, [], _, _, _, _, h => by simp at h
  | a :: l, b :: r, 0, x, y, hx, hy => by
    simp at hx hy; subst hx; subst hy
    simp [sameB]
  | a :: l, b :: r, k + 1, x, y, hx, hy => by
    simp at hx hy
    have := sameB_take hx hy
    simp only [List.take_succ_cons, sameB, this, Bool.and_assoc]
theorem sameB_short : ∀ {l r : List Tag} (k : Nat), sameB (l.take k) (r.take k) = false → sameB l r = false
  | _, _, 0, h => by simp [sameB] at h
  | [], [], _ + 1, h => by simp [sameB] at h
  | [], _ :: _, _ + 1, _ => rfl
  | _ :: _, [], _ + 1, _ => rfl
  | a :: l, b :: r, k + 1, h => by
    simp only [List.take_succ_cons, sameB] at h ⊢
    cases hs : a.same b with
    | false => rfl
    | true => rw [hs, Bool.true_and] at h; rw [sameB_short k h, Bool.and_false]
theorem sameB_at {l r : List Tag} {k : Nat} {x y : Tag} (hx : l[k]? = some x) (hy : r[k]? = some y) (h : x.same y = false) : sameB l r = false :=
  sameB_short (k + 1) (by rw [sameB_take hx hy, h, Bool.and_false])
theorem sameB_more {l r : List Tag} {k : Nat} {x y : Tag} (hx : l[k]? = some x) (hy : r[k]? = some y) (hs : sameB (l.take k) (r.take k) = true) (h : x.same y = true) : sameB (l.take (k + 1)) (r.take (k + 1)) = true := by
  rw [sameB_take hx hy, hs, h]; rfl
theorem sameB_whole {l r : List Tag} {k n : Nat} (hl : l.length = n) (hr : r.length = n) (hk : k ≤ n) (hn : ¬ k < n) (h : sameB (l.take k) (r.take k) = true) : sameB l r = true := by
  obtain rfl : k = n := by omega
  rwa [List.take_of_length_le (by omega), List.take_of_length_le (by omega)] at h

/-- A chain with one tag more, and the refusal: no room (6). -/
def moreTags (l : List Tag) (t : Tag) : List Tag × Int := if l.length = 32 ∨ 1073741824 < t.id then ([], 6) else (l ++ [t], 0)

/-- What the document's chain asks of a tag by itself, in its order; the first that falls is told. -/
def refBad (x : Tag) (k : Nat) (prev : Int) : Prop :=
  x.id < 1 ∨ 1073741824 < x.id ∨ x.own < 0 ∨ 2 < x.own ∨ x.heir < 0 ∨ 2 < x.heir ∨ ((x.own = 0) ↔ ¬ 0 < x.heir) ∨ 1099511627776 < x.at_ ∨ (0 < k ∧ x.at_ < prev)
theorem refBad_iff {x : Tag} {k : Nat} {prev : Int} (h0 : k = 0 → x.at_ = 0) (h1 : k = 0 → prev = 0) : refBad x k prev ↔ ¬ fieldsOk x k prev := by
  unfold refBad fieldsOk
  rcases Nat.eq_zero_or_pos k with h | h
  · have := h0 h; have := h1 h; subst h; omega
  · omega
theorem lastAt_take {l : List Tag} {k : Nat} {p : Tag} (h : l[k]? = some p) : lastAt (l.take (k + 1)) = p.at_ := lastAt_more h
theorem tagOk_bad {x : Tag} {l : List Tag} (h : refBad x l.length (lastAt l)) (h0 : l.length = 0 → x.at_ = 0) : tagOk x l = false := by
  have h1 : l.length = 0 → lastAt l = 0 := fun h => by rw [List.length_eq_zero_iff.1 h]; rfl
  rw [tagOk, decide_eq_false ((refBad_iff h0 h1).1 h), Bool.and_false]
theorem tagOk_good {x : Tag} {l : List Tag} (h : ¬ refBad x l.length (lastAt l)) (h0 : l.length = 0 → x.at_ = 0) : tagOk x l = noDup x l := by
  have h1 : l.length = 0 → lastAt l = 0 := fun h => by rw [List.length_eq_zero_iff.1 h]; rfl
  rw [tagOk, decide_eq_true (Decidable.not_not.1 fun hf => h ((refBad_iff h0 h1).2 hf)), Bool.and_true]

/-- The ways through the document's test of a tag, in the walk's own spelling. -/
theorem ref_ways (x : Tag) (k : Nat) (prev : Int) :
    (refBad x k prev ∧ decide (x.id < 1) = true) ∨
    (refBad x k prev ∧ decide (x.id < 1) = false ∧ decide (1073741824 < x.id) = true) ∨
    (decide (x.id < 1) = false ∧ decide (1073741824 < x.id) = false ∧
      ((refBad x k prev ∧ decide (x.own < 0) = true) ∨
       (refBad x k prev ∧ decide (x.own < 0) = false ∧ decide (2 < x.own) = true) ∨
       (decide (x.own < 0) = false ∧ decide (2 < x.own) = false ∧
         ((refBad x k prev ∧ decide (x.heir < 0) = true) ∨
          (refBad x k prev ∧ decide (x.heir < 0) = false ∧ decide (2 < x.heir) = true) ∨
          (decide (x.heir < 0) = false ∧ decide (2 < x.heir) = false ∧
            ((refBad x k prev ∧ (!((x.own == 0) == decide (0 < x.heir))) = true) ∨
             (refBad x k prev ∧ (!((x.own == 0) == decide (0 < x.heir))) = false ∧ decide (1099511627776 < x.at_) = true) ∨
             ((!((x.own == 0) == decide (0 < x.heir))) = false ∧ decide (1099511627776 < x.at_) = false ∧ (refBad x k prev ↔ 0 < k ∧ x.at_ < prev)))))))) := by
  have e : (!((x.own == 0) == decide (0 < x.heir))) = !decide (x.own = 0 ↔ 0 < x.heir) := by
    by_cases h1 : x.own = 0 <;> by_cases h2 : 0 < x.heir <;> simp [h1, h2]
  rw [e]
  simp only [decide_eq_true_eq, decide_eq_false_iff_not, Bool.not_eq_true', Bool.not_eq_false', refBad]
  omega
theorem tagOk_first {x : Tag} (h : x.at_ ≠ 0) : tagOk x [] = false := by
  rw [tagOk, decide_eq_false, Bool.and_false]
  intro hf
  exact hf.1 ⟨rfl, h⟩

def histB (site : Int) (l : List Tag) (to : Int) : Bool := decide (1 ≤ site ∧ site ≤ 2) && rightB l && decide (0 ≤ to ∧ to ≤ 1099511627776 ∧ lastAt l ≤ to)
theorem rightB_len {l : List Tag} (h : rightB l = true) : 1 ≤ l.length ∧ l.length ≤ 32 := by
  rw [rightB, Bool.and_eq_true, decide_eq_true_eq] at h
  exact h.1
theorem lastAt_last {l : List Tag} {m : Nat} {x : Tag} (hl : l.length = m + 1) (h : l[m]? = some x) : lastAt l = x.at_ := by
  rw [← lastAt_take h, List.take_of_length_le (by omega)]
def peerOf (s : Int) : Int := if s = 1 then 2 else 1
def lastIs (l : List Tag) (p : Tag → Prop) [DecidablePred p] : Bool := match l.getLast? with | some t => decide (p t) | none => false
def turnTags (site : Int) (l : List Tag) (own heir to : Int) : List Tag × Int := moreTags l ⟨nextId l site, own, heir, to⟩
def promoteTags (phase site : Int) (l : List Tag) (to : Int) : List Tag × Int :=
  if histB site l to = false then ([], 1) else if phase = 2 then ([], 10) else if phase = 4 then ([], 12)
  else if phase ≠ 3 ∨ lastIs l (fun t => t.own = 0 ∧ t.heir = site ∧ t.at_ = to) = false then ([], 9) else turnTags site l site 0 to
def forceTags (phase site : Int) (l : List Tag) (to : Int) : List Tag × Int :=
  if histB site l to = false then ([], 1) else if phase = 2 then ([], 10) else if phase = 4 then ([], 12)
  else if phase ≠ 3 ∧ phase ≠ 5 then ([], 9) else turnTags site l site 0 to
def demoteTags (phase site : Int) (l : List Tag) (to : Int) : List Tag × Int :=
  if histB site l to = false then ([], 1) else if phase ≠ 1 then ([], 9) else turnTags site l 0 (peerOf site) to
def isPhase (phase site : Int) (l : List Tag) : Int :=
  if phase = 2 then phase else if lastIs l (fun t => t.own = site) = true then 1 else if phase = 1 then 3 else phase
theorem lastIs_last {l : List Tag} {m : Nat} {x : Tag} (hl : l.length = m + 1) (h : l[m]? = some x) (p : Tag → Prop) [DecidablePred p] : lastIs l p = decide (p x) := by
  have : l.getLast? = some x := by rw [List.getLast?_eq_getElem?, hl]; exact h
  rw [lastIs, this]
theorem lastIs_nil (p : Tag → Prop) [DecidablePred p] : lastIs [] p = false := rfl
end Go.Proofs.Ytnokhjhhadnckaa
/- Small words that every walk of this seat uses. -/
namespace Go.Proofs.Ytnokhjhhadnckaa
open Go.RowKit
theorem ret_bool {a b : Bool} (h : a = b) : Ending.returned (.bool a) = .returned (.bool b) := by rw [h]
theorem ret_int {k : IntKind} {a b : Int} (h : a = b) : Ending.returned (.int k a) = .returned (.int k b) := by rw [h]
theorem heap_alloc_old {w : World} {i : Nat} (h : i < w.heap.size) (o : Obj) : (w.alloc o).heap[i]? = w.heap[i]? := Below.heap_alloc w o i h
theorem heap_new_at {w : World} {i : Nat} (h : i = w.heap.size) (o : Obj) : (w.alloc o).heap[i]? = some o := by rw [h]; exact heap_alloc_new w o
theorem block_behind {w w1 : World} {o : Obj} (hb : Below (w.alloc o).heap.size (w.alloc o) w1) : w1.heap[w.heap.size]? = some o := (hb.block _ (by simp)).trans (heap_alloc_new _ _)
theorem frozen_of_row {w : World} {g : Nat} {cs : Array Value} {t : TypeId} (h : w.heap[g]? = some (.cells cs t (0, 0))) (i : Nat) : w.frozen? ⟨g, i, none⟩ = false := by simp [World.frozen?, h]
theorem tag_guard : Try.prog.eqGuardType Try.prog.depth 135 = false := by kernel_rfl
theorem tag_stood : Try.prog.stoodInHeld 135 = false := by kernel_rfl
theorem tag_under : Try.prog.underlying 135 = some (.struct (Try.prog.fieldsOf 135)) := by kernel_rfl
theorem tag_fields : (Try.prog.fieldsOf 135).toList.map (fun f => (f.name == "_", f.type, f.offset)) = [(false, 3, 0), (false, 3, 1), (false, 3, 2), (false, 3, 3)] := by kernel_rfl
theorem tag_eqGuard (op : BinOp) (x y : Operand) (xs ys : Array Value) (w : World) : (eqGuard op 135 x y (.agg xs) (.agg ys)).run Try.prog w = .ok () w := run_eqGuard_agg _ _ _ _ _ _ _ tag_guard
set_option maxRecDepth 100000 in
theorem tag_eqIn (x y : Tag) (w : World) :
    (Op.equalIn 10000 135 (.agg #[.int .i64 x.id, .int .i64 x.own, .int .i64 x.heir, .int .i64 x.at_]) (.agg #[.int .i64 y.id, .int .i64 y.own, .int .i64 y.heir, .int .i64 y.at_])).run Try.prog w = .ok (x.same y) w := by
  rw [run_equalIn_struct w 9999 _ _ _ tag_under tag_stood]
  obtain ⟨fs, hfs⟩ : ∃ fs, (Try.prog.fieldsOf 135).toList = fs := ⟨_, rfl⟩
  have h := tag_fields
  rw [hfs] at h ⊢
  match fs, h with
  | [f0, f1, f2, f3], h =>
    simp only [List.map_cons, List.map_nil, List.cons.injEq, Prod.mk.injEq, beq_eq_false_iff_ne, and_true] at h
    obtain ⟨⟨n0, t0, o0⟩, ⟨n1, t1, o1⟩, ⟨n2, t2, o2⟩, ⟨n3, t3, o3⟩⟩ := h
    simp only [Op.eqFields, n0, n1, n2, n3, t0, t1, t2, t3, o0, o1, o2, o3, ne_eq, not_false_eq_true, if_true]
    simp [go_sem, Tag.same]
    by_cases e0 : x.id = y.id <;> by_cases e1 : x.own = y.own <;> by_cases e2 : x.heir = y.heir <;> by_cases e3 : x.at_ = y.at_ <;> simp [e0, e1, e2, e3]
end Go.Proofs.Ytnokhjhhadnckaa
/- Tag. -/
namespace Go.Proofs.Ytnokhjhhadnckaa
open Go.RowKit
set_option maxHeartbeats 1000000 in
theorem tag_any (t : Tag) (A : Option Addr) (n c : Nat) (l : List Tag) (w : World) (hl : TagsAt w A n l) (hn : n ≤ 1000000) :
    Calls Try.prog 136 #[t.val, .slice A n c] w fun e w' => e = .returned (.bool (tagOk t l)) ∧ Below w.heap.size w w' := by
  unfold Tag.val
  go_enter Try.func136, Try.ntmps136
  go_wp2
  go_loopw [5, 10] (fun v5 v10 wr => ∃ k : Nat, k ≤ n ∧ v10 = .int .i64 k ∧ v5 = .int .i64 (lastAt (l.take k)) ∧ noDup t (l.take k) = true ∧ Below w.heap.size w wr ∧
     wr.heap[w.heap.size]? = some (.cells #[.int .i64 t.id, .int .i64 t.own, .int .i64 t.heir, .int .i64 t.at_] 135)) (fun _ v10 _ => n - (intOf v10).toNat)
  case atStart => exact ⟨0, Nat.zero_le _, rfl, rfl, rfl, (Below.refl _ _).alloc (Nat.le_refl _) _, heap_alloc_new _ _⟩
  case round =>
    obtain ⟨k, hk, rfl, rfl, hd, hb, hbox⟩ := hrel
    by_cases hlt : k < n
    · obtain ⟨b, off, x, rfl, hB, hx, c0, c1, c2, c3⟩ := hl.at_ hlt
      have hcell : ∀ o, wr.cell? ⟨b, o, none⟩ = w.cell? ⟨b, o, none⟩ := fun o => hb.cell (p := ⟨b, o, none⟩) hB
      rw [← hcell] at c0 c1 c2 c3
      have b0 := cell_of_row wr _ 0 _ _ _ hbox
      have b1 := cell_of_row wr _ 1 _ _ _ hbox
      have b2 := cell_of_row wr _ 2 _ _ _ hbox
      have b3 := cell_of_row wr _ 3 _ _ _ hbox
      simp at b0 b1 b2 b3
      have hz := (Array.getElem?_eq_some_iff.1 hbox).1
      have HX := Lib.hid hx
      have HB := Lib.hid hbox
      clear hcell hx hbox
      go_wp2
      · go_ret
        exact ⟨ret_bool (tagOk_dup HX.out ‹_›).symm, hb.alloc (by omega) _⟩
      · go_roundw
        case rel => exact ⟨k + 1, by omega, by go_num, by rw [lastAt_more HX.out], noDup_more HX.out ‹_› hd, hb.alloc (by omega) _, (heap_alloc_old hz _).trans HB.out⟩
        case measure => simp [intOf]; omega
    · have b0 := cell_of_row wr _ 0 _ _ _ hbox
      have b1 := cell_of_row wr _ 1 _ _ _ hbox
      have b2 := cell_of_row wr _ 2 _ _ _ hbox
      have b3 := cell_of_row wr _ 3 _ _ _ hbox
      simp at b0 b1 b2 b3
      clear hbox
      go_wp2
      all_goals
        go_ret
        refine ⟨ret_bool (tagOk_take hl.1 hk hlt hd ?_), hb⟩
        simp only [fieldsOk, decide_eq_true_eq, beq_iff_eq, Bool.false_eq_true, false_iff]
        omega
end Go.Proofs.Ytnokhjhhadnckaa
/- Right. -/
namespace Go.Proofs.Ytnokhjhhadnckaa
open Go.RowKit
set_option maxHeartbeats 1000000 in
theorem right_any (A : Option Addr) (n c : Nat) (l : List Tag) (w : World) (hl : TagsAt w A n l) (hn : n ≤ 1000000) (hc : n ≤ c) :
    Calls Try.prog 122 #[.slice A n c] w fun e w' => e = .returned (.bool (rightB l)) ∧ Below w.heap.size w w' := by
  by_cases h32 : 1 ≤ n ∧ n ≤ 32
  · obtain ⟨h1, h2⟩ := h32
    go_enter Try.func122, Try.ntmps122
    go_wp2
    go_loopw [15] (fun v15 wr => ∃ k : Nat, k ≤ n ∧ v15 = .int .i64 k ∧ okUpto l k = true ∧ Below w.heap.size w wr) (fun v15 _ => n - (intOf v15).toNat)
    case atStart => exact ⟨0, Nat.zero_le _, rfl, rfl, Below.refl _ _⟩
    case round =>
      obtain ⟨k, hk, rfl, hd, hb⟩ := hrel
      by_cases hlt : k < n
      · obtain ⟨b, off, x, rfl, hB, hx, c0, c1, c2, c3⟩ := hl.at_ hlt
        have hcell : ∀ o, wr.cell? ⟨b, o, none⟩ = w.cell? ⟨b, o, none⟩ := fun o => hb.cell (p := ⟨b, o, none⟩) hB
        rw [← hcell] at c0 c1 c2 c3
        have HX := Lib.hid hx
        clear hcell hx
        have HT := Lib.hid ((hl.below hb (Nat.le_refl _)).take hk)
        go_wp2_with fail
        go_region_with (go_at_call 136; refine (tag_any x _ k c (l.take k) _ ?ht (by omega)).mono ?_; (case ht => exact HT.out.below (((Below.refl _ _).alloc (Nat.le_refl _) _).drew) (Nat.le_refl _)); rintro e w1 ⟨rfl, hb'⟩)
        all_goals
         have hb1 : Below w.heap.size w w1 := (hb.alloc hb.size _).drew.trans (hb'.mono (by simp; have := hb.size; omega))
         clear hb'
         go_wp2
         · go_ret
           exact ⟨ret_bool (rightB_not hl.1 hlt HX.out hd ((Bool.not_eq_true' _).mp ‹_›)).symm, hb1⟩
         · go_roundw
           case rel => exact ⟨k + 1, by omega, by go_num, by rw [okUpto_more HX.out hd]; exact (Bool.not_eq_false' _).mp ‹_›, hb1⟩
           case measure => simp [intOf]; omega
      · go_wp2
        go_ret
        obtain rfl : k = n := by omega
        exact ⟨ret_bool (by rw [rightB, hl.1, hd]; simp [h1, h2]), hb⟩
  · have hr : rightB l = false := by rw [rightB, hl.1, decide_eq_false h32, Bool.false_and]
    rw [hr]
    by_cases h1 : 1 ≤ n
    all_goals
      go_enter Try.func122, Try.ntmps122
      go_wp2
      go_ret
      exact ⟨rfl, Below.refl _ _⟩
end Go.Proofs.Ytnokhjhhadnckaa
/- Hist. -/
namespace Go.Proofs.Ytnokhjhhadnckaa
open Go.RowKit
set_option maxHeartbeats 1000000 in
theorem hist_any (A : Option Addr) (n c : Nat) (l : List Tag) (site to : Int) (w : World) (hl : TagsAt w A n l) (hn : n ≤ 1000000) (hc : n ≤ c) :
    Calls Try.prog 109 #[.int .i64 site, .slice A n c, .int .i64 to] w fun e w' => e = .returned (.bool (histB site l to)) ∧ Below w.heap.size w w' := by
  by_cases hs : 1 ≤ site ∧ site ≤ 2
  · obtain ⟨s1, s2⟩ := hs
    have d1 : decide ((1 : Int) ≤ site) = true := by simpa using s1
    have d2 : decide (site ≤ 2) = true := by simpa using s2
    cases hr : rightB l with
    | false =>
      have hh : histB site l to = false := by rw [histB, hr]; simp
      rw [hh]
      have HR := Lib.hid hr
      clear hr hh
      go_enter Try.func109, Try.ntmps109
      go_wp2_with (go_at_call 122; refine (right_any A n c l _ hl hn hc).mono ?_; rintro e w1 ⟨rfl, hb⟩; rw [HR.out])
      go_ret
      exact ⟨rfl, hb⟩
    | true =>
      have h1 := rightB_len hr
      rw [hl.1] at h1
      obtain ⟨m, rfl⟩ : ∃ m, n = m + 1 := ⟨n - 1, by omega⟩
      obtain ⟨b, off, x, rfl, hB, hx, _, _, _, c3⟩ := hl.at_ (k := m) (by omega)
      have hla := lastAt_last hl.1 hx
      have HH : Hid (∀ p : Bool, (p = true ↔ (0 ≤ to ∧ to ≤ 1099511627776 ∧ x.at_ ≤ to)) → p = histB site l to) := fun p hp => by
        rw [histB, hr, hla, Bool.eq_iff_iff, hp, Bool.and_true, Bool.and_eq_true, decide_eq_true_eq, decide_eq_true_eq]
        exact ⟨fun h => ⟨⟨s1, s2⟩, h⟩, fun h => h.2⟩
      have HR := Lib.hid hr
      clear hr hla hx
      go_enter Try.func109, Try.ntmps109
      go_wp2_with (go_at_call 122; refine (right_any _ (m + 1) c l _ hl hn hc).mono ?_; rintro e w1 ⟨rfl, hb⟩; rw [HR.out]; have c3' := (hb.cell (p := ⟨b, off + m * 4 + 3, none⟩) hB).trans c3)
      all_goals
        go_ret
        refine ⟨ret_bool (HH.out _ ?_), hb⟩
        simp only [decide_eq_true_eq, Bool.false_eq_true, false_iff]
        omega
  · have hh : histB site l to = false := by rw [histB, decide_eq_false hs]; simp
    rw [hh]
    by_cases h1 : 1 ≤ site
    · have d1 : decide ((1 : Int) ≤ site) = true := by simpa using h1
      have d2 : decide (site ≤ 2) = false := by simp; omega
      go_enter Try.func109, Try.ntmps109
      go_wp2
      go_ret
      exact ⟨rfl, Below.refl _ _⟩
    · have d1 : decide ((1 : Int) ≤ site) = false := by simpa using h1
      go_enter Try.func109, Try.ntmps109
      go_wp2
      go_ret
      exact ⟨rfl, Below.refl _ _⟩
end Go.Proofs.Ytnokhjhhadnckaa
/- A slice of tags as a source of an append, and a row that the call owns read as a slice of tags. -/
namespace Go.Proofs.Ytnokhjhhadnckaa
open Go.RowKit
def flat (l : List Tag) : List Value := l.flatMap Tag.vals
theorem flat_len : ∀ l : List Tag, (flat l).length = l.length * 4
  | [] => rfl
  | t :: l => by
    have := flat_len l
    simp only [flat, List.flatMap_cons, List.length_append, List.length_cons] at this ⊢
    simp only [Tag.vals, List.length_cons, List.length_nil]; omega
theorem flat_append (l r : List Tag) : flat (l ++ r) = flat l ++ flat r := by simp [flat]
theorem tag_flat_get : ∀ (l : List Tag) (i j : Nat), j < 4 → (flat l)[i * 4 + j]? = (l[i]?).bind fun t => t.vals[j]?
  | [], i, j, _ => by simp [flat]
  | t :: l, 0, j, h => by
    have hv : t.vals.length = 4 := rfl
    simp only [flat, List.flatMap_cons, Nat.zero_mul, Nat.zero_add, List.getElem?_cons_zero, Option.bind_some]
    rw [List.getElem?_append_left (by omega)]
  | t :: l, i + 1, j, h => by
    have hv : t.vals.length = 4 := rfl
    have := tag_flat_get l i j h
    simp only [flat, List.flatMap_cons, List.getElem?_cons_succ] at this ⊢
    rw [List.getElem?_append_right (by omega), hv, show (i + 1) * 4 + j - 4 = i * 4 + j by omega, this]
theorem flat_one (l : List Tag) : ∀ u ∈ flat l, u.oneCell' = true := by
  intro u hu
  simp only [flat, List.mem_flatMap, Tag.vals] at hu
  obtain ⟨t, _, hu⟩ := hu
  simp only [List.mem_cons, List.not_mem_nil, or_false] at hu
  rcases hu with rfl | rfl | rfl | rfl <;> rfl
theorem tag_add_plain (b off j : Nat) : (⟨b, off, none⟩ : Addr).add j = ⟨b, off + j, none⟩ := by
  unfold Addr.add
  split
  · subst j; rfl
  · rfl
theorem TagsAt.src {w : World} {A : Option Addr} {n : Nat} {l : List Tag} (h : TagsAt w A n l) : SrcAt w 4 A n (flat l) where
  len := by rw [flat_len, h.1]
  one := flat_one l
  cells := fun hn => by
    obtain ⟨b, off, e, _, hc⟩ := h.2 hn
    refine ⟨_, e, fun j u hu => ?_⟩
    rw [show j = j / 4 * 4 + j % 4 by omega, tag_flat_get l _ _ (Nat.mod_lt _ (by omega))] at hu
    cases ht : l[j / 4]? with
    | none => rw [ht] at hu; cases hu
    | some t =>
      rw [ht] at hu
      obtain ⟨c0, c1, c2, c3⟩ := hc _ t ht
      rw [tag_add_plain]
      have h4 : j % 4 < 4 := Nat.mod_lt _ (by omega)
      rcases (by omega : j % 4 = 0 ∨ j % 4 = 1 ∨ j % 4 = 2 ∨ j % 4 = 3) with e | e | e | e <;> rw [e] at hu <;> simp only [Tag.vals, Option.bind_some, List.getElem?_cons_zero, List.getElem?_cons_succ, Option.some.injEq] at hu <;> subst hu
      · rw [show off + j = off + j / 4 * 4 by omega]; exact c0
      · rw [show off + j = off + j / 4 * 4 + 1 by omega]; exact c1
      · rw [show off + j = off + j / 4 * 4 + 2 by omega]; exact c2
      · rw [show off + j = off + j / 4 * 4 + 3 by omega]; exact c3
theorem TagsAt.of_own {w : World} {base e : Nat} {A : Option Addr} {n c : Nat} {l : List Tag} (h : w.ownsRow base e 4 (.slice A n c) n (flat l)) : TagsAt w A n l := by
  have hl : l.length = n := by have := h.1; rw [flat_len] at this; omega
  refine ⟨hl, fun hn => ?_⟩
  obtain ⟨g, cap, hv, _, hlt⟩ := h.form hn
  have hA : A = some ⟨g, 0, none⟩ := by injection hv
  subst hA
  refine ⟨g, 0, rfl, hlt, fun i t hi => ?_⟩
  have hc := h.cells (g := g) rfl
  have k : ∀ j, j < 4 → w.cell? ⟨g, 0 + i * 4 + j, none⟩ = t.vals[j]? := fun j hj => by
    have hj' : j < t.vals.length := hj
    have e1 : (flat l)[i * 4 + j]? = some t.vals[j] := by rw [tag_flat_get l i j hj, hi, Option.bind_some, List.getElem?_eq_getElem hj']
    have := hc _ _ e1
    rw [tag_add_plain] at this
    rw [Nat.add_assoc, this, List.getElem?_eq_getElem hj']
  exact ⟨k 0 (by omega), k 1 (by omega), k 2 (by omega), k 3 (by omega)⟩
theorem owns_empty {w : World} {base e size g : Nat} (hg : g = w.heap.size) (hb : base ≤ w.heap.size) : (w.alloc (.cells #[] e)).ownsRow base e size (.slice (some ⟨g, 0, none⟩) 0 0) 0 [] := by
  subst hg
  exact World.ownsRow_made w #[] 0 hb (Nat.zero_le _) (by simp)
theorem tag_info : (Try.prog.info? 135).map (fun i => (i.zero, i.size, i.bytes)) = some (some (.agg #[.int .i64 0, .int .i64 0, .int .i64 0, .int .i64 0]), 4, 32) := by kernel_rfl
end Go.Proofs.Ytnokhjhhadnckaa
/- Clone. -/
namespace Go.Proofs.Ytnokhjhhadnckaa
open Go.RowKit
set_option maxHeartbeats 1000000 in
theorem clone_any (A : Option Addr) (n c : Nat) (l : List Tag) (w : World) (hl : TagsAt w A n l) (hn : n ≤ 1000000) :
    Calls Try.prog 124 #[.slice A n c] w fun e w' => ∃ v, e = .returned v ∧ w'.ownsRow w.heap.size 135 4 v n (flat l) ∧ Below w.heap.size w w' := by
  cases A with
  | none =>
    have h0 : n = 0 := by
      rcases Nat.eq_zero_or_pos n with h | h
      · exact h
      · obtain ⟨_, _, e, _⟩ := hl.2 h; cases e
    subst h0
    have hn : l = [] := List.eq_nil_of_length_eq_zero hl.1
    subst hn
    have hq := @Lib.run_eql_slice_nil Try.prog
    go_enter Try.func124, Try.ntmps124
    go_wp2
    go_ret
    exact ⟨_, rfl, World.ownsRow_nil _ _ _ _, Below.refl _ _⟩
  | some ad =>
    obtain ⟨i0, hi0, hz0, hz1, hz2⟩ := info_parts tag_info
    have hq := @Lib.run_eql_slice_nil Try.prog
    go_enter Try.func124, Try.ntmps124
    have hown := World.ownsRow_made (base := w.heap.size) (e := 135) (size := 4) w #[] 0 (Nat.le_refl _) (Nat.zero_le _) rfl
    go_wp2_with (at_builtin
                 refine wpList_append_src _ rfl (.tmp 5) (.tmp 6) _ rfl w.heap.size 135 i0 _ 4 32 Try.underlying131 hi0 hz0 hz1 hz2 rfl (by omega) _ 0 [] rfl hown (some ad) n c (flat l) rfl
                   (hl.below (((Below.refl _ _).alloc (Nat.le_refl _) _)) (Nat.le_refl _)).src (fun h => by cases h) (by simp only [maxLen]; omega) (by omega) (by simp) ?_
                 intro v1 w1 hown1 hg1 hat1)
    go_ret
    refine ⟨_, rfl, by simpa using hown1, ((Below.refl _ _).alloc (Nat.le_refl _) _).grown hg1 (by simp) (fun k hk => ?_)⟩
    have hk' : some w.heap.size = some k := hk
    injection hk' with hk'
    omega
end Go.Proofs.Ytnokhjhhadnckaa
/- Next. -/
namespace Go.Proofs.Ytnokhjhhadnckaa
open Go.RowKit
set_option maxHeartbeats 1000000 in
theorem next_any (A : Option Addr) (n c : Nat) (l : List Tag) (s : Int) (w : World) (hl : TagsAt w A n l) (hn : n ≤ 1000000) :
    Calls Try.prog 123 #[.slice A n c, .int .i64 s] w fun e w' => e = .returned (.int .i64 (nextId l s)) ∧ Below w.heap.size w w' := by
  go_enter Try.func123, Try.ntmps123
  go_wp2
  go_loopw [5, 10] (fun v5 v10 wr => ∃ (k : Nat) (m : Int), k ≤ n ∧ v10 = .int .i64 k ∧ v5 = .int .i64 m ∧ m = maxIds (l.take k) ∧ 0 ≤ m ∧ m ≤ 1073741824 ∧ highId (l.take k) = false ∧ Below w.heap.size w wr) (fun _ v10 _ => n - (intOf v10).toNat)
  case atStart => exact ⟨0, 0, Nat.zero_le _, rfl, rfl, rfl, by omega, by omega, rfl, Below.refl _ _⟩
  case round =>
    obtain ⟨k, m, hk, rfl, rfl, hm, hm0, hm1, hh, hb⟩ := hrel
    have HM := Lib.hid hm
    have HH := Lib.hid hh
    clear hm hh
    by_cases hlt : k < n
    · obtain ⟨b, off, x, rfl, hB, hx, c0, c1, c2, c3⟩ := hl.at_ hlt
      have hcell : ∀ o, wr.cell? ⟨b, o, none⟩ = w.cell? ⟨b, o, none⟩ := fun o => hb.cell (p := ⟨b, o, none⟩) hB
      rw [← hcell] at c0 c1 c2 c3
      have HX := Lib.hid hx
      clear hcell hx
      by_cases hmx : m < x.id
      all_goals
        go_wp2
        all_goals first
          | (go_ret
             exact ⟨ret_int (nextId_high HX.out (by assumption) s), hb.alloc hb.size _⟩)
          | (go_roundw
             case rel => exact ⟨k + 1, _, by omega, by go_num, rfl, by rw [maxIds_more HX.out, ← HM.out]; omega, by omega, by omega, by rw [highId_more HX.out HH.out]; simp; omega, hb.alloc hb.size _⟩
             case measure => simp [intOf]; omega)
    · have hand : bits .and .i64 (m + 1) 1 = (m + 1) % 2 := i64_and1 _
      go_wp2
      · go_ret
        exact ⟨ret_int (nextId_low hl.1 hk hlt HH.out HM.out (nextOdd_step ((Bool.not_eq_true' _).mp ‹_›))), hb⟩
      · go_ret
        exact ⟨ret_int (nextId_low hl.1 hk hlt HH.out HM.out (nextOdd_stay ((Bool.not_eq_false' _).mp ‹_›))), hb⟩
end Go.Proofs.Ytnokhjhhadnckaa
/- More. -/
namespace Go.Proofs.Ytnokhjhhadnckaa
open Go.RowKit
/-- Two results: a slice of tags that reads as r.1, and the refusal r.2; nothing that was there has turned. -/
def Gives (w : World) (r : List Tag × Int) (e : Ending) (w' : World) : Prop :=
  ∃ A n c, e = .returned (.tuple #[.slice A n c, .int .i64 r.2]) ∧ TagsAt w' A n r.1 ∧ n ≤ 1000 ∧ n ≤ c ∧ Below w.heap.size w w'

theorem gives_own {w w' : World} {base e n : Nat} {v : Value} {l : List Tag} {t : Tag} (hown : w'.ownsRow base e 4 v (n + 1) (flat l ++ t.vals)) (hn : n + 1 ≤ 1000) (hb : Below w.heap.size w w') (err : Int) :
    Gives w (l ++ [t], err) (.returned (.tuple #[v, .int .i64 err])) w' := by
  have hf : flat l ++ t.vals = flat (l ++ [t]) := by simp [flat]
  rw [hf] at hown
  rcases hown.2 with ⟨_, h⟩ | ⟨g, cap, cur, hv, _, _, hc, _, _, _⟩
  · omega
  · subst hv
    exact ⟨_, _, _, rfl, TagsAt.of_own hown, hn, hc, hb⟩
set_option maxRecDepth 100000 in
set_option maxHeartbeats 1000000 in
theorem more_any (A : Option Addr) (n c : Nat) (l : List Tag) (s : Int) (t : Tag) (w : World) (hl : TagsAt w A n l) (hn : n ≤ 32) :
    Calls Try.prog 110 #[.int .i64 s, .slice A n c, t.val] w (Gives w (moreTags l ⟨nextId l s, t.own, t.heir, t.at_⟩)) := by
  unfold Tag.val
  obtain ⟨i0, hi0, hz0, hz1, hz2⟩ := info_parts tag_info
  obtain ⟨id, hid⟩ : ∃ id, nextId l s = id := ⟨_, rfl⟩
  by_cases h32 : n = 32
  · subst h32
    have hm : moreTags l ⟨nextId l s, t.own, t.heir, t.at_⟩ = ([], 6) := by rw [moreTags, if_pos (Or.inl hl.1)]
    rw [hm]
    clear hm
    go_enter Try.func110, Try.ntmps110
    go_wp2_with fail
    refine (next_any A 32 c l s _ ?ht (by omega)).mono ?_
    case ht => exact hl.below ((Below.refl _ _).alloc (Nat.le_refl _) _) (Nat.le_refl _)
    rintro e w1 ⟨rfl, hb⟩
    rw [hid]
    have hg := block_behind hb
    have b0 := cell_of_row w1 _ 0 _ _ _ hg
    have f0 := frozen_of_row hg 0
    simp at b0
    have HB : Below w.heap.size w w1 := ((Below.refl _ _).alloc (Nat.le_refl _) _).trans (hb.mono (by simp))
    clear hg hb
    go_wp2_with fail
    go_ret2
    exact ⟨none, 0, 0, rfl, TagsAt.nil _, by omega, Nat.le_refl _, HB.setCell (Nat.le_refl _) _⟩
  · by_cases hbig : 1073741824 < id
    · have hB32 : ((n : Int) == 32) = false := by rw [beq_eq_false_iff_ne]; omega
      have hBig : decide (1073741824 < id) = true := by simpa using hbig
      have hm : moreTags l ⟨nextId l s, t.own, t.heir, t.at_⟩ = ([], 6) := by rw [moreTags, if_pos (Or.inr (by rw [hid]; exact hbig))]
      rw [hm]
      clear hm
      go_enter Try.func110, Try.ntmps110
      go_wp2_with fail
      refine (next_any A n c l s _ ?ht (by omega)).mono ?_
      case ht => exact hl.below ((Below.refl _ _).alloc (Nat.le_refl _) _) (Nat.le_refl _)
      rintro e w1 ⟨rfl, hb⟩
      rw [hid]
      have hg := block_behind hb
      have b0 := cell_of_row w1 _ 0 _ _ _ hg
      have f0 := frozen_of_row hg 0
      simp at b0
      have HB : Below w.heap.size w w1 := ((Below.refl _ _).alloc (Nat.le_refl _) _).trans (hb.mono (by simp))
      clear hg hb
      go_wp2_with fail
      go_ret2
      exact ⟨none, 0, 0, rfl, TagsAt.nil _, by omega, Nat.le_refl _, HB.setCell (Nat.le_refl _) _⟩
    · have hB32 : ((n : Int) == 32) = false := by rw [beq_eq_false_iff_ne]; omega
      have hBig : decide (1073741824 < id) = false := by simpa using hbig
      have hm : moreTags l ⟨nextId l s, t.own, t.heir, t.at_⟩ = (l ++ [⟨id, t.own, t.heir, t.at_⟩], 0) := by
        rw [moreTags, if_neg (by show ¬ (l.length = 32 ∨ 1073741824 < nextId l s); rw [hid, hl.1]; omega), hid]
      rw [hm]
      clear hm
      go_enter Try.func110, Try.ntmps110
      go_wp2_with fail
      refine (next_any A n c l s _ ?ht (by omega)).mono ?_
      case ht => exact hl.below ((Below.refl _ _).alloc (Nat.le_refl _) _) (Nat.le_refl _)
      rintro e w1 ⟨rfl, hb⟩
      rw [hid]
      have hg := block_behind hb
      have hz := (Array.getElem?_eq_some_iff.1 hg).1
      have b0 := cell_of_row w1 _ 0 _ _ _ hg
      have b1 := cell_of_row w1 _ 1 _ _ _ hg
      have b2 := cell_of_row w1 _ 2 _ _ _ hg
      have b3 := cell_of_row w1 _ 3 _ _ _ hg
      have f0 := frozen_of_row hg 0
      simp at b0 b1 b2 b3
      have HG := Lib.hid hg
      have HB : Below w.heap.size w w1 := ((Below.refl _ _).alloc (Nat.le_refl _) _).trans (hb.mono (by simp))
      have HS : Below w.heap.size w (w1.setCell ⟨w.heap.size, 0, none⟩ (.int .i64 id)) := HB.setCell (Nat.le_refl _) _
      have HSz : w.heap.size < (w1.setCell ⟨w.heap.size, 0, none⟩ (.int .i64 id)).heap.size := by simpa [World.setCell] using hz
      have e0 : (w1.setCell ⟨w.heap.size, 0, none⟩ (.int .i64 id)).cell? ⟨w.heap.size, 0, none⟩ = some (.int .i64 id) := by go_simp
      have e1 : (w1.setCell ⟨w.heap.size, 0, none⟩ (.int .i64 id)).cell? ⟨w.heap.size, 1, none⟩ = some (.int .i64 t.own) := by go_simp
      have e2 : (w1.setCell ⟨w.heap.size, 0, none⟩ (.int .i64 id)).cell? ⟨w.heap.size, 2, none⟩ = some (.int .i64 t.heir) := by go_simp
      have e3 : (w1.setCell ⟨w.heap.size, 0, none⟩ (.int .i64 id)).cell? ⟨w.heap.size, 3, none⟩ = some (.int .i64 t.at_) := by go_simp
      clear hg hb
      go_wp2_with fail
      generalize w1.setCell ⟨w.heap.size, 0, none⟩ (.int .i64 id) = w2 at *
      clear b0 b1 b2 b3 f0 HG HB hz
      have hmax : n + 1 ≤ maxLen := by simp only [maxLen]; omega
      have hbyt : (n + 1) * 32 ≤ 140737488355328 := by omega
      have hone : ∀ u ∈ [Value.int .i64 id, .int .i64 t.own, .int .i64 t.heir, .int .i64 t.at_], u.oneCell' = true := by
        intro u hu
        simp only [List.mem_cons, List.not_mem_nil, or_false] at hu
        rcases hu with rfl | rfl | rfl | rfl <;> rfl
      have hnn : ∀ a : Addr, some a = none → (1 : Nat) = 0 := fun a h => by cases h
      go_region_held3 (fun w' => w'.cell? ⟨w.heap.size, 0, none⟩ = some (.int .i64 id) ∧ w'.cell? ⟨w.heap.size, 1, none⟩ = some (.int .i64 t.own) ∧ w'.cell? ⟨w.heap.size, 2, none⟩ = some (.int .i64 t.heir) ∧ w'.cell? ⟨w.heap.size, 3, none⟩ = some (.int .i64 t.at_))
        (first
          | go_keep
          | (have hz5 : some w.heap.size ≠ v3.ownBlock := by
               intro e; have := hown3.lt _ e.symm; simp at this; omega
             go_split_ands
             refine ⟨?_, ?_, ?_, ?_⟩ <;> (rw [hg4.cell_far _ (by have := hb3.size; simp at this ⊢; omega) hz5]; assumption))
          | (go_split_ands
             refine ⟨?_, ?_, ?_, ?_⟩ <;> (rw [hb3.cell (by simp; omega)]; assumption)))
        (first
          | (go_at_call 124
             refine (clone_any A n c l _ ?ht ?hn).mono ?_
             (case ht => first | exact hl.below HS.drew (Nat.le_refl _) | exact hl.below (HS.drew.alloc (Nat.le_of_lt HSz) _) (Nat.le_refl _))
             (case hn => omega)
             rintro e w3 ⟨v3, rfl, hown3, hb3⟩)
          | (have _g := hown3
             refine step_append_src _ ?g1 (.tmp 21) (.tmp 23) 131 ?g2 w2.heap.size 135 i0 _ 4 32 Try.underlying131 hi0 hz0 hz1 hz2 rfl ?g3 v3 n (flat l) ?g4 (hown3.alloc _) (some ⟨w3.heap.size, 0, none⟩) 1 1 [.int .i64 id, .int .i64 t.own, .int .i64 t.heir, .int .i64 t.at_] ?g5 ⟨?g6, ?g7, hone⟩ (hnn _) hmax hbyt ?g8 ?_
             (case g1 => rfl)
             (case g2 => rfl)
             (case g3 => omega)
             (case g4 => rfl)
             (case g5 => rfl)
             (case g6 => rfl)
             (case g7 => exact fun _ => ⟨_, rfl, World.news_of_block (heap_alloc_new w3 _)⟩)
             (case g8 => have := hb3.size; simp at this ⊢; omega)
             intro v4 w4 hown4 hg4 hat4)
          | (have _g := hown3
             refine step_append_src _ ?g1 (.tmp 21) (.tmp 23) 131 ?g2 (w2.heap.size + 1) 135 i0 _ 4 32 Try.underlying131 hi0 hz0 hz1 hz2 rfl ?g3 v3 n (flat l) ?g4 ?g9 (some ⟨w2.heap.size, 0, none⟩) 1 1 [.int .i64 id, .int .i64 t.own, .int .i64 t.heir, .int .i64 t.at_] ?g5 ⟨?g6, ?g7, hone⟩ (hnn _) hmax hbyt ?g8 ?_
             (case g1 => rfl)
             (case g2 => rfl)
             (case g3 => omega)
             (case g4 => rfl)
             (case g5 => rfl)
             (case g6 => rfl)
             (case g9 => simpa using hown3)
             (case g7 => exact fun _ => ⟨_, rfl, World.news_of_block ((hb3.block _ (by simp)).trans (heap_alloc_new w2 _))⟩)
             (case g8 => have := hb3.size; simp at this ⊢; omega)
             intro v4 w4 hown4 hg4 hat4))
      all_goals
        go_wp2
        go_ret2
        refine gives_own hown4 (by omega) ?_ 0
        have hz3 := hb3.size
        simp at hz3
        refine Below.grown ?hb hg4 ?hz ?hr
        case hb => first | exact (HS.drew.trans (hb3.mono (by simp; omega))).alloc (by omega) _ | exact (HS.drew.alloc (by first | omega | (simp; omega)) _).trans (hb3.mono (by simp; omega))
        case hz => first | omega | (simp; omega)
        case hr => intro k hk; have := hown3.lt _ hk; simp at this; omega
end Go.Proofs.Ytnokhjhhadnckaa
/- role.Peer, role.Demote. -/
namespace Go.Proofs.Ytnokhjhhadnckaa
open Go.RowKit
theorem gives_none {w w' : World} (hb : Below w.heap.size w w') (err : Int) : Gives w ([], err) (.returned (.tuple #[.slice none 0 0, .int .i64 err])) w' :=
  ⟨none, 0, 0, rfl, TagsAt.nil _, by omega, Nat.le_refl _, hb⟩
theorem Gives.trans {w w1 : World} {r : List Tag × Int} {e : Ending} {w' : World} (h : Gives w1 r e w') (hb : Below w.heap.size w w1) : Gives w r e w' := by
  obtain ⟨A, n, c, he, ht, hn, hc, hb'⟩ := h
  exact ⟨A, n, c, he, ht, hn, hc, hb.trans (hb'.mono hb.size)⟩

set_option maxHeartbeats 400000 in
theorem peer_any (s : Int) (w : World) : Calls Try.prog 84 #[.int .i64 s] w fun e w' => e = .returned (.int .i64 (peerOf s)) ∧ w = w' := by
  by_cases h : s = 1
  · have hp : peerOf s = 2 := if_pos h
    rw [hp]
    have d : (s == 1) = true := by simpa using h
    clear h hp
    go_enter Try.func84, Try.ntmps84
    go_wp2
    go_ret
    exact ⟨rfl, rfl⟩
  · have hp : peerOf s = 1 := if_neg h
    rw [hp]
    have d : (s == 1) = false := by simpa using h
    clear h hp
    go_enter Try.func84, Try.ntmps84
    go_wp2
    go_ret
    exact ⟨rfl, rfl⟩
set_option maxHeartbeats 1000000 in
theorem demote_any (A : Option Addr) (n c : Nat) (l : List Tag) (phase site to : Int) (w : World) (hl : TagsAt w A n l) (hn : n ≤ 1000000) (hc : n ≤ c) :
    Calls Try.prog 82 #[.int .i64 phase, .int .i64 site, .slice A n c, .int .i64 to] w (Gives w (demoteTags phase site l to)) := by
  cases hh : histB site l to with
  | false =>
    have hv : demoteTags phase site l to = ([], 1) := by rw [demoteTags, if_pos hh]
    rw [hv]
    have HH := Lib.hid hh
    clear hh hv
    go_enter Try.func82, Try.ntmps82
    go_wp2_with (go_at_call 109; refine (hist_any A n c l site to _ hl hn hc).mono ?_; rintro e w1 ⟨rfl, hb⟩; rw [HH.out])
    go_ret2
    exact gives_none hb 1
  | true =>
    have h32 : n ≤ 32 := by
      rw [histB, Bool.and_eq_true, Bool.and_eq_true] at hh
      have := (rightB_len hh.1.2).2; rw [hl.1] at this; exact this
    have HH := Lib.hid hh
    by_cases hp : phase = 1
    · have hv : demoteTags phase site l to = turnTags site l 0 (peerOf site) to := by rw [demoteTags, if_neg (by rw [hh]; simp), if_neg (by simpa using hp)]
      rw [hv]
      have d : (phase != 1) = false := by simpa using hp
      clear hh hv hp
      go_enter Try.func82, Try.ntmps82
      go_wp2_with (first
        | (go_at_call 109; refine (hist_any A n c l site to _ hl hn hc).mono ?_; rintro e w1 ⟨rfl, hb⟩; rw [HH.out])
        | (go_at_call 84; refine (peer_any site _).mono ?_; rintro e w2 ⟨rfl, rfl⟩)
        | (go_at_call 110; refine (more_any A n c l site ⟨0, 0, peerOf site, to⟩ _ (hl.below hb (Nat.le_refl _)) h32).mono ?_; rintro e w3 ⟨A3, n3, c3, rfl, ht3, hn3, hc3, hb3⟩)
        | fail)
      go_ret2
      exact ⟨A3, n3, c3, rfl, ht3, hn3, hc3, hb.trans (hb3.mono hb.size)⟩
    · have hv : demoteTags phase site l to = ([], 9) := by rw [demoteTags, if_neg (by rw [hh]; simp), if_pos hp]
      rw [hv]
      have d : (phase != 1) = true := by simpa using hp
      clear hh hv hp
      go_enter Try.func82, Try.ntmps82
      go_wp2_with (go_at_call 109; refine (hist_any A n c l site to _ hl hn hc).mono ?_; rintro e w1 ⟨rfl, hb⟩; rw [HH.out])
      go_ret2
      exact gives_none hb 9
end Go.Proofs.Ytnokhjhhadnckaa
/- Note. -/
namespace Go.Proofs.Ytnokhjhhadnckaa
open Go.RowKit
def noteB (ph bo no st nu : Int) (n : Nat) : Bool :=
  decide (1 ≤ ph ∧ ph ≤ 5 ∧ 0 ≤ bo ∧ bo < 1048576 ∧ 0 ≤ no ∧ no ≤ 1099511627776 ∧ 0 ≤ st ∧ st ≤ 17 ∧ 0 ≤ nu ∧ nu ≤ 512 ∧ n ≤ 1500)
theorem noteB_of {b : Bool} {ph bo no st nu : Int} {n : Nat} (h : b = true ↔ (1 ≤ ph ∧ ph ≤ 5 ∧ 0 ≤ bo ∧ bo < 1048576 ∧ 0 ≤ no ∧ no ≤ 1099511627776 ∧ 0 ≤ st ∧ st ≤ 17 ∧ 0 ≤ nu ∧ nu ≤ 512 ∧ n ≤ 1500)) : b = noteB ph bo no st nu n := by
  rw [noteB, Bool.eq_iff_iff, h, decide_eq_true_eq]
set_option maxHeartbeats 2000000 in
theorem noteRight_any (ph bo no st nu : Int) (A : Option Addr) (n c : Nat) (w : World) (hn : n ≤ 9223372036854775807) :
    Calls Try.prog 86 #[.agg #[.int .i64 ph, .int .i64 bo, .int .i64 no, .int .i64 st, .int .i64 nu, .slice A n c]] w fun e w' => e = .returned (.bool (noteB ph bo no st nu n)) ∧ Below w.heap.size w w' := by
  go_enter Try.func86, Try.ntmps86
  go_wp2
  all_goals
    go_ret
    refine ⟨ret_bool (noteB_of ?_), (Below.refl _ _).alloc (Nat.le_refl _) _⟩
    simp only [decide_eq_true_eq, Bool.false_eq_true, false_iff]
    omega
set_option maxHeartbeats 2000000 in
theorem refNoteRight_any (ph bo no st nu : Int) (A : Option Addr) (n c : Nat) (w : World) (hn : n ≤ 9223372036854775807) :
    Calls Try.prog 46 #[.agg #[.int .i64 ph, .int .i64 bo, .int .i64 no, .int .i64 st, .int .i64 nu, .slice A n c]] w fun e w' => e = .returned (.bool (noteB ph bo no st nu n)) ∧ Below w.heap.size w w' := by
  go_enter Try.func46, Try.ntmps46
  go_wp2
  all_goals
    go_ret
    refine ⟨ret_bool (noteB_of ?_), (Below.refl _ _).alloc (Nat.le_refl _) _⟩
    simp only [decide_eq_true_eq, Bool.false_eq_true, false_iff]
    omega
end Go.Proofs.Ytnokhjhhadnckaa
