/- What the chain's and the role's functions compute, as plain functions on lists of tags. No program in sight. -/
import Derived.Test.YtagfdgdoboncfaaMem
namespace Go.Proofs.Ytagfdgdoboncfaa

def noDup (t : Tag) (l : List Tag) : Bool := l.all fun x => x.id != t.id
def lastAt (l : List Tag) : Int := (l.getLast?.map Tag.at_).getD 0
theorem lastAt_nil : lastAt [] = 0 := rfl
theorem lastAt_snoc (l : List Tag) (t : Tag) : lastAt (l ++ [t]) = t.at_ := by simp [lastAt]
theorem noDup_snoc (t x : Tag) (l : List Tag) : noDup t (l ++ [x]) = (noDup t l && (x.id != t.id)) := by simp [noDup]
theorem take_snoc {α : Type} {l : List α} {k : Nat} {t : α} (h : l[k]? = some t) : l.take (k + 1) = l.take k ++ [t] := by
  obtain ⟨hk, he⟩ := List.getElem?_eq_some_iff.1 h
  rw [List.take_succ_eq_append_getElem hk, he]

/-- The tag by itself, behind so many, the last of which begins at 'at'. -/
def fieldsOk (t : Tag) (n : Nat) (at_ : Int) : Prop :=
  ¬ (n = 0 ∧ t.at_ ≠ 0) ∧ ¬ t.at_ < at_ ∧ t.at_ ≤ 1099511627776 ∧ 1 ≤ t.id ∧ t.id ≤ 1073741824 ∧ 0 ≤ t.own ∧ t.own ≤ 2 ∧
  (0 < t.own → t.heir = 0) ∧ (¬ 0 < t.own → 1 ≤ t.heir ∧ t.heir ≤ 2)
instance (t : Tag) (n : Nat) (a : Int) : Decidable (fieldsOk t n a) := by unfold fieldsOk; infer_instance
def tagOk (t : Tag) (l : List Tag) : Bool := noDup t l && decide (fieldsOk t l.length (lastAt l))

theorem tagOk_dup {t x : Tag} {l : List Tag} {k : Nat} (hx : l[k]? = some x) (h : (x.id == t.id) = true) : tagOk t l = false := by
  have hm : x ∈ l := List.mem_of_getElem? hx
  have : noDup t l = false := by
    rw [noDup, List.all_eq_false]
    exact ⟨x, hm, by simpa using h⟩
  simp [tagOk, this]
theorem tagOk_take {t : Tag} {l : List Tag} {k n : Nat} (hl : l.length = n) (hk : k ≤ n) (hn : ¬ k < n) (h : noDup t (l.take k) = true) {b : Bool}
    (hb : b = true ↔ fieldsOk t n (lastAt (l.take k))) : b = tagOk t l := by
  obtain rfl : k = n := by omega
  rw [List.take_of_length_le (by omega)] at h hb
  rw [tagOk, h, hl, Bool.true_and, Bool.eq_iff_iff, hb, decide_eq_true_eq]
theorem noDup_more {t x : Tag} {l : List Tag} {k : Nat} (hx : l[k]? = some x) (h : (x.id == t.id) = false) (hd : noDup t (l.take k) = true) : noDup t (l.take (k + 1)) = true := by
  rw [take_snoc hx, noDup_snoc, hd]
  simpa using h
theorem lastAt_more {x : Tag} {l : List Tag} {k : Nat} (hx : l[k]? = some x) : lastAt (l.take (k + 1)) = x.at_ := by
  rw [take_snoc hx, lastAt_snoc]

/-- All tags up to the k-th may be, each behind those ahead of it. -/
def okUpto (l : List Tag) : Nat → Bool
  | 0 => true
  | k + 1 => okUpto l k && (match l[k]? with | some t => tagOk t (l.take k) | none => true)
def rightB (l : List Tag) : Bool := decide (1 ≤ l.length ∧ l.length ≤ 32) && okUpto l l.length
theorem okUpto_more {l : List Tag} {k : Nat} {t : Tag} (ht : l[k]? = some t) (h : okUpto l k = true) : okUpto l (k + 1) = tagOk t (l.take k) := by
  simp [okUpto, h, ht]
theorem okUpto_mono {l : List Tag} {k : Nat} (h : okUpto l k = false) (j : Nat) : okUpto l (k + j) = false := by
  induction j with
  | zero => exact h
  | succ j ih => rw [Nat.add_succ, okUpto, ih, Bool.false_and]
theorem rightB_not {l : List Tag} {k n : Nat} {t : Tag} (hl : l.length = n) (hk : k < n) (ht : l[k]? = some t) (h : okUpto l k = true) (hf : tagOk t (l.take k) = false) : rightB l = false := by
  have h1 := okUpto_mono (l := l) (k := k + 1) (by rw [okUpto_more ht h, hf]) (n - (k + 1))
  rw [rightB, hl, show n = k + 1 + (n - (k + 1)) by omega, h1, Bool.and_false]

def maxIds (l : List Tag) : Int := l.foldl (fun n t => max n t.id) 0
def highId (l : List Tag) : Bool := l.any fun t => decide (1073741824 < t.id)
def nextOdd (n s : Int) : Int := if (decide (n % 2 = 1)) = (decide (s = 1)) then n else n + 1
def nextId (l : List Tag) (s : Int) : Int := if highId l then 0 else nextOdd (maxIds l + 1) s
theorem maxIds_snoc (l : List Tag) (t : Tag) : maxIds (l ++ [t]) = max (maxIds l) t.id := by simp [maxIds]
theorem highId_snoc (l : List Tag) (t : Tag) : highId (l ++ [t]) = (highId l || decide (1073741824 < t.id)) := by simp [highId]
theorem maxIds_more {l : List Tag} {k : Nat} {t : Tag} (h : l[k]? = some t) : maxIds (l.take (k + 1)) = if maxIds (l.take k) < t.id then t.id else maxIds (l.take k) := by
  rw [take_snoc h, maxIds_snoc]; omega
theorem highId_more {l : List Tag} {k : Nat} {t : Tag} (h : l[k]? = some t) (hf : highId (l.take k) = false) : highId (l.take (k + 1)) = decide (1073741824 < t.id) := by
  rw [take_snoc h, highId_snoc, hf, Bool.false_or]
theorem highId_at {l : List Tag} {k : Nat} {t : Tag} (h : l[k]? = some t) (hf : 1073741824 < t.id) : highId l = true := by
  rw [highId, List.any_eq_true]
  exact ⟨t, List.mem_of_getElem? h, by simpa using hf⟩
theorem nextId_high {l : List Tag} {k : Nat} {t : Tag} (h : l[k]? = some t) (hf : 1073741824 < t.id) (s : Int) : 0 = nextId l s := by
  rw [nextId, highId_at h hf]; rfl
theorem nextId_low {l : List Tag} {k n : Nat} (hl : l.length = n) (hk : k ≤ n) (hn : ¬ k < n) (hf : highId (l.take k) = false) {m r : Int} (hm : m = maxIds (l.take k)) {s : Int} (hr : r = nextOdd (m + 1) s) : r = nextId l s := by
  obtain rfl : k = n := by omega
  rw [List.take_of_length_le (by omega)] at hf hm
  rw [nextId, hf, hr, hm]; rfl
theorem nextOdd_step {n s : Int} (h : ((n % 2 == 1) == (s == 1)) = false) : n + 1 = nextOdd n s := by
  rw [nextOdd, if_neg]
  rw [beq_eq_false_iff_ne] at h; exact h
theorem nextOdd_stay {n s : Int} (h : ((n % 2 == 1) == (s == 1)) = true) : n = nextOdd n s := by
  rw [nextOdd, if_pos]
  rw [beq_iff_eq] at h; exact h

def Tag.same (a b : Tag) : Bool := a.id == b.id && a.own == b.own && a.heir == b.heir && a.at_ == b.at_
def sameB : List Tag → List Tag → Bool
  | [], [] => true
  | a :: l, b :: r => a.same b && sameB l r
  | _, _ => false
theorem sameB_len : ∀ (l r : List Tag), l.length ≠ r.length → sameB l r = false
  | [], [], h => absurd rfl h
  | [], _ :: _, _ => rfl
  | _ :: _, [], _ => rfl
  | a :: l, b :: r, h => by
    rw [sameB, sameB_len l r (by simpa using h), Bool.and_false]
theorem sameB_take : ∀ {l r : List Tag} {k : Nat} {x y : Tag}, l[k]? = some x → r[k]? = some y → sameB (l.take (k + 1)) (r.take (k + 1)) = (sameB (l.take k) (r.take k) && x.same y)
  | [], _, _, _, _, h, _ => by simp at h
  | _ :: _, [], _, _, _, _, h => by simp at h
  | a :: l, b :: r, 0, x, y, hx, hy => by
    simp at hx hy; subst hx; subst hy
    simp [sameB]
  | a :: l, b :: r, k + 1, x, y, hx, hy => by
    simp at hx hy
    have := sameB_take hx hy
    simp only [List.take_succ_cons, sameB, this, Bool.and_assoc]
theorem sameB_short : ∀ {l r : List Tag} (k : Nat), sameB (l.take k) (r.take k) = false → sameB l r = false
  | _, _, 0, h => by simp [sameB] at h
  | [], [], _ + 1, h => by simp [sameB] at h
  | [], _ :: _, _ + 1, _ => rfl
  | _ :: _, [], _ + 1, _ => rfl
  | a :: l, b :: r, k + 1, h => by
    simp only [List.take_succ_cons, sameB] at h ⊢
    cases hs : a.same b with
    | false => rfl
    | true => rw [hs, Bool.true_and] at h; rw [sameB_short k h, Bool.and_false]
theorem sameB_at {l r : List Tag} {k : Nat} {x y : Tag} (hx : l[k]? = some x) (hy : r[k]? = some y) (h : x.same y = false) : sameB l r = false :=
  sameB_short (k + 1) (by rw [sameB_take hx hy, h, Bool.and_false])
theorem sameB_more {l r : List Tag} {k : Nat} {x y : Tag} (hx : l[k]? = some x) (hy : r[k]? = some y) (hs : sameB (l.take k) (r.take k) = true) (h : x.same y = true) : sameB (l.take (k + 1)) (r.take (k + 1)) = true := by
  rw [sameB_take hx hy, hs, h]; rfl
theorem sameB_whole {l r : List Tag} {k n : Nat} (hl : l.length = n) (hr : r.length = n) (hk : k ≤ n) (hn : ¬ k < n) (h : sameB (l.take k) (r.take k) = true) : sameB l r = true := by
  obtain rfl : k = n := by omega
  rwa [List.take_of_length_le (by omega), List.take_of_length_le (by omega)] at h

/-- A chain with one tag more, and the refusal: no room (6). -/
def moreTags (l : List Tag) (t : Tag) : List Tag × Int := if l.length = 32 ∨ 1073741824 < t.id then ([], 6) else (l ++ [t], 0)

/-- What the document's chain asks of a tag by itself, in its order; the first that falls is told. -/
def refBad (x : Tag) (k : Nat) (prev : Int) : Prop :=
  x.id < 1 ∨ 1073741824 < x.id ∨ x.own < 0 ∨ 2 < x.own ∨ x.heir < 0 ∨ 2 < x.heir ∨ ((x.own = 0) ↔ ¬ 0 < x.heir) ∨ 1099511627776 < x.at_ ∨ (0 < k ∧ x.at_ < prev)
theorem refBad_iff {x : Tag} {k : Nat} {prev : Int} (h0 : k = 0 → x.at_ = 0) (h1 : k = 0 → prev = 0) : refBad x k prev ↔ ¬ fieldsOk x k prev := by
  unfold refBad fieldsOk
  rcases Nat.eq_zero_or_pos k with h | h
  · have := h0 h; have := h1 h; subst h; omega
  · omega
theorem lastAt_take {l : List Tag} {k : Nat} {p : Tag} (h : l[k]? = some p) : lastAt (l.take (k + 1)) = p.at_ := lastAt_more h
theorem tagOk_bad {x : Tag} {l : List Tag} (h : refBad x l.length (lastAt l)) (h0 : l.length = 0 → x.at_ = 0) : tagOk x l = false := by
  have h1 : l.length = 0 → lastAt l = 0 := fun h => by rw [List.length_eq_zero_iff.1 h]; rfl
  rw [tagOk, decide_eq_false ((refBad_iff h0 h1).1 h), Bool.and_false]
theorem tagOk_good {x : Tag} {l : List Tag} (h : ¬ refBad x l.length (lastAt l)) (h0 : l.length = 0 → x.at_ = 0) : tagOk x l = noDup x l := by
  have h1 : l.length = 0 → lastAt l = 0 := fun h => by rw [List.length_eq_zero_iff.1 h]; rfl
  rw [tagOk, decide_eq_true (Decidable.not_not.1 fun hf => h ((refBad_iff h0 h1).2 hf)), Bool.and_true]

/-- The ways through the document's test of a tag, in the walk's own spelling. -/
theorem ref_ways (x : Tag) (k : Nat) (prev : Int) :
    (refBad x k prev ∧ decide (x.id < 1) = true) ∨
    (refBad x k prev ∧ decide (x.id < 1) = false ∧ decide (1073741824 < x.id) = true) ∨
    (decide (x.id < 1) = false ∧ decide (1073741824 < x.id) = false ∧
      ((refBad x k prev ∧ decide (x.own < 0) = true) ∨
       (refBad x k prev ∧ decide (x.own < 0) = false ∧ decide (2 < x.own) = true) ∨
       (decide (x.own < 0) = false ∧ decide (2 < x.own) = false ∧
         ((refBad x k prev ∧ decide (x.heir < 0) = true) ∨
          (refBad x k prev ∧ decide (x.heir < 0) = false ∧ decide (2 < x.heir) = true) ∨
          (decide (x.heir < 0) = false ∧ decide (2 < x.heir) = false ∧
            ((refBad x k prev ∧ (!((x.own == 0) == decide (0 < x.heir))) = true) ∨
             (refBad x k prev ∧ (!((x.own == 0) == decide (0 < x.heir))) = false ∧ decide (1099511627776 < x.at_) = true) ∨
             ((!((x.own == 0) == decide (0 < x.heir))) = false ∧ decide (1099511627776 < x.at_) = false ∧ (refBad x k prev ↔ 0 < k ∧ x.at_ < prev)))))))) := by
  have e : (!((x.own == 0) == decide (0 < x.heir))) = !decide (x.own = 0 ↔ 0 < x.heir) := by
    by_cases h1 : x.own = 0 <;> by_cases h2 : 0 < x.heir <;> simp [h1, h2]
  rw [e]
  simp only [decide_eq_true_eq, decide_eq_false_iff_not, Bool.not_eq_true', Bool.not_eq_false', refBad]
  omega
theorem tagOk_first {x : Tag} (h : x.at_ ≠ 0) : tagOk x [] = false := by
  rw [tagOk, decide_eq_false, Bool.and_false]
  intro hf
  exact hf.1 ⟨rfl, h⟩

def histB (site : Int) (l : List Tag) (to : Int) : Bool := decide (1 ≤ site ∧ site ≤ 2) && rightB l && decide (0 ≤ to ∧ to ≤ 1099511627776 ∧ lastAt l ≤ to)
theorem rightB_len {l : List Tag} (h : rightB l = true) : 1 ≤ l.length ∧ l.length ≤ 32 := by
  rw [rightB, Bool.and_eq_true, decide_eq_true_eq] at h
  exact h.1
theorem lastAt_last {l : List Tag} {m : Nat} {x : Tag} (hl : l.length = m + 1) (h : l[m]? = some x) : lastAt l = x.at_ := by
  rw [← lastAt_take h, List.take_of_length_le (by omega)]
def peerOf (s : Int) : Int := if s = 1 then 2 else 1
def lastIs (l : List Tag) (p : Tag → Prop) [DecidablePred p] : Bool := match l.getLast? with | some t => decide (p t) | none => false
def turnTags (site : Int) (l : List Tag) (own heir to : Int) : List Tag × Int := moreTags l ⟨nextId l site, own, heir, to⟩
def promoteTags (phase site : Int) (l : List Tag) (to : Int) : List Tag × Int :=
  if histB site l to = false then ([], 1) else if phase = 2 then ([], 10) else if phase = 4 then ([], 12)
  else if phase ≠ 3 ∨ lastIs l (fun t => t.own = 0 ∧ t.heir = site ∧ t.at_ = to) = false then ([], 9) else turnTags site l site 0 to
def forceTags (phase site : Int) (l : List Tag) (to : Int) : List Tag × Int :=
  if histB site l to = false then ([], 1) else if phase = 2 then ([], 10) else if phase = 4 then ([], 12)
  else if phase ≠ 3 ∧ phase ≠ 5 then ([], 9) else turnTags site l site 0 to
def demoteTags (phase site : Int) (l : List Tag) (to : Int) : List Tag × Int :=
  if histB site l to = false then ([], 1) else if phase ≠ 1 then ([], 9) else turnTags site l 0 (peerOf site) to
def isPhase (phase site : Int) (l : List Tag) : Int :=
  if phase = 2 then phase else if lastIs l (fun t => t.own = site) = true then 1 else if phase = 1 then 3 else phase
theorem lastIs_last {l : List Tag} {m : Nat} {x : Tag} (hl : l.length = m + 1) (h : l[m]? = some x) (p : Tag → Prop) [DecidablePred p] : lastIs l p = decide (p x) := by
  have : l.getLast? = some x := by rw [List.getLast?_eq_getElem?, hl]; exact h
  rw [lastIs, this]
theorem lastIs_nil (p : Tag → Prop) [DecidablePred p] : lastIs [] p = false := rfl
end Go.Proofs.Ytagfdgdoboncfaa
