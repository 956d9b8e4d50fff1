/- What chain's judging of two histories computes. No program in sight. -/
import Derived.Test.YtagfdgdoboncfaaChainFns
namespace Go.Proofs.Ytagfdgdoboncfaa
def alikeN : List Tag → List Tag → Nat
  | a :: l, b :: r => if a.same b = true then alikeN l r + 1 else 0
  | [], _ => 0
  | _ :: _, [] => 0
theorem alikeN_le : ∀ l r : List Tag, alikeN l r ≤ l.length ∧ alikeN l r ≤ r.length
  | [], r => by simp [alikeN]
  | a :: l, [] => by simp [alikeN]
  | a :: l, b :: r => by
    have := alikeN_le l r
    simp only [alikeN, List.length_cons]
    split <;> omega
theorem alikeN_yes : ∀ {l r : List Tag} {k : Nat} {x y : Tag}, k ≤ alikeN l r → l[k]? = some x → r[k]? = some y → x.same y = true → k + 1 ≤ alikeN l r
  | [], _, _, _, _, _, h, _, _ => by simp at h
  | _ :: _, [], _, _, _, _, _, h, _ => by simp at h
  | a :: l, b :: r, 0, x, y, _, hx, hy, h => by
    simp at hx hy; subst hx; subst hy
    rw [alikeN, if_pos h]; omega
  | a :: l, b :: r, k + 1, x, y, hk, hx, hy, h => by
    simp at hx hy
    rw [alikeN] at hk ⊢
    split at hk
    · rename_i hs
      rw [if_pos hs]
      have := alikeN_yes (by omega) hx hy h
      omega
    · omega
theorem alikeN_no : ∀ {l r : List Tag} {k : Nat} {x y : Tag}, k ≤ alikeN l r → l[k]? = some x → r[k]? = some y → x.same y = false → alikeN l r = k
  | [], _, _, _, _, _, h, _, _ => by simp at h
  | _ :: _, [], _, _, _, _, _, h, _ => by simp at h
  | a :: l, b :: r, 0, x, y, _, hx, hy, h => by
    simp at hx hy; subst hx; subst hy
    rw [alikeN, if_neg (by rw [h]; simp)]
  | a :: l, b :: r, k + 1, x, y, hk, hx, hy, h => by
    simp at hx hy
    rw [alikeN] at hk ⊢
    split at hk
    · rename_i hs
      rw [if_pos hs, alikeN_no (by omega) hx hy h]
    · omega
def atOf (l : List Tag) (k : Nat) (d : Int) : Int := match l[k]? with | some t => t.at_ | none => d
def beginsB (a : List Tag) (ae : Int) (b : List Tag) (be : Int) : Bool := if alikeN a b < a.length then false else decide (ae ≤ atOf b (alikeN a b) be)
def compareN (a : List Tag) (ae : Int) (b : List Tag) (be : Int) : Int :=
  if (beginsB a ae b be && beginsB b be a ae) = true then 0 else if beginsB a ae b be = true then -1 else if beginsB b be a ae = true then 1 else 2
def minAt (l : List Tag) (k : Nat) (e : Int) : Int := match l[k]? with | some t => if t.at_ < e then t.at_ else e | none => e
def forkN (a : List Tag) (ae : Int) (b : List Tag) (be : Int) : Int :=
  let e := minAt b (alikeN a b) (minAt a (alikeN a b) (if be < ae then be else ae))
  if e < 0 then 0 else e
/-- The last tag that begins ahead of seq. -/
def ofUpto (l : List Tag) (seq : Int) : Nat → Int
  | 0 => 0
  | k + 1 => match l[k]? with | some t => if t.at_ < seq then t.id else ofUpto l seq k | none => ofUpto l seq k
def ofN (l : List Tag) (seq : Int) : Int := ofUpto l seq l.length
theorem atOf_some {l : List Tag} {k : Nat} {t : Tag} (h : l[k]? = some t) (d : Int) : atOf l k d = t.at_ := by rw [atOf, h]
theorem atOf_none {l : List Tag} {k : Nat} (h : l.length ≤ k) (d : Int) : atOf l k d = d := by rw [atOf, List.getElem?_eq_none h]
theorem minAt_some {l : List Tag} {k : Nat} {t : Tag} (h : l[k]? = some t) (e : Int) : minAt l k e = if t.at_ < e then t.at_ else e := by rw [minAt, h]
theorem minAt_none {l : List Tag} {k : Nat} (h : l.length ≤ k) (e : Int) : minAt l k e = e := by rw [minAt, List.getElem?_eq_none h]
/-- The end of what two histories share, by '<'. -/
def lowAt (l : List Tag) (k : Nat) (e : Int) : Int := match l[k]? with | some t => min e t.at_ | none => e
theorem minAt_low (l : List Tag) (k : Nat) (e : Int) : minAt l k e = lowAt l k e := by
  unfold minAt lowAt
  split
  · split <;> omega
  · rfl
theorem forkN_low (a : List Tag) (ae : Int) (b : List Tag) (be : Int) : forkN a ae b be = max (lowAt b (alikeN a b) (lowAt a (alikeN a b) (min ae be))) 0 := by
  have h : (if be < ae then be else ae) = min ae be := by split <;> omega
  unfold forkN
  simp only [minAt_low, h]
  split <;> omega
theorem lowAt_some {l : List Tag} {k : Nat} {t : Tag} (h : l[k]? = some t) (e : Int) : lowAt l k e = min e t.at_ := by rw [lowAt, h]
theorem lowAt_none {l : List Tag} {k : Nat} (h : l.length ≤ k) (e : Int) : lowAt l k e = e := by rw [lowAt, List.getElem?_eq_none h]
end Go.Proofs.Ytagfdgdoboncfaa
