/- Package cow, as plain functions of the store. No program in sight. -/
import Derived.Test.YtagljjhfkhadpaaGreatStoreOps
set_option linter.unusedSimpArgs false
set_option linter.unusedVariables false
set_option linter.unusedSectionVars false
namespace Go.Proofs.YtagljjhfkhadpaaGreat
open Go.RowKit
def dK (img num snap : Int) : K4 := ⟨4, img, num, snap⟩
def nmW : ByteArray := ⟨#[119]⟩
def objB (img num : Int) : Bool := decide (0 ≤ img ∧ img ≤ 255 ∧ 0 ≤ num ∧ num ≤ 512)
def snapB (n : Int) : Bool := decide (0 ≤ n ∧ n ≤ 1073741824)
def withinB (off n : Int) : Bool := decide (0 ≤ off ∧ off ≤ 64 ∧ 0 ≤ n ∧ n ≤ 64 - off)
def cmayS (S : Str) (fine : Bool) : Int := if S.on = false then 7 else if fine = false then 1 else 0
def copyB (S : Str) (num : Int) (k : K4) : Bool := decide (k.num = num ∧ k.snap ≠ 0) && decide ((attrS S k nmW).2 = 0)
/-- The numbers of the copies that are whole. -/
def copiesL (S : Str) (num : Int) (ks : List K4) : List Int := (ks.filter (copyB S num)).map (·.snap)
def copiesS (S : Str) (img num : Int) : List Int := copiesL S num (keysTold S ⟨4, img⟩)
def atS (S : Str) (img num snap : Int) : K4 × Bool :=
  match (if 0 < snap then (copiesS S img num).find? (fun n => decide (snap ≤ n)) else none) with
  | some n => (dK img num n, decide ((attrS S (dK img num n) nmW).1 = [1]))
  | none => (dK img num 0, decide (whyS S (dK img num 0) = 0))
def allS (S : Str) (k : K4) : List Int := (readS S k 0 (lenAt S k)).1
/-- n bytes from off on, noughts where there are none. -/
def padB (b : List Int) (off n : Nat) : List Int := (b.drop off).take n ++ List.replicate (n - (b.length - off)) 0
def creadS (S : Str) (img num snap off n : Int) : List Int × Int :=
  if cmayS S (objB img num && snapB snap && withinB off n) ≠ 0 then ([], cmayS S (objB img num && snapB snap && withinB off n))
  else (padB (if (atS S img num snap).2 then allS S (atS S img num snap).1 else []) off.toNat n.toNat, 0)
def cthereS (S : Str) (img num snap : Int) : Bool × Int :=
  if cmayS S (objB img num && snapB snap) ≠ 0 then (false, cmayS S (objB img num && snapB snap)) else ((atS S img num snap).2, 0)
def csizeS (S : Str) (img num snap : Int) : Int × Int :=
  if cmayS S (objB img num && snapB snap) ≠ 0 then (0, cmayS S (objB img num && snapB snap))
  else (if (atS S img num snap).2 then lenAt S (atS S img num snap).1 else 0, 0)
def thenE (r : Int × Str) (f : Str → Int × Str) : Int × Str := if r.1 = 0 then f r.2 else r
/-- A refusal for want of room has the object be gone. -/
def dropsE (r : Int × Str) (k : K4) : Int × Str := if r.1 = 6 then (if (dropS r.2 k).1 = 7 then 7 else 6, (dropS r.2 k).2) else r
def saveA (S : Str) (k : K4) : Int × Str := if whyS S k = 0 then dropS S k else (0, S)
def saveB (S : Str) (k head : K4) : Int × Str := if whyS S head = 0 then appendS S k (allS S head) else (0, S)
def saveC (S : Str) (k : K4) (st : Int) : Int × Str := if (setS S k nmW [st]).1 = 0 then barrierS (setS S k nmW [st]).2 else dropsE (setS S k nmW [st]) k
def stateS (S : Str) (head : K4) : Int := if whyS S head = 0 then 1 else 2
def saveD (S : Str) (k head : K4) : Int × Str := if (saveB S k head).1 = 0 then saveC (saveB S k head).2 k (stateS S head) else dropsE (saveB S k head) k
def saveS (S : Str) (img num newest : Int) : Int × Str :=
  thenE (saveA S (dK img num newest)) fun S1 => thenE (makeS S1 (dK img num newest)) fun S2 => saveD S2 (dK img num newest) (dK img num 0)
def coveredB (S : Str) (img num newest : Int) : Bool := match (copiesS S img num).getLast? with
  | some n => decide (newest ≤ n)
  | none => false
def aheadS (S : Str) (img num newest : Int) : Int × Str := if newest = 0 ∨ coveredB S img num newest = true then (0, S) else saveS S img num newest
def clayS (S : Str) (k : K4) (off : Int) (p : List Int) : Int × Str :=
  if whyS S k = 0 then writeS S k off p else thenE (makeS S k) fun S1 => dropsE (writeS S1 k off p) k
def cwriteS (S : Str) (img num newest off : Int) (p : List Int) : Int × Str :=
  if cmayS S (objB img num && snapB newest && withinB off p.length) ≠ 0 then (cmayS S (objB img num && snapB newest && withinB off p.length), S)
  else if p = [] then (0, S) else thenE (aheadS S img num newest) fun S1 => clayS S1 (dK img num 0) off p
def cclearS (S : Str) (img num newest off n : Int) : Int × Str :=
  if cmayS S (objB img num && snapB newest && withinB off n) ≠ 0 then (cmayS S (objB img num && snapB newest && withinB off n), S)
  else if whyS S (dK img num 0) ≠ 0 then (0, S)
  else thenE (aheadS S img num newest) fun S1 => if min n (lenAt S (dK img num 0) - off) < 1 then (0, S1) else writeS S1 (dK img num 0) off (List.replicate (min n (lenAt S (dK img num 0) - off)).toNat 0)
def ccutS (S : Str) (img num newest size : Int) : Int × Str :=
  if cmayS S (objB img num && snapB newest && withinB 0 size) ≠ 0 then (cmayS S (objB img num && snapB newest && withinB 0 size), S)
  else if whyS S (dK img num 0) ≠ 0 ∨ (0 < size ∧ lenAt S (dK img num 0) ≤ size) then (0, S)
  else thenE (aheadS S img num newest) fun S1 => if size = 0 then dropS S1 (dK img num 0) else trimS S1 (dK img num 0) size
def turnS (S : Str) (k : K4) (p : List Int) : Int × Str :=
  if p = [] then (if whyS S k = 0 then dropS S k else (0, S))
  else if whyS S k ≠ 0 then clayS S k 0 p
  else if roomS S < p.length - lenAt S k then (6, S)
  else if (p.length : Int) < lenAt S k then thenE (trimS S k p.length) fun S1 => writeS S1 k 0 p
  else writeS S k 0 p
def claySn (S : Str) (img num newest : Int) (p : List Int) : Int × Str :=
  if cmayS S (objB img num && snapB newest && withinB 0 p.length) ≠ 0 then (cmayS S (objB img num && snapB newest && withinB 0 p.length), S)
  else thenE (aheadS S img num newest) fun S1 => turnS S1 (dK img num 0) p
def backL (S : Str) (img num snap : Int) : List Int := if (atS S img num snap).2 then allS S (atS S img num snap).1 else []
def cbackS (S : Str) (img num newest snap : Int) : Int × Str :=
  if cmayS S (objB img num && snapB newest && snapB snap) ≠ 0 then (cmayS S (objB img num && snapB newest && snapB snap), S)
  else thenE (aheadS S img num newest) fun S1 => turnS S1 (dK img num 0) (backL S1 img num snap)
def seenB (marks : List Int) (below n : Int) : Bool := marks.any fun m => decide (below < m) && decide (m ≤ n)
def tidyL (marks : List Int) : List K4 → Int → Int → Str → Int × Str
  | [], _, _, S => (0, S)
  | k :: ks, last, below, S =>
    let below := if k.num = last then below else 0
    if k.snap = 0 then tidyL marks ks k.num below S
    else if (attrS S k nmW).2 = 0 ∧ seenB marks below k.snap = true then tidyL marks ks k.num k.snap S
    else thenE (dropS S k) fun S1 => tidyL marks ks k.num (if (attrS S k nmW).2 = 0 then k.snap else below) S1
def tidyS (S : Str) (img : Int) (marks : List Int) : Int × Str :=
  if cmayS S (objB img 0) ≠ 0 then (cmayS S (objB img 0), S) else tidyL marks (keysTold S ⟨4, img⟩) (-1) 0 S
/-- So many deeds more may come. -/
theorem thenE_keeps {r : Int × Str} {f : Str → Int × Str} {m n : Nat} (h : Keeps r.2 n) (hm : m ≤ n) (hf : Keeps r.2 n → Keeps (f r.2).2 m) : Keeps (thenE r f).2 m := by
  unfold thenE
  split
  · exact hf h
  · exact h.fewer hm
theorem dropsE_keeps {r : Int × Str} {k : K4} {m : Nat} (h : Keeps r.2 (m + 2)) : Keeps (dropsE r k).2 m := by
  unfold dropsE
  split
  · exact dropS_keeps h
  · exact h.fewer (by omega)
theorem saveD_keeps {S : Str} {k head : K4} {m : Nat} (h : Keeps S (m + 6)) : Keeps (saveD S k head).2 m := by
  have hB : Keeps (saveB S k head).2 (m + 4) := by
    unfold saveB
    split
    · exact appendS_keeps h
    · exact h.fewer (by omega)
  have hs := setS_keeps (k := k) (nm := nmW) (v := [stateS S head]) hB
  unfold saveD
  split
  · unfold saveC
    split
    · exact barrierS_keeps (hs.fewer (by omega))
    · exact dropsE_keeps hs
  · exact dropsE_keeps (hB.fewer (by omega))
theorem saveS_keeps {S : Str} {img num newest : Int} {m : Nat} (h : Keeps S (m + 10)) : Keeps (saveS S img num newest).2 m := by
  have hA : Keeps (saveA S (dK img num newest)).2 (m + 8) := by
    unfold saveA
    split
    · exact dropS_keeps h
    · exact h.fewer (by omega)
  exact thenE_keeps hA (by omega) fun hA => thenE_keeps (makeS_keeps hA) (by omega) fun h2 => saveD_keeps h2
theorem aheadS_keeps {S : Str} {img num newest : Int} {m : Nat} (h : Keeps S (m + 10)) : Keeps (aheadS S img num newest).2 m := by
  unfold aheadS
  split
  · exact h.fewer (by omega)
  · exact saveS_keeps h
theorem clayS_keeps {S : Str} {k : K4} {off : Int} {p : List Int} {m : Nat} (h : Keeps S (m + 6)) : Keeps (clayS S k off p).2 m := by
  unfold clayS
  split
  · exact writeS_keeps (h.fewer (by omega))
  · exact thenE_keeps (makeS_keeps h) (by omega) fun h2 => dropsE_keeps (writeS_keeps h2)
theorem turnS_keeps {S : Str} {k : K4} {p : List Int} {m : Nat} (h : Keeps S (m + 6)) : Keeps (turnS S k p).2 m := by
  unfold turnS
  split
  · split
    · exact dropS_keeps (h.fewer (by omega))
    · exact h.fewer (by omega)
  split
  · exact clayS_keeps h
  split
  · exact h.fewer (by omega)
  split
  · exact thenE_keeps (trimS_keeps (m := m + 4) h) (by omega) fun h2 => writeS_keeps (h2.fewer (by omega))
  · exact writeS_keeps (h.fewer (by omega))
theorem cwriteS_keeps {S : Str} {img num newest off : Int} {p : List Int} {m : Nat} (h : Keeps S (m + 16)) : Keeps (cwriteS S img num newest off p).2 m := by
  unfold cwriteS
  split
  · exact h.fewer (by omega)
  split
  · exact h.fewer (by omega)
  · exact thenE_keeps (aheadS_keeps h) (by omega) fun h2 => clayS_keeps h2
theorem cclearS_keeps {S : Str} {img num newest off n : Int} {m : Nat} (h : Keeps S (m + 16)) : Keeps (cclearS S img num newest off n).2 m := by
  unfold cclearS
  split
  · exact h.fewer (by omega)
  split
  · exact h.fewer (by omega)
  · refine thenE_keeps (aheadS_keeps h) (by omega) fun h2 => ?_
    split
    · exact h2.fewer (by omega)
    · exact writeS_keeps (h2.fewer (by omega))
theorem ccutS_keeps {S : Str} {img num newest size : Int} {m : Nat} (h : Keeps S (m + 16)) : Keeps (ccutS S img num newest size).2 m := by
  unfold ccutS
  split
  · exact h.fewer (by omega)
  split
  · exact h.fewer (by omega)
  · refine thenE_keeps (aheadS_keeps h) (by omega) fun h2 => ?_
    split
    · exact dropS_keeps (h2.fewer (by omega))
    · exact trimS_keeps (h2.fewer (by omega))
theorem claySn_keeps {S : Str} {img num newest : Int} {p : List Int} {m : Nat} (h : Keeps S (m + 16)) : Keeps (claySn S img num newest p).2 m := by
  unfold claySn
  split
  · exact h.fewer (by omega)
  · exact thenE_keeps (aheadS_keeps h) (by omega) fun h2 => turnS_keeps h2
theorem cbackS_keeps {S : Str} {img num newest snap : Int} {m : Nat} (h : Keeps S (m + 16)) : Keeps (cbackS S img num newest snap).2 m := by
  unfold cbackS
  split
  · exact h.fewer (by omega)
  · exact thenE_keeps (aheadS_keeps h) (by omega) fun h2 => turnS_keeps h2
theorem tidyL_keeps {marks : List Int} : ∀ {ks : List K4} {last below : Int} {S : Str} {m : Nat}, Keeps S (m + 2 * ks.length) → Keeps (tidyL marks ks last below S).2 m
  | [], _, _, _, _, h => h
  | k :: ks, last, below, S, m, h => by
    have h2 : Keeps S (m + 2 * ks.length + 2) := h.fewer (by simp only [List.length_cons]; omega)
    unfold tidyL
    simp only
    generalize (if k.num = last then below else 0) = bl
    split
    · exact tidyL_keeps (h2.fewer (by omega))
    split
    · exact tidyL_keeps (h2.fewer (by omega))
    · exact thenE_keeps (dropS_keeps h2) (by omega) fun h3 => tidyL_keeps h3
theorem tidyS_keeps {S : Str} {img : Int} {marks : List Int} {m : Nat} (h : Keeps S (m + 2 * (keysTold S ⟨4, img⟩).length)) : Keeps (tidyS S img marks).2 m := by
  unfold tidyS
  split
  · exact h.fewer (by omega)
  · exact tidyL_keeps h
end Go.Proofs.YtagljjhfkhadpaaGreat
