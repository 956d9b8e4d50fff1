/- What a fall leaves of rows that were appended. No program in sight. -/
import Derived.Test.YtagljjhfkhadpaaGreatStoreOps
set_option linter.unusedSimpArgs false
set_option linter.unusedVariables false
set_option linter.unusedSectionVars false
namespace Go.Proofs.YtagljjhfkhadpaaGreat
open Go.RowKit
theorem layB_end (b p : List Int) : layB b b.length p = b ++ p := by
  unfold layB
  split
  · rename_i h; rw [h, List.append_nil]
  · rw [show b.length + p.length - b.length = p.length by omega, List.take_append_of_le_length (Nat.le_refl _), List.take_of_length_le (Nat.le_refl _), List.drop_of_length_le (by omega), List.append_nil]
def kkK : K4 := ⟨1, 0, 3, 0⟩
/-- The deeds that append these rows, one behind the other, from n on. -/
def deedsOf : Nat → List (List Int) → List Dd
  | _, [] => []
  | n, p :: ps => wroteD n p :: deedsOf (n + p.length) ps
def skS (ps : List (List Int)) : Str :=
  ⟨65536, ps.flatten.length, 2 + ps.length, ps.length, true, [(kkK, ⟨ps.flatten, []⟩)], [(kkK, ⟨[], []⟩)], if ps = [] then [] else [(kkK, deedsOf 0 ps)], [(⟨1, 0⟩, [kkK])], false, 0, 0, []⟩
theorem kk0_make : (makeS (newS 65536) kkK).1 = 0 := by kernel_rfl
theorem kk0_eq : barrierS (makeS (newS 65536) kkK).2 = (0, skS []) := by kernel_rfl
theorem deedsOf_snoc : ∀ (n : Nat) (ps : List (List Int)) (p : List Int), deedsOf n (ps ++ [p]) = deedsOf n ps ++ [wroteD (n + ps.flatten.length : Nat) p]
  | n, [], p => by simp [deedsOf]
  | n, q :: ps, p => by
    rw [List.cons_append, deedsOf, deedsOf_snoc, deedsOf]
    simp [Nat.add_assoc]
theorem deedsOf_length : ∀ (n : Nat) (ps : List (List Int)), (deedsOf n ps).length = ps.length
  | _, [] => rfl
  | n, q :: ps => by rw [deedsOf, List.length_cons, deedsOf_length, List.length_cons]
theorem deedsOf_get : ∀ (n : Nat) (ps : List (List Int)) (i : Nat), (deedsOf n ps)[i]? = (ps[i]?).map fun p => wroteD ((n + (ps.take i).flatten.length : Nat) : Int) p
  | _, [], i => by simp [deedsOf]
  | n, q :: ps, 0 => by simp [deedsOf]
  | n, q :: ps, i + 1 => by
    rw [deedsOf, List.getElem?_cons_succ, deedsOf_get, List.getElem?_cons_succ]
    simp [Nat.add_assoc]
theorem deedsOf_fold (b : List Int) (at_ : List (ByteArray × List Int)) : ∀ (ps : List (List Int)) (i : Nat), ((deedsOf b.length ps).take i).foldl stepD (some ⟨b, at_⟩) = some ⟨b ++ (ps.take i).flatten, at_⟩
  | [], i => by simp [deedsOf]
  | q :: ps, 0 => by simp
  | q :: ps, i + 1 => by
    rw [deedsOf, List.take_succ_cons, List.foldl_cons]
    have e : stepD (some ⟨b, at_⟩) (wroteD (b.length : Nat) q) = some ⟨b ++ q, at_⟩ := by
      simp [stepD, wroteD, layB_end]
    rw [e, show b.length + q.length = (b ++ q).length by simp, deedsOf_fold (b ++ q) at_ ps i]
    simp
theorem sk_get (ps : List (List Int)) : get kkK (skS ps).seen = some ⟨ps.flatten, []⟩ := by simp [skS, get]
theorem sk_why (ps : List (List Int)) : whyS (skS ps) kkK = 0 := by
  have h : mayS (skS ps) kkK = 0 := by simp [mayS, skS, kkK, K4.ok]
  simp [whyS, h, sk_get]
theorem sk_late (ps : List (List Int)) : lateAt (skS ps) kkK = deedsOf 0 ps := by
  unfold lateAt skS
  by_cases h : ps = []
  · subst h; rfl
  · simp [h, get]
theorem wrap_small {x : Int} (h : -9223372036854775808 ≤ x) (h2 : x ≤ 9223372036854775807) : wrap64 x = x := by unfold wrap64; omega
theorem sk_app (ps : List (List Int)) (p : List Int) (h : ps.flatten.length + p.length ≤ 16384) (hn : ps.length ≤ 1000) : appendS (skS ps) kkK p = (0, skS (ps ++ [p])) := by
  have hr : roomS (skS ps) = 65536 - ps.flatten.length := by
    unfold roomS
    rw [show (skS ps).room = 65536 from rfl, show (skS ps).used = ps.flatten.length from rfl, wrap_small (by omega) (by omega)]
    omega
  have hww : writeWhy (skS ps) ⟨ps.flatten, []⟩ (ps.flatten.length : Int) p = 0 := by
    unfold writeWhy
    rw [if_neg (by omega), if_neg (by rw [hr]; simp only; omega)]
  have ha : appendS (skS ps) kkK p = writeS (skS ps) kkK (ps.flatten.length : Int) p := by simp [appendS, sk_get]
  rw [ha, writeS_ok (sk_why ps) (sk_get ps) hww]
  have hb : burnsS (skS ps) = (false, skS ps) := rfl
  have hst : stepD (get kkK (skS ps).seen) (wroteD (ps.flatten.length : Int) p) = some ⟨ps.flatten ++ p, []⟩ := by
    rw [sk_get]
    show some (⟨layB ps.flatten ((ps.flatten.length : Int)).toNat p, []⟩ : TS) = _
    rw [Int.toNat_natCast, layB_end]
  have hk : kkK ∈ keysAt (skS ps) kkK.grp := by
    show kkK ∈ (get kkK.grp [((⟨1, 0⟩ : G2), [kkK])]).getD []
    decide
  have hsz : wrap64 (sizeO (get kkK (skS ps).seen)) = ps.flatten.length := by
    rw [sk_get]
    simp only [sizeO, TS.size, attrSize, List.map_nil, List.sum_nil]
    rw [wrap_small (by omega) (by omega)]
    omega
  have hlt : ∀ (u : Int), lateAt { skS ps with seen := put kkK ⟨ps.flatten ++ p, []⟩ (skS ps).seen, used := u } kkK = deedsOf 0 ps := fun u => sk_late ps
  unfold doS
  rw [hb]
  have hsn : sizeO (some (⟨ps.flatten ++ p, []⟩ : TS)) = ((ps.flatten ++ p).length : Int) + 0 := rfl
  simp only [Bool.false_eq_true, if_false, hst, hsz]
  simp only [showS, hk, if_true, hsn]
  rw [hlt]
  have hdl : del kkK (skS ps).late = [] := by
    unfold skS del
    by_cases h : ps = []
    · simp [h]
    · simp [h]
  have hds : deedsOf 0 ps ++ [wroteD (ps.flatten.length : Int) p] = deedsOf 0 (ps ++ [p]) := by rw [deedsOf_snoc, Nat.zero_add]
  have e1 : wrap64 ((skS ps).wet + 1) = ((ps ++ [p]).length : Int) := by
    rw [show (skS ps).wet = (ps.length : Int) from rfl, wrap_small (by omega) (by omega)]; simp
  have e2 : wrap64 ((skS ps).deeds + 1) = 2 + ((ps ++ [p]).length : Int) := by
    rw [show (skS ps).deeds = 2 + (ps.length : Int) from rfl, wrap_small (by omega) (by omega)]; simp; omega
  have e3 : IntKind.i64.wrap ((skS ps).used + (((ps.flatten ++ p).length : Int) + 0 - (ps.flatten.length : Int))) = ((ps ++ [p]).flatten.length : Int) := by
    rw [show (skS ps).used = (ps.flatten.length : Int) from rfl, IntKind.wrap_i64, List.length_append]
    have : (ps ++ [p]).flatten.length = ps.flatten.length + p.length := by simp
    omega
  have e4 : put kkK ⟨ps.flatten ++ p, []⟩ (skS ps).seen = [(kkK, ⟨(ps ++ [p]).flatten, []⟩)] := by
    simp [put, del, skS]
  rw [e1, e2, e3, e4, hds]
  unfold put
  rw [hdl]
  simp [skS, offE]
def pieceS (ps : List (List Int)) (keep torn : Int) : List Int :=
  match ps[keep.toNat]? with
  | some p => if 0 < torn ∧ 1 < p.length then p.take (min torn ((p.length : Int) - 1)).toNat else []
  | none => []
def wantS (ps : List (List Int)) (keep torn : Int) : List Int := (ps.take keep.toNat).flatten ++ pieceS ps keep torn
theorem sk_left (ps : List (List Int)) (keep torn : Int) : leftS (skS ps) kkK keep torn = (some ⟨wantS ps keep torn, []⟩, (ps.length : Int) - min (max keep 0) ps.length) := by
  have hd : get kkK (skS ps).dry = some ⟨[], []⟩ := by simp [skS, get]
  unfold leftS
  simp only [sk_late, hd, deedsOf_length]
  have hf : ∀ i, ((deedsOf 0 ps).take i).foldl stepD (some ⟨[], []⟩) = some ⟨(ps.take i).flatten, []⟩ := fun i => by
    have := deedsOf_fold [] [] ps i
    simpa using this
  rw [hf, deedsOf_get]
  congr 1
  · by_cases hk : keep.toNat < ps.length
    · have hn : keptN keep ps.length = keep.toNat := by unfold keptN; omega
      rw [hn]
      have hp : ps[keep.toNat]? = some ps[keep.toNat] := List.getElem?_eq_getElem hk
      unfold wantS pieceS
      rw [hp]
      simp only [Option.map_some]
      generalize ps[keep.toNat] = q
      by_cases h1 : 0 < torn ∧ q ≠ []
      · rw [if_pos ⟨rfl, h1.1, h1.2⟩]
        have e : stepD (some ⟨(ps.take keep.toNat).flatten, []⟩) (tornD torn (wroteD ((0 + (ps.take keep.toNat).flatten.length : Nat) : Int) q)) = some ⟨(ps.take keep.toNat).flatten ++ q.take (min torn.toNat (q.length - 1)), []⟩ := by
          show some (⟨layB (ps.take keep.toNat).flatten (((0 + (ps.take keep.toNat).flatten.length : Nat) : Int)).toNat (q.take (min torn.toNat (q.length - 1))), []⟩ : TS) = _
          rw [Int.toNat_natCast, Nat.zero_add, layB_end]
        rw [e]
        have hq : 0 < q.length := List.length_pos_iff.2 h1.2
        by_cases h2 : 1 < q.length
        · rw [if_pos ⟨h1.1, h2⟩, show (min torn ((q.length : Int) - 1)).toNat = min torn.toNat (q.length - 1) by omega]
        · rw [if_neg (fun h => h2 h.2), show min torn.toNat (q.length - 1) = 0 by omega, List.take_zero]
      · rw [if_neg (fun h => h1 ⟨h.2.1, h.2.2⟩), if_neg, List.append_nil]
        rintro ⟨h2, h3⟩
        exact h1 ⟨h2, fun e => by rw [e] at h3; simp at h3⟩
    · have hn : keptN keep ps.length = ps.length := by unfold keptN; omega
      rw [hn]
      unfold wantS pieceS
      rw [List.getElem?_eq_none (Nat.le_of_not_lt hk), List.getElem?_eq_none (Nat.le_refl _)]
      simp only [Option.map_none, List.append_nil]
      rw [List.take_of_length_le (Nat.le_refl _), List.take_of_length_le (Nat.le_of_not_lt hk)]
  · unfold keptN; omega
theorem read_all {S : Str} {k : K4} {t : TS} {n : Int} (hon : S.on = true) (hk : k.ok = true) (hg : get k S.seen = some t) (hn : (t.b.length : Int) ≤ n) : readS S k 0 n = (t.b, 0) := by
  have hm : mayS S k = 0 := by simp [mayS, hon, hk]
  have hw : whyS S k = 0 := by simp [whyS, hm, hg]
  unfold readS
  rw [if_pos hw, hg]
  simp only
  rw [if_neg (by omega), show ((0 : Int)).toNat = 0 from rfl, List.drop_zero, Nat.sub_zero, List.take_of_length_le (by omega)]
theorem want_length (ps : List (List Int)) (keep torn : Int) : (wantS ps keep torn).length ≤ ps.flatten.length := by
  unfold wantS pieceS
  have h0 : (ps.take keep.toNat).flatten.length + (ps.drop keep.toNat).flatten.length = ps.flatten.length := by
    rw [← List.length_append, ← List.flatten_append, List.take_append_drop]
  cases hp : ps[keep.toNat]? with
  | none => simp only [List.append_nil]; omega
  | some p =>
    have h1 : p.length ≤ (ps.drop keep.toNat).flatten.length := by
      obtain ⟨hlt, he⟩ := List.getElem?_eq_some_iff.1 hp
      rw [List.drop_eq_getElem_cons hlt, he, List.flatten_cons, List.length_append]
      omega
    simp only [List.length_append]
    split
    · rw [List.length_take]; omega
    · simp only [List.length_nil]; omega
theorem sk_fall (ps : List (List Int)) (keep torn : Int) (h : ps.flatten.length ≤ 16384) (hn : ps.length ≤ 1000) :
    (fallS (skS ps) [keep] torn).2 = (ps.length : Int) - min (max keep 0) ps.length ∧ readS (powerS (fallS (skS ps) [keep] torn).1) kkK 0 1048576 = (wantS ps keep torn, 0) := by
  have hon : (skS ps).on = true := rfl
  have hok : kkK.ok = true := by decide
  have hwl := want_length ps keep torn
  by_cases h0 : ps = []
  · subst h0
    refine ⟨?_, ?_⟩
    · have : (fallS (skS []) [keep] torn).2 = 0 := rfl
      rw [this]
      simp
      omega
    · refine (read_all (t := ⟨[], []⟩) rfl hok rfl (by simp)).trans ?_
      simp [wantS, pieceS]
  · have hl : sortK ((skS ps).late.map (·.1)) = [kkK] := by
      have : (skS ps).late = [(kkK, deedsOf 0 ps)] := by simp [skS, h0]
      rw [this]
      rfl
    have hf : fallL [keep] torn [kkK] 0 (skS ps) 0 = (fallK (skS ps) kkK keep torn, wrap64 (0 + (leftS (skS ps) kkK keep torn).2)) := rfl
    have hfs : fallS (skS ps) [keep] torn = (fallEnd (fallK (skS ps) kkK keep torn), wrap64 (0 + (leftS (skS ps) kkK keep torn).2)) := by
      unfold fallS
      rw [if_pos hon, hl, hf]
    rw [hfs, sk_left]
    refine ⟨?_, ?_⟩
    · simp only
      rw [wrap_small (by omega) (by omega)]
      omega
    · refine read_all (t := ⟨wantS ps keep torn, []⟩) rfl hok ?_ (by simp only; omega)
      show get kkK (showS (skS ps) kkK (wrap64 (sizeO (get kkK (skS ps).seen))) (leftS (skS ps) kkK keep torn).1).seen = _
      rw [sk_left]
      simp [showS, get_put_same]
theorem want_snoc (ps : List (List Int)) (p : List Int) (keep torn : Int) :
    wantS (ps ++ [p]) keep torn = wantS ps keep torn ++ (if (ps.length : Int) < keep then p else []) ++ (if (ps.length : Int) = max keep 0 ∧ 0 < torn ∧ 1 < p.length then p.take (min torn ((p.length : Int) - 1)).toNat else []) := by
  unfold wantS pieceS
  by_cases h1 : ps.length < keep.toNat
  · rw [if_pos (by omega), if_neg (by omega), List.getElem?_eq_none (by simp; omega), List.getElem?_eq_none (by omega)]
    simp only [List.append_nil]
    rw [List.take_of_length_le (by simp; omega), List.take_of_length_le (by omega)]
    simp
  · rw [if_neg (by omega)]
    by_cases h2 : ps.length = keep.toNat
    · rw [← h2, List.getElem?_append_right (Nat.le_refl _), Nat.sub_self, List.getElem?_cons_zero, List.getElem?_eq_none (Nat.le_refl _), List.take_append_of_le_length (Nat.le_refl _)]
      simp only [List.append_nil]
      by_cases h3 : 0 < torn ∧ 1 < p.length
      · rw [if_pos h3, if_pos ⟨by omega, h3⟩]
      · rw [if_neg h3, if_neg (fun h => h3 h.2)]
    · rw [if_neg (by omega), List.getElem?_append_left (by omega), List.take_append_of_le_length (by omega), List.append_nil, List.append_nil]
end Go.Proofs.YtagljjhfkhadpaaGreat
