/- Keys that are made and dropped, as a row of bools. No program in sight. -/
import Derived.Test.YtnokhjhhadnckaaStoreOps
set_option linter.unusedSimpArgs false
set_option linter.unusedVariables false
set_option linter.unusedSectionVars false
namespace Go.Proofs.Ytnokhjhhadnckaa
open Go.RowKit
def kn (n : Nat) : K4 := ⟨4, 1, (n : Int) / 8, (n : Int) % 8⟩
theorem kn_inj {a b : Nat} (h : kn a = kn b) : a = b := by
  simp only [kn, K4.mk.injEq, true_and] at h
  omega
theorem kn_ok {n : Nat} (h : n < 64) : (kn n).ok = true := by
  have h1 : n / 8 ≤ 7 := by omega
  have h2 : n % 8 ≤ 7 := by omega
  unfold K4.ok kn
  rw [decide_eq_true_eq]
  refine ⟨?_, ?_, ?_, ?_, ?_, ?_, ?_, ?_⟩ <;> simp only <;> omega
theorem kn_lt {a b : Nat} (h : a < b) : (kn a).lt (kn b) = true := by
  unfold K4.lt kn
  rw [decide_eq_true_eq]
  refine .inr ⟨rfl, .inr ⟨rfl, ?_⟩⟩
  simp only
  omega
def LL (T : Nat → Bool) : List K4 := ((List.range 64).filter T).map kn
theorem mem_LL {T : Nat → Bool} {k : K4} : k ∈ LL T ↔ ∃ n, n < 64 ∧ T n = true ∧ kn n = k := by
  unfold LL
  rw [List.mem_map]
  constructor
  · rintro ⟨n, hn, e⟩
    have := List.mem_filter.1 hn
    exact ⟨n, List.mem_range.1 this.1, this.2, e⟩
  · rintro ⟨n, h1, h2, e⟩
    exact ⟨n, List.mem_filter.2 ⟨List.mem_range.2 h1, h2⟩, e⟩
theorem mem_LL_kn {T : Nat → Bool} {n : Nat} (hn : n < 64) : kn n ∈ LL T ↔ T n = true := by
  rw [mem_LL]
  constructor
  · rintro ⟨m, _, h2, e⟩
    rw [← kn_inj e]; exact h2
  · exact fun h => ⟨n, hn, h, rfl⟩
theorem rising_LL (T : Nat → Bool) : Rising (LL T) := by
  unfold LL Rising
  rw [List.pairwise_map]
  exact (List.Pairwise.filter _ (List.pairwise_lt_range (n := 64))).imp fun h => kn_lt h
def updB (T : Nat → Bool) (n : Nat) (b : Bool) : Nat → Bool := fun x => if x = n then b else T x
theorem eq_of_mem {a b : List K4} (ha : Rising a) (hb : Rising b) (h : ∀ k, k ∈ a ↔ k ∈ b) : a = b :=
  rising_eq ha hb ((List.perm_ext_iff_of_nodup (rising_nodup ha) (rising_nodup hb)).2 h)
theorem mem_addK {k a : K4} {ks : List K4} : a ∈ addK k ks ↔ a = k ∨ a ∈ ks := by
  rw [(add_perm k ks).mem_iff, List.mem_cons]
theorem addK_LL {T : Nat → Bool} {n : Nat} (hn : n < 64) (ht : T n = false) : addK (kn n) (LL T) = LL (updB T n true) := by
  refine eq_of_mem (rising_add (rising_LL T) (fun h => by rw [mem_LL_kn hn, ht] at h; cases h)) (rising_LL _) fun k => ?_
  rw [mem_addK, mem_LL, mem_LL]
  constructor
  · rintro (rfl | ⟨m, h1, h2, e⟩)
    · exact ⟨n, hn, by simp [updB], rfl⟩
    · exact ⟨m, h1, (by unfold updB; split; (· rfl); exact h2), e⟩
  · rintro ⟨m, h1, h2, e⟩
    by_cases hmn : m = n
    · subst hmn; exact .inl e.symm
    · exact .inr ⟨m, h1, by simpa [updB, hmn] using h2, e⟩
theorem remK_LL {T : Nat → Bool} {n : Nat} : remK (kn n) (LL T) = LL (updB T n false) := by
  refine eq_of_mem (rising_rem (rising_LL T)) (rising_LL _) fun k => ?_
  unfold remK
  rw [List.mem_filter, mem_LL, mem_LL]
  constructor
  · rintro ⟨⟨m, h1, h2, e⟩, h3⟩
    have hmn : m ≠ n := fun q => by subst q; simp [e] at h3
    exact ⟨m, h1, by simpa [updB, hmn] using h2, e⟩
  · rintro ⟨m, h1, h2, e⟩
    by_cases hmn : m = n
    · subst hmn; simp [updB] at h2
    · refine ⟨⟨m, h1, by simpa [updB, hmn] using h2, e⟩, ?_⟩
      rw [decide_eq_true_eq, ← e]
      exact fun q => hmn (kn_inj q)
structure LI (S : Str) (T : Nat → Bool) (m : Nat) : Prop where
  on : S.on = true
  arm : S.armed = false
  seen : ∀ n, n < 64 → (get (kn n) S.seen).isSome = T n
  len : S.seen.length ≤ m
  keys : keysAt S ⟨4, 1⟩ = LL T
  other : ∀ g : G2, g ≠ ⟨4, 1⟩ → keysAt S g = []
theorem LI.new : LI (newS 1000) (fun _ => false) 0 :=
  ⟨rfl, rfl, fun n _ => rfl, Nat.le_refl _, by rw [show LL (fun _ => false) = [] by decide]; rfl, fun g _ => rfl⟩
theorem burns_calm {S : Str} (h : S.armed = false) : burnsS S = (false, S) := by simp [burnsS, h]
theorem LI.why {S : Str} {T : Nat → Bool} {m : Nat} (h : LI S T m) {n : Nat} (hn : n < 64) : whyS S (kn n) = if T n then 0 else 4 := by
  have h1 : mayS S (kn n) = 0 := by simp [mayS, h.on, kn_ok hn]
  unfold whyS
  rw [if_pos h1, h.seen n hn]
theorem len_del {S : List (K4 × TS)} (k : K4) : (del k S).length ≤ S.length := List.length_filter_le _ _
theorem LI.make_there {S : Str} {T : Nat → Bool} {m : Nat} (h : LI S T m) {n : Nat} (hn : n < 64) (ht : T n = true) : makeS S (kn n) = (5, S) := by
  have := h.why hn
  rw [ht] at this
  simp [makeS, this]
theorem LI.make {S : Str} {T : Nat → Bool} {m : Nat} (h : LI S T m) {n : Nat} (hn : n < 64) (ht : T n = false) (hm : m < 2000) : ∃ S', makeS S (kn n) = (0, S') ∧ LI S' (updB T n true) (m + 1) := by
  have hw := h.why hn
  rw [ht] at hw
  have hl := h.len
  have hst : ∀ o, stepD o madeD = some ⟨[], []⟩ := fun o => by simp [stepD, madeD]
  have hk : kn n ∉ keysAt S (kn n).grp := by
    show kn n ∉ keysAt S ⟨4, 1⟩
    rw [h.keys, mem_LL_kn hn, ht]
    simp
  refine ⟨_, by
    unfold makeS
    rw [hw, if_neg (by decide), if_neg (by decide), if_neg (by omega)]
    unfold doS
    rw [burns_calm h.arm]
    simp only [Bool.false_eq_true, if_false, offE]
    rfl, ?_⟩
  rw [hst]
  refine ⟨h.on, h.arm, fun i hi => ?_, ?_, ?_, fun g hg => ?_⟩
  · show (get (kn i) (put (kn n) ⟨[], []⟩ S.seen)).isSome = _
    by_cases e : i = n
    · subst e; simp [get_put_same, updB]
    · rw [get_put_ne (fun q => e (kn_inj q)), h.seen i hi]; simp [updB, e]
  · show (put (kn n) ⟨[], []⟩ S.seen).length ≤ _
    have := put_len (kn n) (⟨[], []⟩ : TS) S.seen
    omega
  · show (get ⟨4, 1⟩ (showS S (kn n) (wrap64 (sizeO (get (kn n) S.seen))) (some ⟨[], []⟩)).keys).getD [] = _
    simp only [showS, hk, if_false]
    rw [show (kn n).grp = ⟨4, 1⟩ from rfl, get_put_same, Option.getD_some, h.keys, addK_LL hn ht]
  · show (get g (showS S (kn n) (wrap64 (sizeO (get (kn n) S.seen))) (some ⟨[], []⟩)).keys).getD [] = _
    simp only [showS, hk, if_false]
    rw [get_put_ne (show g ≠ (kn n).grp from hg)]
    exact h.other g hg
theorem LI.drop {S : Str} {T : Nat → Bool} {m : Nat} (h : LI S T m) {n : Nat} (hn : n < 64) (ht : T n = true) : ∃ S', dropS S (kn n) = (0, S') ∧ LI S' (updB T n false) m := by
  have hw := h.why hn
  rw [ht] at hw
  have hl := h.len
  have hst : ∀ o, stepD o (⟨3, 0, [], ⟨#[]⟩⟩ : Dd) = none := fun o => by simp [stepD]
  have hk : kn n ∈ keysAt S (kn n).grp := by
    show kn n ∈ keysAt S ⟨4, 1⟩
    rw [h.keys, mem_LL_kn hn, ht]
  refine ⟨_, by
    unfold dropS
    rw [hw, if_pos (by decide)]
    unfold doS
    rw [burns_calm h.arm]
    simp only [Bool.false_eq_true, if_false, offE]
    rfl, ?_⟩
  rw [hst]
  refine ⟨h.on, h.arm, fun i hi => ?_, ?_, ?_, fun g hg => ?_⟩
  · show (get (kn i) (del (kn n) S.seen)).isSome = _
    by_cases e : i = n
    · subst e; simp [get_del_same, updB]
    · rw [get_del_ne (fun q => e (kn_inj q)), h.seen i hi]; simp [updB, e]
  · show (del (kn n) S.seen).length ≤ _
    have := len_del (S := S.seen) (kn n)
    omega
  · show (get ⟨4, 1⟩ (showS S (kn n) (wrap64 (sizeO (get (kn n) S.seen))) none).keys).getD [] = _
    simp only [showS, hk, if_true]
    rw [show (kn n).grp = ⟨4, 1⟩ from rfl, get_put_same, Option.getD_some, h.keys, remK_LL]
  · show (get g (showS S (kn n) (wrap64 (sizeO (get (kn n) S.seen))) none).keys).getD [] = _
    simp only [showS, hk, if_true]
    rw [get_put_ne (show g ≠ (kn n).grp from hg)]
    exact h.other g hg
theorem LI.told {S : Str} {T : Nat → Bool} {m : Nat} (h : LI S T m) : keysTold S ⟨4, 1⟩ = LL T := by simp [keysTold, h.on, h.keys]
theorem LI.told_none {S : Str} {T : Nat → Bool} {m : Nat} (h : LI S T m) {g : G2} (hg : g ≠ ⟨4, 1⟩) : keysTold S g = [] := by simp [keysTold, h.on, h.other g hg]
/-- The numbers of the keys that are told. -/
def numsOf (T : Nat → Bool) (n : Nat) : List Int := ((List.range n).filter T).map fun i : Nat => (i : Int)
theorem numsOf_succ (T : Nat → Bool) (n : Nat) : numsOf T (n + 1) = numsOf T n ++ (if T n then [(n : Int)] else []) := by
  unfold numsOf
  rw [List.range_succ, List.filter_append, List.map_append]
  cases h : T n <;> simp [List.filter_cons, h]
def gotOf (ks : List K4) : List Int := ks.map fun k => k.num * 8 + k.snap
theorem got_LL (T : Nat → Bool) : gotOf (LL T) = numsOf T 64 := by
  unfold gotOf LL numsOf
  rw [List.map_map]
  refine List.map_congr_left fun n _ => ?_
  simp only [Function.comp, kn]
  omega
end Go.Proofs.Ytnokhjhhadnckaa
