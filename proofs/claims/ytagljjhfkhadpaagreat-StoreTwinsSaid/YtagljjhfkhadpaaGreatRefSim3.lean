/- The document's store and the program's: a fall, a barrier, each act. No program in sight. -/
import Derived.Test.YtagljjhfkhadpaaGreatRefSim2
import Derived.Test.YtagljjhfkhadpaaGreatRefEnds
set_option linter.unusedSimpArgs false
set_option linter.unusedVariables false
set_option linter.unusedSectionVars false
namespace Go.Proofs.YtagljjhfkhadpaaGreat
open Go.RowKit
theorem wrap_wrap (a b : Int) : wrap64 (wrap64 a + b) = wrap64 (a + b) := by unfold wrap64; omega
/-- The keys of a fall, one behind the other. -/
theorem fallL_at {keep : List Int} {torn : Int} : ∀ (ss : List K4) (i : Nat) (S : Str) (n : Int), ss.Nodup →
    (fallL keep torn ss i S n).1.late = S.late ∧ (fallL keep torn ss i S n).1.room = S.room ∧ (fallL keep torn ss i S n).1.deeds = S.deeds ∧
    (∀ (j : Nat) (k : K4), ss[j]? = some k → get k (fallL keep torn ss i S n).1.seen = (leftS S k (keepAt keep (i + j)) torn).1 ∧ get k (fallL keep torn ss i S n).1.dry = (leftS S k (keepAt keep (i + j)) torn).1) ∧
    (∀ k, k ∉ ss → get k (fallL keep torn ss i S n).1.seen = get k S.seen ∧ get k (fallL keep torn ss i S n).1.dry = get k S.dry)
  | [], _, S, _, _ => ⟨rfl, rfl, rfl, fun j k h => (by cases h), fun k _ => ⟨rfl, rfl⟩⟩
  | a :: ss, i, S, n, hn => by
    have hn' := List.nodup_cons.1 hn
    obtain ⟨h1, h2, h3, h4, h5⟩ := fallL_at (keep := keep) (torn := torn) ss (i + 1) (fallK S a (keepAt keep i) torn) (wrap64 (n + (leftS S a (keepAt keep i) torn).2)) hn'.2
    have e : fallL keep torn (a :: ss) i S n = fallL keep torn ss (i + 1) (fallK S a (keepAt keep i) torn) (wrap64 (n + (leftS S a (keepAt keep i) torn).2)) := rfl
    rw [e]
    have hs : ∀ k, get k (fallK S a (keepAt keep i) torn).seen = if k = a then (leftS S a (keepAt keep i) torn).1 else get k S.seen := fun k => seen_show S a k (wrap64 (sizeO (get a S.seen))) (leftS S a (keepAt keep i) torn).1
    have hd : ∀ k, get k (fallK S a (keepAt keep i) torn).dry = if k = a then (leftS S a (keepAt keep i) torn).1 else get k S.dry := fun k => get_dryPut a k _ S.dry
    refine ⟨h1, h2, h3, fun j k hj => ?_, fun k hk => ?_⟩
    · cases j with
      | zero =>
        simp only [List.getElem?_cons_zero, Option.some.injEq] at hj
        subst hj
        have := h5 a hn'.1
        rw [this.1, this.2, hs, hd]
        simp
      | succ j =>
        rw [List.getElem?_cons_succ] at hj
        have hk : k ≠ a := fun e => hn'.1 (e ▸ List.mem_of_getElem? hj)
        have := h4 j k hj
        have e2 : leftS (fallK S a (keepAt keep i) torn) k (keepAt keep (i + 1 + j)) torn = leftS S k (keepAt keep (i + (j + 1))) torn := by
          rw [show i + 1 + j = i + (j + 1) by omega]
          exact left_late (S := S) (S' := fallK S a (keepAt keep i) torn) (k := k) rfl (by rw [hd, if_neg hk]) _ _
        rw [this.1, this.2, e2]
        exact ⟨rfl, rfl⟩
    · have ek : k ≠ a := fun e => hk (e ▸ List.mem_cons_self ..)
      have := h5 k (fun h => hk (List.mem_cons_of_mem _ h))
      rw [this.1, this.2, hs, hd, if_neg ek, if_neg ek]
      exact ⟨rfl, rfl⟩
def lsum (S : Str) (keep : List Int) (torn : Int) : List K4 → Nat → Int
  | [], _ => 0
  | k :: ks, i => (leftS S k (keepAt keep i) torn).2 + lsum S keep torn ks (i + 1)
theorem lsum_cons (S : Str) (keep : List Int) (torn : Int) (k : K4) (ks : List K4) (i : Nat) : lsum S keep torn (k :: ks) i = (leftS S k (keepAt keep i) torn).2 + lsum S keep torn ks (i + 1) := rfl
theorem lsum_fallK (S : Str) (keep : List Int) (torn : Int) (a : K4) (x : Int) : ∀ (ss : List K4) (i : Nat), a ∉ ss → lsum (fallK S a x torn) keep torn ss i = lsum S keep torn ss i
  | [], _, _ => rfl
  | k :: ss, i, h => by
    have hk : k ≠ a := fun e => h (e ▸ List.mem_cons_self ..)
    rw [lsum_cons, lsum_cons, lsum_fallK S keep torn a x ss (i + 1) (fun q => h (List.mem_cons_of_mem _ q))]
    have hd : get k (fallK S a x torn).dry = get k S.dry := by
      have : get k (fallK S a x torn).dry = if k = a then (leftS S a x torn).1 else get k S.dry := get_dryPut a k _ S.dry
      rw [this, if_neg hk]
    rw [left_late (S := S) (S' := fallK S a x torn) (k := k) rfl hd]
theorem fallL_lost {keep : List Int} {torn : Int} : ∀ (ss : List K4) (i : Nat) (S : Str) (n : Int), ss.Nodup → (fallL keep torn ss i S (wrap64 n)).2 = wrap64 (n + lsum S keep torn ss i)
  | [], _, S, n, _ => by simp [fallL, lsum]
  | a :: ss, i, S, n, hn => by
    have hn' := List.nodup_cons.1 hn
    have e : fallL keep torn (a :: ss) i S (wrap64 n) = fallL keep torn ss (i + 1) (fallK S a (keepAt keep i) torn) (wrap64 (wrap64 n + (leftS S a (keepAt keep i) torn).2)) := rfl
    rw [e, wrap_wrap, fallL_lost ss (i + 1) _ _ hn'.2, lsum_fallK S keep torn a _ ss _ hn'.1]
    rw [lsum_cons]
    congr 1
    omega
/-- The document's fall, thing by thing. -/
def rfl3 (keep : List Int) (torn : Int) : Nat → List RT → List RT
  | _, [] => []
  | i, t :: L => if t.wet = [] then (if t.dry.there then t :: rfl3 keep torn i L else rfl3 keep torn i L)
    else if (rleaves t (rkeepN keep i t.wet.length) torn).there then ⟨t.key, rleaves t (rkeepN keep i t.wet.length) torn, []⟩ :: rfl3 keep torn (i + 1) L else rfl3 keep torn (i + 1) L
def rlost3 (keep : List Int) : Nat → List RT → Int
  | _, [] => 0
  | i, t :: L => if t.wet = [] then rlost3 keep i L else (t.wet.length : Int) - rkeepN keep i t.wet.length + rlost3 keep (i + 1) L
theorem rfl3_cons (keep : List Int) (torn : Int) (i : Nat) (t : RT) (L : List RT) : rfl3 keep torn i (t :: L) = if t.wet = [] then (if t.dry.there then t :: rfl3 keep torn i L else rfl3 keep torn i L)
    else if (rleaves t (rkeepN keep i t.wet.length) torn).there then ⟨t.key, rleaves t (rkeepN keep i t.wet.length) torn, []⟩ :: rfl3 keep torn (i + 1) L else rfl3 keep torn (i + 1) L := rfl
theorem rlost3_cons (keep : List Int) (i : Nat) (t : RT) (L : List RT) : rlost3 keep i (t :: L) = if t.wet = [] then rlost3 keep i L else (t.wet.length : Int) - rkeepN keep i t.wet.length + rlost3 keep (i + 1) L := rfl
theorem fold_fall (keep : List Int) (torn : Int) : ∀ (L : List RT) (s : RF), (L.foldl (fallStep keep torn) s).out = s.out ++ rfl3 keep torn s.at_ L ∧ (L.foldl (fallStep keep torn) s).lost = s.lost + rlost3 keep s.at_ L
  | [], s => by simp [rfl3, rlost3]
  | t :: L, s => by
    rw [List.foldl_cons]
    have ih := fold_fall keep torn L (fallStep keep torn s t)
    rw [ih.1, ih.2, rfl3_cons, rlost3_cons]
    unfold fallStep
    by_cases hw : t.wet = []
    · simp only [hw, if_true]
      split <;> simp
    · simp only [hw, if_false]
      refine ⟨?_, by omega⟩
      split <;> simp
theorem keptN_eq (keep : List Int) (i n : Nat) : keptN (keepAt keep i) n = rkeepN keep i n := by
  unfold keptN keepAt rkeepN
  cases keep[i]? with
  | none => simp; omega
  | some k =>
    simp only [Option.getD_some]
    unfold heldI
    split
    · omega
    · split <;> omega
theorem toD_kind {d : RD} (h1 : 1 ≤ d.what) (h2 : d.what ≤ 5) : (toD d).kind = 1 ↔ d.what = 2 := by
  unfold toD madeD wroteD setD
  split
  · simp; omega
  · split
    · simp; omega
    · split
      · simp; omega
      · split
        · simp; omega
        · simp; omega
section
variable {S : Str} {R : RS}
theorem SR.left (h : SR S R) {t : RT} (ht : t ∈ R.l) (keep : List Int) (torn : Int) (i : Nat) :
    SameB (rleaves t (rkeepN keep i t.wet.length) torn) (leftS S t.key (keepAt keep i) torn).1 ∧ (leftS S t.key (keepAt keep i) torn).2 = (t.wet.length : Int) - rkeepN keep i t.wet.length := by
  obtain ⟨h1, h2, h3⟩ := h.obj t ht
  unfold leftS
  rw [h2]
  simp only
  rw [List.length_map, keptN_eq]
  refine ⟨?_, rfl⟩
  obtain ⟨k, hk⟩ : ∃ k, rkeepN keep i t.wet.length = k := ⟨_, rfl⟩
  rw [hk, ← List.map_take, List.getElem?_map]
  unfold rleaves
  have hs := same_fold h1 (h3.take k)
  cases e : t.wet[k]? with
  | none => exact hs
  | some d =>
    have hl := h3.at e
    simp only [Option.map_some]
    have hkk := toD_kind hl.lo hl.hi
    by_cases hc : d.what = 2 ∧ 0 < torn
    · rw [if_pos hc]
      obtain ⟨o, ho⟩ := Option.isSome_iff_exists.1 (hl.at_.resolve_left (by omega))
      rw [ho] at hs ⊢
      obtain ⟨q1, q2, q3, q4⟩ := hs
      have hp : (toD d).p = d.p := by unfold toD; rw [if_neg (by omega), if_pos hc.1]; rfl
      have hn : (toD d).n = d.n := by unfold toD; rw [if_neg (by omega), if_pos hc.1]; rfl
      have hkd : (toD d).kind = 1 := (toD_kind hl.lo hl.hi).2 hc.1
      by_cases hp0 : d.p = []
      · rw [if_neg (by rw [hp]; exact fun q => q.2.2 hp0)]
        refine ⟨q1, ?_, q3, q4⟩
        show layB _ _ (d.p.take _) = _
        rw [hp0]
        simp [layB, q2]
      · rw [if_pos ⟨hkd, hc.2, by rw [hp]; exact hp0⟩]
        unfold stepD tornD
        simp only [hkd, hp, hn]
        exact ⟨q1, by simp [q2], q3, q4⟩
    · rw [if_neg hc, if_neg (fun q => hc ⟨hkk.1 q.1, q.2.1⟩)]
      exact hs
def wetKeys (L : List RT) : List K4 := (L.filter fun t => !t.wet.isEmpty).map RT.key
theorem wetKeys_sub (L : List RT) : (wetKeys L).Sublist (L.map RT.key) := List.filter_sublist.map _
theorem wetKeys_cons (t : RT) (L : List RT) : wetKeys (t :: L) = if t.wet = [] then wetKeys L else t.key :: wetKeys L := by
  unfold wetKeys
  by_cases h : t.wet = []
  · rw [if_pos h, List.filter_cons_of_neg (by simp [h])]
  · rw [if_neg h, List.filter_cons_of_pos (by simpa using h)]; rfl
theorem fall_go (h : SR S R) (keep : List Int) (torn : Int) (V : K4 → Option TS) : ∀ (L : List RT) (i : Nat), (∀ t ∈ L, t ∈ R.l) → Rising (L.map RT.key) →
    (∀ (j : Nat) (k : K4), (wetKeys L)[j]? = some k → V k = (leftS S k (keepAt keep (i + j)) torn).1) → (∀ t ∈ L, t.wet = [] → V t.key = get t.key S.dry) →
    (∀ u ∈ rfl3 keep torn i L, u.wet = [] ∧ SameB u.dry (V u.key)) ∧ (∀ t ∈ L, t.key ∉ (rfl3 keep torn i L).map RT.key → V t.key = none) ∧ ((rfl3 keep torn i L).map RT.key).Sublist (L.map RT.key) ∧ rlost3 keep i L = lsum S keep torn (wetKeys L) i
  | [], i, _, _, _, _ => ⟨fun u hu => (by cases hu), fun t ht => (by cases ht), List.Sublist.refl _, rfl⟩
  | t :: L, i, hL, hr, hw, hd => by
    have hr' := List.pairwise_cons.1 (show List.Pairwise _ (t.key :: L.map RT.key) from hr)
    have htk : ∀ u ∈ L, u.key ≠ t.key := fun u hu e => by
      have := hr'.1 u.key (List.mem_map.2 ⟨u, hu, rfl⟩)
      rw [e, lt_irr] at this
      cases this
    have ht := hL t (List.mem_cons_self ..)
    by_cases h0 : t.wet = []
    · have hwk : wetKeys (t :: L) = wetKeys L := by rw [wetKeys_cons, if_pos h0]
      rw [hwk] at hw
      obtain ⟨q1, q2, q3, q4⟩ := fall_go h keep torn V L i (fun u hu => hL u (List.mem_cons_of_mem _ hu)) hr'.2 hw (fun u hu => hd u (List.mem_cons_of_mem _ hu))
      have hv := hd t (List.mem_cons_self ..) h0
      have hb := (h.obj t ht).1
      rw [hwk]
      rw [rfl3_cons, rlost3_cons, if_pos h0, if_pos h0]
      split
      · rename_i hth
        refine ⟨fun u hu => ?_, fun u hu hk => ?_, q3.cons_cons _, q4⟩
        · rcases List.mem_cons.1 hu with rfl | hu
          · exact ⟨h0, by rw [hv]; exact hb⟩
          · exact q1 u hu
        · rcases List.mem_cons.1 hu with rfl | hu
          · exact absurd (List.mem_cons_self ..) hk
          · exact q2 u hu fun q => hk (List.mem_cons_of_mem _ q)
      · rename_i hth
        refine ⟨q1, fun u hu hk => ?_, q3.cons _, q4⟩
        rcases List.mem_cons.1 hu with rfl | hu
        · rw [hv]
          have := hb.there
          cases q : get u.key S.dry with
          | none => rfl
          | some x => rw [q] at this; exact absurd this hth
        · exact q2 u hu hk
    · have hwk : wetKeys (t :: L) = t.key :: wetKeys L := by rw [wetKeys_cons, if_neg h0]
      rw [hwk] at hw
      obtain ⟨q1, q2, q3, q4⟩ := fall_go h keep torn V L (i + 1) (fun u hu => hL u (List.mem_cons_of_mem _ hu)) hr'.2 (fun j k e => by
        have := hw (j + 1) k (by rw [List.getElem?_cons_succ]; exact e)
        rw [this, show i + 1 + j = i + (j + 1) by omega]) (fun u hu => hd u (List.mem_cons_of_mem _ hu))
      have hv : V t.key = (leftS S t.key (keepAt keep i) torn).1 := hw 0 t.key rfl
      obtain ⟨hb, hlo⟩ := h.left ht keep torn i
      rw [hwk]
      rw [rfl3_cons, rlost3_cons, lsum_cons, if_neg h0, if_neg h0, hlo, q4]
      split
      · rename_i hth
        refine ⟨fun u hu => ?_, fun u hu hk => ?_, q3.cons_cons _, rfl⟩
        · rcases List.mem_cons.1 hu with rfl | hu
          · exact ⟨rfl, by simp only; rw [hv]; exact hb⟩
          · exact q1 u hu
        · rcases List.mem_cons.1 hu with rfl | hu
          · exact absurd (List.mem_cons_self ..) hk
          · exact q2 u hu fun q => hk (List.mem_cons_of_mem _ q)
      · rename_i hth
        refine ⟨q1, fun u hu hk => ?_, q3.cons _, rfl⟩
        rcases List.mem_cons.1 hu with rfl | hu
        · rw [hv]
          have := hb.there
          cases q : (leftS S u.key (keepAt keep i) torn).1 with
          | none => rfl
          | some x => rw [q] at this; exact absurd this hth
        · exact q2 u hu hk
theorem SR.su (h : SR S R) : SU S := ⟨h.seenN, h.used, h.keys⟩
theorem mem_late (h : SR S R) {k : K4} : k ∈ S.late.map (·.1) ↔ k ∈ wetKeys R.l := by
  constructor
  · intro hk
    obtain ⟨x, hx, rfl⟩ := List.mem_map.1 hk
    have hg := get_of_mem h.lateN (show (x.1, x.2) ∈ S.late from hx)
    have hl : lateAt S x.1 = x.2 := by unfold lateAt; rw [hg]; rfl
    have hne := h.lates x hx
    have hin : x.1 ∈ R.l.map RT.key := Decidable.byContradiction fun q => hne (hl ▸ (h.other _ q).2)
    obtain ⟨t, ht, e⟩ := List.mem_map.1 hin
    refine List.mem_map.2 ⟨t, List.mem_filter.2 ⟨ht, ?_⟩, e⟩
    have := (h.obj t ht).2.1
    rw [e, hl] at this
    cases q : t.wet with
    | nil => rw [q] at this; exact absurd this hne
    | cons a b => rfl
  · intro hk
    obtain ⟨t, ht, rfl⟩ := List.mem_map.1 hk
    obtain ⟨ht1, ht2⟩ := List.mem_filter.1 ht
    refine Decidable.byContradiction fun q => ?_
    have h1 := (h.obj t ht1).2.1
    rw [lateAt_none q] at h1
    cases q : t.wet with
    | nil => rw [q] at ht2; cases ht2
    | cons a b => rw [q] at h1; cases h1
theorem SR.fall (h : SR S R) (hon : R.off = false) (keep : List Int) (torn : Int) : SR (fallS S keep torn).1 (rfall R keep torn).1 ∧ (fallS S keep torn).2 = wrap64 (rfall R keep torn).2 := by
  have hso : S.on = true := by rw [h.on, hon]; rfl
  have hwr : Rising (wetKeys R.l) := List.Pairwise.sublist (wetKeys_sub _) h.rise
  have hss : sortK (S.late.map (·.1)) = wetKeys R.l := by
    refine rising_eq (sort_rising h.lateN) hwr ?_
    refine (sort_perm _).trans ((List.perm_ext_iff_of_nodup h.lateN (rising_nodup hwr)).2 fun k => mem_late h)
  have hfold := fold_fall keep torn R.l ⟨[], 0, 0⟩
  obtain ⟨b1, b2, b3, b4, b5⟩ := fallL_at (keep := keep) (torn := torn) (wetKeys R.l) 0 S 0 (rising_nodup hwr)
  have hsu := su_fallL keep torn (wetKeys R.l) 0 S 0 h.su
  have hlost := fallL_lost (keep := keep) (torn := torn) (wetKeys R.l) 0 S 0 (rising_nodup hwr)
  rw [show wrap64 0 = 0 by unfold wrap64; omega] at hlost
  obtain ⟨g1, g2, g3, g4⟩ := fall_go h keep torn (fun k => get k (fallL keep torn (wetKeys R.l) 0 S 0).1.dry) R.l 0 (fun t ht => ht) h.rise (fun j k e => (b4 j k e).2) (fun t ht e => (b5 t.key fun q => by
    obtain ⟨u, hu, hk⟩ := List.mem_map.1 q
    obtain ⟨hu1, hu2⟩ := List.mem_filter.1 hu
    have q3 := (h.obj u hu1).2.1
    rw [hk, (h.obj t ht).2.1, e] at q3
    cases q2 : u.wet with
    | nil => rw [q2] at hu2; cases hu2
    | cons a b => rw [q2] at q3; cases q3).2)
  have e1 : (fallS S keep torn).1 = fallEnd (fallL keep torn (wetKeys R.l) 0 S 0).1 := by unfold fallS; rw [if_pos hso, hss]
  have e2 : (fallS S keep torn).2 = (fallL keep torn (wetKeys R.l) 0 S 0).2 := by unfold fallS; rw [if_pos hso, hss]
  have e3 : rfall R keep torn = ({ R with l := rfl3 keep torn 0 R.l, off := true, fused := false }, rlost3 keep 0 R.l) := by
    unfold rfall
    rw [if_neg (by simp [hon])]
    simp only [hfold.1, hfold.2]
    simp
  have hff := fall_fell hso h.lateN h.coh keep torn
  rw [e3]
  refine ⟨?_, ?_⟩
  · have hco := hff.coh
    have hlt := hff.late
    have hwt := hff.wet
    have hrm := hff.room
    have hdd := hff.deeds
    rw [e1] at hco hlt hwt hrm hdd ⊢
    obtain ⟨T, hT⟩ : ∃ T, (fallL keep torn (wetKeys R.l) 0 S 0).1 = T := ⟨_, rfl⟩
    rw [hT] at hco hlt hwt hrm hdd b4 b5 g1 g2 hsu ⊢
    have hla : ∀ k, lateAt (fallEnd T) k = [] := fun k => by unfold lateAt; rw [hlt]; rfl
    refine ⟨hrm.trans h.room, rfl, rfl, fun q => (by cases q), hdd.trans h.count, ?_, ?_, ?_, hco, hsu.seenN, by rw [hlt]; exact List.nodup_nil, fun x hx => (by rw [hlt] at hx; cases hx), hsu.used, ?_, KeysOK.of hsu.keys rfl rfl⟩
    · exact List.Pairwise.sublist g3 h.rise
    · intro u hu
      obtain ⟨k1, k2⟩ := g1 u hu
      refine ⟨k2, by rw [hla, k1]; rfl, by rw [k1]; trivial⟩
    · intro k hk
      refine ⟨?_, hla k⟩
      show get k T.dry = Option.none
      by_cases q : k ∈ R.l.map RT.key
      · obtain ⟨t, ht, rfl⟩ := List.mem_map.1 q
        exact g2 t ht hk
      · rw [(b5 k fun q2 => q ((wetKeys_sub _).subset q2)).2]
        exact (h.other k q).1
    · rw [hwt]
      have : wetSum (rfl3 keep torn 0 R.l) = 0 := by
        unfold wetSum
        have : (rfl3 keep torn 0 R.l).map (fun t => (t.wet.length : Int)) = (rfl3 keep torn 0 R.l).map (fun _ => (0 : Int)) := List.map_congr_left fun u hu => by rw [(g1 u hu).1]; rfl
        rw [this]
        generalize rfl3 keep torn 0 R.l = M
        induction M with
        | nil => rfl
        | cons a M ih => simpa using ih
      show (0 : Int) = wrap64 (wetSum _)
      rw [this]
      simp [wrap64]
  · rw [e2, hlost, g4]
    simp
theorem SR.burn (h : SR S R) (hon : R.off = false) : (burnsS S).1 = (rburn R).1 ∧ SR (burnsS S).2 (rburn R).2 := by
  unfold burnsS rburn
  rw [h.armed]
  cases hf : R.fused with
  | false => exact ⟨rfl, h⟩
  | true =>
    obtain ⟨q1, q2, q3⟩ := h.fz hf
    simp only [if_true, Bool.true_eq_false, if_false, q1]
    by_cases hn : 0 < R.n
    · rw [if_pos hn, if_pos hn]
      exact ⟨rfl, ⟨h.room, h.on, rfl, fun _ => ⟨rfl, q2, q3⟩, h.count, h.rise, h.obj, h.other, h.coh, h.seenN, h.lateN, h.lates, h.used, h.wet, ⟨h.keys.rise, h.keys.mem⟩⟩⟩
    · rw [if_neg hn, if_neg hn, q2, q3]
      exact ⟨rfl, (h.fall hon R.keep R.torn).1⟩
theorem rburn_false {R : RS} (h : (rburn R).1 = false) : (rburn R).2.l = R.l ∧ (rburn R).2.count = R.count ∧ (rburn R).2.room = R.room ∧ (rburn R).2.off = R.off := by
  unfold rburn at *
  split
  · exact ⟨rfl, rfl, rfl, rfl⟩
  · rename_i hf
    rw [if_neg hf] at h
    split
    · exact ⟨rfl, rfl, rfl, rfl⟩
    · rename_i hn
      rw [if_neg hn] at h
      cases h
/-- A deed that the fuse doesn't take. -/
theorem SR.did (h : SR S R) (hon : R.off = false) {k : K4} {d : RD} (hl : LegD (get k S.seen) d) (hb : (rburn R).1 = false) :
    (doS S k (toD d)).1 = false ∧ SR (doS S k (toD d)).2 { (rburn R).2 with l := rput R.l k d, count := wrap64 (R.count + 1) } := by
  obtain ⟨hb1, hb2⟩ := h.burn hon
  rw [hb] at hb1
  obtain ⟨hdf, hdn⟩ := do_done (k := k) (d := toD d) hb1
  have hco := hdn.coh h.coh
  obtain ⟨f, hf⟩ := burns_not hb1
  rw [hf] at hb2
  have e : (doS S k (toD d)).2 = { showS { S with fuse := f } k (wrap64 (sizeO (get k S.seen))) (stepD (get k S.seen) (toD d)) with
      late := put k (lateAt S k ++ [toD d]) S.late, wet := wrap64 (S.wet + 1), deeds := wrap64 (S.deeds + 1) } := by
    unfold doS
    rw [hb1, hf]
    rfl
  have hsu := su_show (S := { S with fuse := f }) ⟨h.seenN, h.used, ⟨h.keys.rise, h.keys.mem⟩⟩ k (stepD (get k S.seen) (toD d))
  refine ⟨hdf, ?_⟩
  have hla : ∀ k', lateAt (doS S k (toD d)).2 k' = if k' = k then lateAt S k ++ [toD d] else lateAt S k' := hdn.late
  have hdr : (doS S k (toD d)).2.dry = S.dry := hdn.dry
  rw [e] at hco hla hdr ⊢
  refine ⟨hb2.room, hb2.on, hb2.armed, hb2.fz, ?_, ?_, ?_, ?_, hco, hsu.seenN, put_nodup h.lateN, ?_, hsu.used, ?_, KeysOK.of hsu.keys rfl rfl⟩
  · show wrap64 (S.deeds + 1) = wrap64 (R.count + 1)
    rw [h.count]
  · show Rising ((rput R.l k d).map RT.key)
    rw [rput_R]
    exact rputR_rise k d h.rise
  · intro t ht
    have ht : t ∈ rputR k d R.l := by rw [← rput_R]; exact ht
    rw [hla, hdr]
    rcases rputR_mem k d h.rise ht with ⟨t1, t2⟩ | ⟨u, u1, u2, rfl⟩ | ⟨n1, rfl⟩
    · rw [if_neg t2]
      exact h.obj t t1
    · simp only
      rw [if_pos u2]
      obtain ⟨o1, o2, o3⟩ := h.obj u u1
      refine ⟨o1, by rw [← u2, o2]; simp, o3.snoc ?_⟩
      rw [← o2, ← h.coh, u2]
      exact hl
    · simp only
      obtain ⟨o1, o2⟩ := h.other k n1
      rw [if_pos trivial, o1, o2]
      refine ⟨rfl, rfl, ?_, trivial⟩
      rw [h.none n1] at hl
      exact hl
  · intro k' hk'
    have hk' : k' ∉ (rput R.l k d).map RT.key := hk'
    rw [rput_R, rputR_keys] at hk'
    rw [hla, hdr, if_neg (fun q => hk' (.inl q))]
    exact h.other k' fun q => hk' (.inr q)
  · intro x hx
    have hx : x ∈ put k (lateAt S k ++ [toD d]) S.late := hx
    rcases List.mem_cons.1 hx with rfl | hx
    · simp
    · exact h.lates x (List.mem_filter.1 hx).1
  · show wrap64 (S.wet + 1) = wrap64 (wetSum (rput R.l k d))
    rw [rput_R, rputR_wet, h.wet, wrap_wrap]
theorem SR.done (h : SR S R) (hon : R.off = false) {k : K4} {d : RD} (hl : LegD (get k S.seen) d) :
    offE (doS S k (toD d)).1 = (if (rburn R).1 then 7 else 0) ∧ SR (doS S k (toD d)).2 (if (rburn R).1 then (rburn R).2 else { (rburn R).2 with l := rput R.l k d, count := wrap64 (R.count + 1) }) := by
  cases hb : (rburn R).1 with
  | false =>
    obtain ⟨q1, q2⟩ := h.did hon hl hb
    rw [q1]
    exact ⟨rfl, q2⟩
  | true =>
    obtain ⟨hb1, hb2⟩ := h.burn hon
    rw [hb] at hb1
    rw [do_burnt hb1]
    exact ⟨rfl, hb2⟩
theorem SR.bar (h : SR S R) : (barrierS S).1 = (rbarrier R).1 ∧ SR (barrierS S).2 (rbarrier R).2 := by
  unfold rbarrier
  cases hon : R.off with
  | true =>
    have hso : S.on = false := by rw [h.on, hon]; rfl
    unfold barrierS
    rw [if_pos hso]
    exact ⟨rfl, h⟩
  | false =>
    have hso : S.on = true := by rw [h.on, hon]; rfl
    obtain ⟨hb1, hb2⟩ := h.burn hon
    rw [if_neg (by simp)]
    cases hb : (rburn R).1 with
    | true =>
      rw [hb] at hb1
      rw [barrier_burnt hso hb1]
      exact ⟨rfl, hb2⟩
    | false =>
      rw [hb] at hb1
      obtain ⟨d1, d2⟩ := barrier_dried hso h.coh hb1
      obtain ⟨f, hf⟩ := burns_not hb1
      rw [hf] at hb2
      have e : (barrierS S).2 = { S with fuse := f, dry := dryAll S, late := [], wet := 0, deeds := wrap64 (S.deeds + 1) } := by
        unfold barrierS
        rw [if_neg (by simp [hso]), hb1, hf]
        rfl
      refine ⟨d1, ?_⟩
      have hco := d2.coh
      have hdr := d2.dry
      rw [e] at hco hdr ⊢
      rw [if_neg (by simp)]
      have hl2 := rburn_false hb
      refine ⟨hb2.room, hb2.on, hb2.armed, hb2.fz, ?_, ?_, ?_, ?_, hco, h.seenN, List.nodup_nil, fun x hx => (by cases hx), h.used, ?_, ⟨h.keys.rise, h.keys.mem⟩⟩
      · show wrap64 (S.deeds + 1) = wrap64 (R.count + 1)
        rw [h.count]
      · show Rising (((R.l.filter fun t => (rnow t).there).map fun t => (⟨t.key, rnow t, []⟩ : RT)).map RT.key)
        rw [List.map_map]
        exact List.Pairwise.sublist (List.filter_sublist.map RT.key) h.rise
      · intro t ht
        obtain ⟨u, hu, rfl⟩ := List.mem_map.1 (show t ∈ ((R.l.filter fun t => (rnow t).there).map fun t => (⟨t.key, rnow t, []⟩ : RT)) from ht)
        have hu1 := (List.mem_filter.1 hu).1
        refine ⟨?_, rfl, trivial⟩
        show SameB (rnow u) (get u.key (dryAll S))
        rw [show get u.key (dryAll S) = get u.key S.seen from hdr u.key]
        exact h.now hu1
      · intro k hk
        refine ⟨?_, rfl⟩
        show get k (dryAll S) = Option.none
        rw [show get k (dryAll S) = get k S.seen from hdr k]
        by_cases q : k ∈ R.l.map RT.key
        · obtain ⟨t, ht, rfl⟩ := List.mem_map.1 q
          have hn := h.now ht
          cases hg : get t.key S.seen with
          | none => rfl
          | some x =>
            rw [hg] at hn
            refine absurd ?_ hk
            show t.key ∈ ((R.l.filter fun t => (rnow t).there).map fun t => (⟨t.key, rnow t, []⟩ : RT)).map RT.key
            rw [List.map_map]
            exact List.mem_map.2 ⟨t, List.mem_filter.2 ⟨ht, hn.1⟩, rfl⟩
        · exact h.none q
      · show (0 : Int) = wrap64 (wetSum ((R.l.filter fun t => (rnow t).there).map fun t => (⟨t.key, rnow t, []⟩ : RT)))
        have : ∀ M : List RT, wetSum (M.map fun t => (⟨t.key, rnow t, []⟩ : RT)) = 0 := fun M => by
          induction M with
          | nil => rfl
          | cons a M ih => unfold wetSum at *; simpa using ih
        rw [this]
        simp [wrap64]
end
end Go.Proofs.YtagljjhfkhadpaaGreat
