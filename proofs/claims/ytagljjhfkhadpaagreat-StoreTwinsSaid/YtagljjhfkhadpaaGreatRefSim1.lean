/- The document's store and the program's: attributes, objects, deeds. No program in sight. -/
import Derived.Test.YtagljjhfkhadpaaGreatRefTwo
import Derived.Test.YtagljjhfkhadpaaGreatCowInv
import Derived.Laws.Strings
set_option linter.unusedSimpArgs false
set_option linter.unusedVariables false
set_option linter.unusedSectionVars false
namespace Go.Proofs.YtagljjhfkhadpaaGreat
open Go.RowKit
theorem bl_irrefl : ∀ x : List UInt8, Op.bytesLess x x = false
  | [] => rfl
  | a :: x => by simp [Op.bytesLess, bl_irrefl x]
theorem bl_trans : ∀ {x y z : List UInt8}, Op.bytesLess x y = true → Op.bytesLess y z = true → Op.bytesLess x z = true
  | x, y, [], _, h => by cases y <;> simp [Op.bytesLess] at h
  | x, [], c :: z, h, _ => by cases x <;> simp [Op.bytesLess] at h
  | [], b :: y, c :: z, _, _ => rfl
  | a :: x, b :: y, c :: z, h, k => by
    simp only [Op.bytesLess, Bool.or_eq_true, decide_eq_true_eq, Bool.and_eq_true, beq_iff_eq, UInt8.lt_iff_toNat_lt, ← UInt8.toNat_inj] at *
    rcases h with h | ⟨h, h'⟩ <;> rcases k with k | ⟨k, k'⟩
    · exact .inl (by omega)
    · exact .inl (by omega)
    · exact .inl (by omega)
    · exact .inr ⟨by omega, bl_trans h' k'⟩
theorem bl_tri : ∀ {x y : List UInt8}, Op.bytesLess x y = false → Op.bytesLess y x = false → x = y
  | [], [], _, _ => rfl
  | [], b :: y, h, _ => by simp [Op.bytesLess] at h
  | a :: x, [], _, h => by simp [Op.bytesLess] at h
  | a :: x, b :: y, h, k => by
    simp only [Op.bytesLess, Bool.or_eq_false_iff, decide_eq_false_iff_not, Bool.and_eq_false_iff, beq_eq_false_iff_ne, ne_eq, UInt8.lt_iff_toNat_lt, ← UInt8.toNat_inj] at *
    have e : a = b := by rw [← UInt8.toNat_inj]; omega
    subst e
    have h' := h.2.resolve_left (fun q => q rfl)
    have k' := k.2.resolve_left (fun q => q rfl)
    rw [bl_tri h' k']
def nlt (a b : ByteArray) : Bool := Op.bytesLess a.toList b.toList
theorem nlt_irrefl (a : ByteArray) : nlt a a = false := bl_irrefl _
theorem nlt_trans {a b c : ByteArray} (h : nlt a b = true) (k : nlt b c = true) : nlt a c = true := bl_trans h k
theorem toList_inj {a b : ByteArray} (h : a.toList = b.toList) : a = b := by
  rw [ByteArray.toList_eq, ByteArray.toList_eq] at h
  exact ByteArray.ext (Array.toList_inj.1 h)
theorem nlt_tri {a b : ByteArray} (h : nlt a b = false) (k : nlt b a = false) : a = b := toList_inj (bl_tri h k)
abbrev AL := List (ByteArray × List Int)
def RiseA (l : AL) : Prop := l.Pairwise fun a b => nlt a.1 b.1 = true
theorem done_fold (nm : ByteArray) (v : List Int) : ∀ (l acc : AL), l.foldl (setStep nm v) (acc, true) = (acc ++ l, true)
  | [], acc => by simp
  | x :: l, acc => by
    rw [List.foldl_cons, show setStep nm v (acc, true) x = (acc ++ [x], true) by simp [setStep], done_fold nm v l]
    simp
def newA (nm : ByteArray) (v : List Int) : AL := if v = [] then [] else [(nm, v)]
theorem rset_go (nm : ByteArray) (v : List Int) : ∀ (l acc : AL), RiseA l →
    (l.foldl (setStep nm v) (acc, false)).1 ++ (if (l.foldl (setStep nm v) (acc, false)).2 = false ∧ v ≠ [] then [(nm, v)] else []) =
    acc ++ (l.filter (fun x => nlt x.1 nm) ++ newA nm v ++ l.filter (fun x => nlt nm x.1))
  | [], acc, _ => by
    unfold newA
    by_cases h : v = [] <;> simp [h]
  | x :: l, acc, h => by
    have h' := List.pairwise_cons.1 h
    by_cases hx : nlt x.1 nm = true
    · have e : setStep nm v (acc, false) x = (acc ++ [x], false) := by
        unfold setStep nameGe
        unfold nlt at hx
        simp [hx]
      have hn : nlt nm x.1 = false := by
        cases q : nlt nm x.1 with
        | false => rfl
        | true => have := nlt_trans hx q; rw [nlt_irrefl] at this; cases this
      rw [List.foldl_cons, e, rset_go nm v l _ h'.2, List.filter_cons_of_pos (by simpa using hx), List.filter_cons_of_neg (by simp [hn])]
      simp
    · have hx' : nlt x.1 nm = false := by simpa using hx
      have e : setStep nm v (acc, false) x = (acc ++ newA nm v ++ (if x.1.toList = nm.toList then [] else [x]), true) := by
        unfold setStep nameGe newA
        unfold nlt at hx'
        simp [hx']
      have hl : ∀ y ∈ l, nlt y.1 nm = false := fun y hy => by
        cases q : nlt y.1 nm with
        | false => rfl
        | true => have := nlt_trans (h'.1 y hy) q; rw [hx'] at this; cases this
      have hl2 : ∀ y ∈ l, nlt nm y.1 = true := fun y hy => by
        cases q : nlt nm x.1 with
        | true => exact nlt_trans q (h'.1 y hy)
        | false => rw [nlt_tri q hx']; exact h'.1 y hy
      rw [List.foldl_cons, e, done_fold]
      simp only [Bool.true_eq_false, false_and, if_false, List.append_nil]
      rw [List.filter_cons_of_neg (by simp [hx']), List.filter_eq_nil_iff.2 (fun y hy => by simp [hl y hy])]
      by_cases q : x.1.toList = nm.toList
      · rw [if_pos q, List.filter_cons_of_neg (by rw [toList_inj q]; simp [nlt_irrefl]), List.filter_eq_self.2 (fun y hy => by simpa using hl2 y hy)]
        simp
      · have hq : nlt nm x.1 = true := by
          cases q2 : nlt nm x.1 with
          | true => rfl
          | false => exact absurd (congrArg ByteArray.toList (nlt_tri q2 hx')).symm q
        rw [if_neg q, List.filter_cons_of_pos (by simpa using hq), List.filter_eq_self.2 (fun y hy => by simpa using hl2 y hy)]
        simp
theorem rset_eq {l : AL} (h : RiseA l) (nm : ByteArray) (v : List Int) : rset l nm v = l.filter (fun x => nlt x.1 nm) ++ newA nm v ++ l.filter (fun x => nlt nm x.1) := by
  have := rset_go nm v l [] h
  simpa [rset] using this
theorem rise_filter {l : AL} (h : RiseA l) (f : ByteArray × List Int → Bool) : RiseA (l.filter f) := List.Pairwise.filter _ h
theorem rset_rise {l : AL} (h : RiseA l) (nm : ByteArray) (v : List Int) : RiseA (rset l nm v) := by
  rw [rset_eq h]
  unfold RiseA
  rw [List.append_assoc, List.pairwise_append, List.pairwise_append]
  refine ⟨rise_filter h _, ⟨by unfold newA; split <;> simp, rise_filter h _, fun a ha b hb => ?_⟩, fun a ha b hb => ?_⟩
  · have ha' : a = (nm, v) := by
      unfold newA at ha
      split at ha
      · cases ha
      · simpa using ha
    subst ha'
    have := (List.mem_filter.1 hb).2
    simpa using this
  · have h1 : nlt a.1 nm = true := by simpa using (List.mem_filter.1 ha).2
    rcases List.mem_append.1 hb with hb | hb
    · have hb' : b = (nm, v) := by
        unfold newA at hb
        split at hb
        · cases hb
        · simpa using hb
      subst hb'
      exact h1
    · exact nlt_trans h1 (by simpa using (List.mem_filter.1 hb).2)
theorem rset_del {l : AL} (nm : ByteArray) : (l.filter (fun x => nlt x.1 nm) ++ l.filter (fun x => nlt nm x.1)).Perm (del nm l) := by
  induction l with
  | nil => exact List.Perm.refl _
  | cons x l ih =>
    by_cases h1 : nlt x.1 nm = true
    · have h2 : nlt nm x.1 = false := by
        cases q : nlt nm x.1 with
        | false => rfl
        | true => have := nlt_trans h1 q; rw [nlt_irrefl] at this; cases this
      have h3 : x.1 ≠ nm := fun e => by rw [e, nlt_irrefl] at h1; cases h1
      unfold del at *
      rw [List.filter_cons_of_pos (by simpa using h1), List.filter_cons_of_neg (by simp [h2]), List.filter_cons_of_pos (by simpa using h3)]
      exact ih.cons x
    · have h1' : nlt x.1 nm = false := by simpa using h1
      by_cases h2 : nlt nm x.1 = true
      · have h3 : x.1 ≠ nm := fun e => by rw [e, nlt_irrefl] at h2; cases h2
        unfold del at *
        rw [List.filter_cons_of_neg (by simp [h1']), List.filter_cons_of_pos (by simpa using h2), List.filter_cons_of_pos (by simpa using h3)]
        exact List.perm_middle.trans (ih.cons x)
      · have h2' : nlt nm x.1 = false := by simpa using h2
        have e := nlt_tri h1' h2'
        unfold del at *
        rw [List.filter_cons_of_neg (by simp [h1']), List.filter_cons_of_neg (by simp [h2']), List.filter_cons_of_neg (by simpa using e)]
        exact ih
theorem rset_perm {l m : AL} (h : RiseA l) (hp : l.Perm m) (nm : ByteArray) (v : List Int) : (rset l nm v).Perm (setAttr m nm v) := by
  rw [rset_eq h]
  have h1 := (rset_del (l := l) nm).trans (del_perm hp)
  unfold setAttr newA
  split
  · simpa using h1
  · unfold put
    refine List.Perm.trans ?_ (h1.cons _)
    rw [List.append_assoc]
    exact List.perm_middle
theorem rise_nodup {l : AL} (h : RiseA l) : (l.map (·.1)).Nodup := by
  unfold RiseA at h
  rw [List.nodup_iff_pairwise_ne, List.pairwise_map]
  exact h.imp fun {a b} q e => by rw [e, nlt_irrefl] at q; cases q
/-- A body of the document's and an object. -/
def SameB (b : RB) : Option TS → Prop
  | none => b = RB.no
  | some t => b.there = true ∧ b.data = t.b ∧ RiseA b.attrs ∧ b.attrs.Perm t.attr
theorem SameB.there {b : RB} {o : Option TS} (h : SameB b o) : b.there = o.isSome := by
  cases o with
  | none => rw [show b = RB.no from h]; rfl
  | some t => exact h.1
theorem SameB.size {b : RB} {o : Option TS} (h : SameB b o) : rweight b = sizeO o := by
  cases o with
  | none => rw [show b = RB.no from h]; rfl
  | some t =>
    show rweight b = t.size
    unfold rweight TS.size
    rw [h.2.1, attrSize_perm h.2.2.2]
theorem SameB.attr {b : RB} {t : TS} (h : SameB b (some t)) (nm : ByteArray) : (b.attrs.find? fun x => x.1.toList == nm.toList).map (·.2) = get nm t.attr := by
  have hn := rise_nodup h.2.2.1
  rw [← get_perm hn h.2.2.2]
  induction b.attrs with
  | nil => rfl
  | cons x l ih =>
    obtain ⟨a, v⟩ := x
    unfold get
    by_cases e : nm = a
    · subst e; simp
    · have : (a.toList == nm.toList) = false := by simp; exact fun q => e (toList_inj q).symm
      rw [List.find?_cons_of_neg (by simp [this])]
      rw [if_neg e]
      exact ih
/-- A deed of the document's as the program keeps it. -/
def toD (d : RD) : Dd :=
  if d.what = 1 then madeD else if d.what = 2 then wroteD d.n d.p else if d.what = 3 then ⟨2, d.n, [], ⟨#[]⟩⟩ else if d.what = 4 then ⟨3, 0, [], ⟨#[]⟩⟩ else setD d.name d.p
/-- A deed that may be done to an object. -/
structure LegD (o : Option TS) (d : RD) : Prop where
  lo : 1 ≤ d.what
  hi : d.what ≤ 5
  at_ : d.what = 1 ∨ o.isSome = true
theorem same_after {b : RB} {o : Option TS} {d : RD} (h : SameB b o) (hl : LegD o d) : SameB (rafter b d) (stepD o (toD d)) := by
  obtain ⟨h1, h2, h3⟩ := hl
  by_cases e1 : d.what = 1
  · simp only [rafter, toD, e1, if_true, stepD, madeD]
    exact ⟨rfl, rfl, List.Pairwise.nil, List.Perm.refl _⟩
  · obtain ⟨t, rfl⟩ := Option.isSome_iff_exists.1 (h3.resolve_left e1)
    obtain ⟨q1, q2, q3, q4⟩ := h
    by_cases e2 : d.what = 2
    · simp only [rafter, toD, e2, stepD, wroteD]
      simp
      exact ⟨q1, by simp [q2], q3, q4⟩
    by_cases e3 : d.what = 3
    · simp only [rafter, toD, e3, stepD]
      simp
      exact ⟨q1, by simp [q2], q3, q4⟩
    by_cases e4 : d.what = 4
    · simp only [rafter, toD, e4, stepD]
      simp
      rfl
    have e5 : d.what = 5 := by omega
    simp only [rafter, toD, e5, stepD, setD]
    simp
    exact ⟨q1, q2, rset_rise q3 _ _, rset_perm q3 q4 _ _⟩
/-- Deeds that may be done one behind the other. -/
def Leg : Option TS → List RD → Prop
  | _, [] => True
  | o, d :: ds => LegD o d ∧ Leg (stepD o (toD d)) ds
theorem same_fold : ∀ {ds : List RD} {b : RB} {o : Option TS}, SameB b o → Leg o ds → SameB (ds.foldl rafter b) ((ds.map toD).foldl stepD o)
  | [], _, _, h, _ => h
  | d :: ds, _, _, h, hl => same_fold (ds := ds) (same_after h hl.1) hl.2
theorem Leg.take : ∀ {ds : List RD} {o : Option TS}, Leg o ds → ∀ k, Leg o (ds.take k)
  | [], _, _, k => by cases k <;> trivial
  | d :: ds, _, h, 0 => trivial
  | d :: ds, _, h, k + 1 => ⟨h.1, Leg.take h.2 k⟩
theorem Leg.at : ∀ {ds : List RD} {o : Option TS}, Leg o ds → ∀ {k : Nat} {d : RD}, ds[k]? = some d → LegD (((ds.take k).map toD).foldl stepD o) d
  | [], _, _, k, d, e => by cases e
  | a :: ds, _, h, 0, d, e => by simp at e; subst e; exact h.1
  | a :: ds, _, h, k + 1, d, e => Leg.at h.2 (by simpa using e)
theorem Leg.snoc : ∀ {ds : List RD} {o : Option TS} {d : RD}, Leg o ds → LegD ((ds.map toD).foldl stepD o) d → Leg o (ds ++ [d])
  | [], _, _, _, h => ⟨h, trivial⟩
  | a :: ds, _, _, h, k => ⟨h.1, Leg.snoc h.2 k⟩
end Go.Proofs.YtagljjhfkhadpaaGreat
