/- What is at each key behind a store's deeds: seen, dry, late. No program in sight. A store of one object: what its deeds, a fall, a barrier leave. No program in sight. -/
import Derived.Test.YtagljjhfkhadpaaGreatStoreOps
/- What is at each key behind a store's deeds: seen, dry, late. No program in sight. -/
set_option linter.unusedSimpArgs false
set_option linter.unusedVariables false
set_option linter.unusedSectionVars false
namespace Go.Proofs.YtagljjhfkhadpaaGreat
open Go.RowKit
section
variable {K V : Type} [DecidableEq K]
theorem get_put (k k' : K) (v : V) (L : List (K × V)) : get k' (put k v L) = if k' = k then some v else get k' L := by
  by_cases e : k' = k
  · subst e; simp [get_put_same]
  · simp [get_put_ne e, e]
theorem get_del (k k' : K) (L : List (K × V)) : get k' (del k L) = if k' = k then none else get k' L := by
  by_cases e : k' = k
  · subst e; simp [get_del_same]
  · simp [get_del_ne e, e]
end
theorem get_dryPut (k k' : K4) (o : Option TS) (L : List (K4 × TS)) : get k' (dryPut L k o) = if k' = k then o else get k' L := by
  cases o with
  | none => exact get_del k k' L
  | some t => exact get_put k k' t L
/-- Each object is seen as its dry one behind its wet deeds. -/
def Coh (S : Str) : Prop := ∀ k, get k S.seen = (lateAt S k).foldl stepD (get k S.dry)
/-- What a deed leaves: the fuse took the power, or it was done. -/
theorem seen_show (S : Str) (k k' : K4) (was : Int) (o : Option TS) : get k' (showS S k was o).seen = if k' = k then o else get k' S.seen := by
  cases o with
  | none => exact get_del k k' S.seen
  | some t => exact get_put k k' t S.seen
theorem wrap_eq (x : Int) : IntKind.i64.wrap x = wrap64 x := by rw [IntKind.wrap_i64]; unfold wrap64; omega
structure Done (S S' : Str) (k : K4) (d : Dd) : Prop where
  room : S'.room = S.room
  on : S'.on = S.on
  armed : S'.armed = S.armed
  keep : S'.keep = S.keep
  torn : S'.torn = S.torn
  dry : S'.dry = S.dry
  seen : ∀ k', get k' S'.seen = if k' = k then stepD (get k S.seen) d else get k' S.seen
  late : ∀ k', lateAt S' k' = if k' = k then lateAt S k ++ [d] else lateAt S k'
  used : S'.used = wrap64 (S.used + (sizeO (stepD (get k S.seen) d) - wrap64 (sizeO (get k S.seen))))
  deeds : S'.deeds = wrap64 (S.deeds + 1)
  wet : S'.wet = wrap64 (S.wet + 1)
  fuse : S.armed = true → 0 < S.fuse ∧ S'.fuse = S.fuse - 1
theorem burns_false {S : Str} (h : (burnsS S).1 = false) : ∃ f, (burnsS S).2 = { S with fuse := f } ∧ (S.armed = true → 0 < S.fuse ∧ f = S.fuse - 1) := by
  unfold burnsS at *
  split
  · rename_i ha
    rw [if_pos ha] at h
    split
    · rename_i hf
      exact ⟨_, rfl, fun _ => ⟨hf, rfl⟩⟩
    · rename_i hf
      rw [if_neg hf] at h
      cases h
  · rename_i ha
    exact ⟨S.fuse, rfl, fun h => absurd h ha⟩
theorem do_burnt {S : Str} {k : K4} {d : Dd} (h : (burnsS S).1 = true) : doS S k d = (true, (burnsS S).2) := by simp [doS, h]
theorem do_done {S : Str} {k : K4} {d : Dd} (h : (burnsS S).1 = false) : (doS S k d).1 = false ∧ Done S (doS S k d).2 k d := by
  obtain ⟨f, hf, hfu⟩ := burns_false h
  have e : doS S k d = (false, { showS { S with fuse := f } k (wrap64 (sizeO (get k S.seen))) (stepD (get k S.seen) d) with late := put k (lateAt { S with fuse := f } k ++ [d]) S.late, wet := wrap64 (S.wet + 1), deeds := wrap64 (S.deeds + 1) }) := by
    unfold doS
    rw [h, hf]
    rfl
  rw [e]
  refine ⟨rfl, rfl, rfl, rfl, rfl, rfl, rfl, fun k' => seen_show { S with fuse := f } k k' (wrap64 (sizeO (get k S.seen))) (stepD (get k S.seen) d), fun k' => ?_, ?_, rfl, rfl, hfu⟩
  · show (get k' (put k (lateAt S k ++ [d]) S.late)).getD [] = _
    rw [get_put]
    split
    · rfl
    · rfl
  · exact wrap_eq _
theorem Done.coh {S S' : Str} {k : K4} {d : Dd} (h : Done S S' k d) (hc : Coh S) : Coh S' := fun k' => by
  rw [h.seen, h.late, h.dry]
  split
  · rename_i e
    subst e
    rw [List.foldl_append, ← hc]
    rfl
  · exact hc k'
/-- What a fall leaves of each object. -/
structure Fell (S S' : Str) (keep : List Int) (torn : Int) : Prop where
  room : S'.room = S.room
  on : S'.on = false
  armed : S'.armed = false
  late : S'.late = []
  wet : S'.wet = 0
  deeds : S'.deeds = S.deeds
  obj : ∃ N : K4 → Int, ∀ k, get k S'.seen = (leftS S k (N k) torn).1 ∧ get k S'.dry = (leftS S k (N k) torn).1
theorem left_late {S S' : Str} {k : K4} (h1 : lateAt S' k = lateAt S k) (h2 : get k S'.dry = get k S.dry) (n torn : Int) : leftS S' k n torn = leftS S k n torn := by
  unfold leftS
  rw [h1, h2]
theorem fallL_obj {keep : List Int} {torn : Int} : ∀ (ss : List K4) (i : Nat) (S : Str) (n : Int), ss.Nodup →
    (fallL keep torn ss i S n).1.late = S.late ∧ (fallL keep torn ss i S n).1.room = S.room ∧ (fallL keep torn ss i S n).1.deeds = S.deeds ∧
    ∃ N : K4 → Int, ∀ k, (k ∈ ss → get k (fallL keep torn ss i S n).1.seen = (leftS S k (N k) torn).1 ∧ get k (fallL keep torn ss i S n).1.dry = (leftS S k (N k) torn).1) ∧
      (k ∉ ss → get k (fallL keep torn ss i S n).1.seen = get k S.seen ∧ get k (fallL keep torn ss i S n).1.dry = get k S.dry)
  | [], _, S, _, _ => ⟨rfl, rfl, rfl, fun _ => 0, fun k => ⟨fun h => (by cases h), fun _ => ⟨rfl, rfl⟩⟩⟩
  | a :: ss, i, S, n, hn => by
    have hn' := List.nodup_cons.1 hn
    obtain ⟨h1, h2, h3, N, h4⟩ := fallL_obj (keep := keep) (torn := torn) ss (i + 1) (fallK S a (keepAt keep i) torn) (wrap64 (n + (leftS S a (keepAt keep i) torn).2)) hn'.2
    have e : fallL keep torn (a :: ss) i S n = fallL keep torn ss (i + 1) (fallK S a (keepAt keep i) torn) (wrap64 (n + (leftS S a (keepAt keep i) torn).2)) := rfl
    rw [e]
    have hs : ∀ k, get k (fallK S a (keepAt keep i) torn).seen = if k = a then (leftS S a (keepAt keep i) torn).1 else get k S.seen := fun k => seen_show S a k (wrap64 (sizeO (get a S.seen))) (leftS S a (keepAt keep i) torn).1
    have hd : ∀ k, get k (fallK S a (keepAt keep i) torn).dry = if k = a then (leftS S a (keepAt keep i) torn).1 else get k S.dry := fun k => get_dryPut a k _ S.dry
    refine ⟨h1, h2, h3, fun k => if k = a then keepAt keep i else N k, fun k => ⟨fun hk => ?_, fun hk => ?_⟩⟩
    · by_cases ek : k = a
      · subst ek
        have := (h4 k).2 hn'.1
        rw [this.1, this.2, hs, hd]
        simp
      · have hk' : k ∈ ss := (List.mem_cons.1 hk).resolve_left ek
        have := (h4 k).1 hk'
        have e2 : leftS (fallK S a (keepAt keep i) torn) k (N k) torn = leftS S k (N k) torn := left_late (S := S) (S' := fallK S a (keepAt keep i) torn) (k := k) rfl (by rw [hd, if_neg ek]) _ _
        rw [this.1, this.2, e2]
        simp [ek]
    · have ek : k ≠ a := fun e => hk (e ▸ List.mem_cons_self ..)
      have := (h4 k).2 (fun h => hk (List.mem_cons_of_mem _ h))
      rw [this.1, this.2, hs, hd, if_neg ek, if_neg ek]
      exact ⟨rfl, rfl⟩
theorem lateAt_none {S : Str} {k : K4} (h : k ∉ S.late.map (·.1)) : lateAt S k = [] := by
  unfold lateAt
  have : get k S.late = none := get_none.2 fun x hx e => h (List.mem_map.2 ⟨x, hx, e⟩)
  rw [this]; rfl
theorem left_calm {S : Str} {k : K4} (h : lateAt S k = []) (n torn : Int) : (leftS S k n torn).1 = get k S.dry := by
  unfold leftS
  rw [h]
  simp
theorem fall_fell {S : Str} (hon : S.on = true) (hn : (S.late.map (·.1)).Nodup) (hc : Coh S) (keep : List Int) (torn : Int) : Fell S (fallS S keep torn).1 keep torn := by
  have hsn : (sortK (S.late.map (·.1))).Nodup := (sort_perm _).nodup_iff.2 hn
  obtain ⟨h1, h2, h3, N, h4⟩ := fallL_obj (keep := keep) (torn := torn) (sortK (S.late.map (·.1))) 0 S 0 hsn
  have e : (fallS S keep torn).1 = fallEnd (fallL keep torn (sortK (S.late.map (·.1))) 0 S 0).1 := by simp [fallS, hon]
  rw [e]
  refine ⟨h2, rfl, rfl, rfl, rfl, h3, N, fun k => ?_⟩
  by_cases hk : k ∈ sortK (S.late.map (·.1))
  · exact (h4 k).1 hk
  · have hk' : lateAt S k = [] := lateAt_none fun h => hk ((sort_perm _).mem_iff.2 h)
    have := (h4 k).2 hk
    refine ⟨this.1.trans ?_, this.2.trans ?_⟩
    · rw [left_calm hk', hc k, hk']; rfl
    · rw [left_calm hk']
theorem Fell.coh {S S' : Str} {keep : List Int} {torn : Int} (h : Fell S S' keep torn) : Coh S' := fun k => by
  obtain ⟨N, hN⟩ := h.obj
  have : lateAt S' k = [] := by unfold lateAt; rw [h.late]; rfl
  rw [this, (hN k).1, (hN k).2]
  rfl
theorem get_dryAll (S : Str) (k : K4) : get k (dryAll S) = if k ∈ S.late.map (·.1) then get k S.seen else get k S.dry := by
  unfold dryAll dryBy
  by_cases hk : k ∈ S.late.map (·.1)
  · rw [if_pos hk]
    have h1 : ∀ (L R : List (K4 × TS)), get k (L.filter (fun x => !(S.late.map (·.1)).contains x.1) ++ R) = get k R := fun L R => by
      induction L with
      | nil => rfl
      | cons x L ih =>
        by_cases hx : (S.late.map (·.1)).contains x.1 = true
        · rw [List.filter_cons_of_neg (by simpa using hx)]; exact ih
        · rw [List.filter_cons_of_pos (by simpa using hx), List.cons_append]
          have hne : k ≠ x.1 := fun e => hx (by rw [← e]; exact List.contains_iff_mem.2 hk)
          obtain ⟨a, b⟩ := x
          simp only [get, hne, if_false]
          exact ih
    rw [h1]
    induction S.seen with
    | nil => rfl
    | cons x L ih =>
      obtain ⟨a, b⟩ := x
      by_cases hx : (S.late.map (·.1)).contains a = true
      · rw [List.filter_cons_of_pos (by simpa using hx)]
        unfold get
        rw [ih]
      · rw [List.filter_cons_of_neg (by simpa using hx)]
        have hne : k ≠ a := fun e => hx (by rw [← e]; exact List.contains_iff_mem.2 hk)
        rw [show get k ((a, b) :: L) = get k L by simp [get, hne]]
        exact ih
  · rw [if_neg hk]
    have h2 : ∀ (R : List (K4 × TS)), get k (R.filter (fun x => (S.late.map (·.1)).contains x.1)) = none := fun R => get_none.2 fun x hx e => hk (by
      have := (List.mem_filter.1 hx).2
      rw [e] at this
      exact List.contains_iff_mem.1 this)
    have h3 : ∀ (L R : List (K4 × TS)), get k R = none → get k (L.filter (fun x => !(S.late.map (·.1)).contains x.1) ++ R) = get k L := fun L R hR => by
      induction L with
      | nil => simpa [get] using hR
      | cons x L ih =>
        obtain ⟨a, b⟩ := x
        by_cases hx : (S.late.map (·.1)).contains a = true
        · rw [List.filter_cons_of_neg (by simpa using hx)]
          have hne : k ≠ a := fun e => hk (by rw [e]; exact List.contains_iff_mem.1 hx)
          rw [show get k ((a, b) :: L) = get k L by simp [get, hne]]
          exact ih
        · rw [List.filter_cons_of_pos (by simpa using hx), List.cons_append]
          unfold get
          rw [ih]
    exact h3 _ _ (h2 _)
/-- Behind a barrier all is dry. -/
structure Dried (S S' : Str) : Prop where
  room : S'.room = S.room
  on : S'.on = S.on
  armed : S'.armed = S.armed
  keep : S'.keep = S.keep
  torn : S'.torn = S.torn
  seen : S'.seen = S.seen
  used : S'.used = S.used
  late : S'.late = []
  wet : S'.wet = 0
  deeds : S'.deeds = wrap64 (S.deeds + 1)
  dry : ∀ k, get k S'.dry = get k S.seen
  fuse : S.armed = true → 0 < S.fuse ∧ S'.fuse = S.fuse - 1
theorem barrier_dried {S : Str} (hon : S.on = true) (hc : Coh S) (h : (burnsS S).1 = false) : (barrierS S).1 = 0 ∧ Dried S (barrierS S).2 := by
  obtain ⟨f, hf, hfu⟩ := burns_false h
  have e : barrierS S = (0, { S with fuse := f, dry := dryAll S, late := [], wet := 0, deeds := wrap64 (S.deeds + 1) }) := by
    unfold barrierS
    rw [if_neg (by simp [hon]), h, hf]
    rfl
  rw [e]
  refine ⟨rfl, rfl, rfl, rfl, rfl, rfl, rfl, rfl, rfl, rfl, rfl, fun k => ?_, hfu⟩
  show get k (dryAll S) = _
  rw [get_dryAll]
  split
  · rfl
  · rename_i hk
    rw [hc k, lateAt_none hk]
    rfl
theorem Dried.coh {S S' : Str} (h : Dried S S') : Coh S' := fun k => by
  have : lateAt S' k = [] := by unfold lateAt; rw [h.late]; rfl
  rw [this, h.seen, h.dry]
  rfl
theorem barrier_burnt {S : Str} (hon : S.on = true) (h : (burnsS S).1 = true) : barrierS S = (7, (burnsS S).2) := by
  unfold barrierS
  rw [if_neg (by simp [hon]), if_pos h]
theorem burns_true {S : Str} (h : (burnsS S).1 = true) : S.armed = true ∧ S.fuse ≤ 0 ∧ (burnsS S).2 = (fallS S S.keep S.torn).1 := by
  unfold burnsS at *
  split
  · rename_i ha
    rw [if_pos ha] at h
    split
    · rename_i hf
      rw [if_pos hf] at h
      cases h
    · exact ⟨ha, by omega, rfl⟩
  · rename_i ha
    rw [if_neg ha] at h
    cases h
end Go.Proofs.YtagljjhfkhadpaaGreat
/- A store of one object: what its deeds, a fall, a barrier leave. No program in sight. -/
namespace Go.Proofs.YtagljjhfkhadpaaGreat
open Go.RowKit
def oL (K : K4) : Option TS → List (K4 × TS)
  | none => []
  | some t => [(K, t)]
def lL (K : K4) (ds : List Dd) : List (K4 × List Dd) := if ds = [] then [] else [(K, ds)]
/-- The store has the object K alone, or none: x as it is seen, y as it is dry, ds what is wet of it. -/
structure One (S : Str) (K : K4) (x y : Option TS) (ds : List Dd) : Prop where
  seen : S.seen = oL K x
  dry : S.dry = oL K y
  late : S.late = lL K ds
  used : S.used = sizeO x
  fold : x = ds.foldl stepD y
theorem get_oL (K : K4) (x : Option TS) : get K (oL K x) = x := by cases x <;> simp [oL, get]
theorem put_oL (K : K4) (x : Option TS) (t : TS) : put K t (oL K x) = oL K (some t) := by cases x <;> simp [oL, put, del]
theorem del_oL (K : K4) (x : Option TS) : del K (oL K x) = [] := by cases x <;> simp [oL, del]
theorem dryPut_oL (K : K4) (x o : Option TS) : dryPut (oL K x) K o = oL K o := by
  cases o with
  | none => exact del_oL K x
  | some t => exact put_oL K x t
theorem get_lL (K : K4) (ds : List Dd) : (get K (lL K ds)).getD [] = ds := by
  unfold lL
  split
  · rename_i h; rw [h]; rfl
  · simp [get]
theorem put_lL (K : K4) (ds : List Dd) (d : Dd) : put K (ds ++ [d]) (lL K ds) = lL K (ds ++ [d]) := by
  unfold lL
  rw [if_neg (by simp : ¬ ds ++ [d] = [])]
  split <;> simp [put, del]
theorem One.lateAt {S : Str} {K : K4} {x y : Option TS} {ds : List Dd} (h : One S K x y ds) : lateAt S K = ds := by
  unfold Go.Proofs.YtagljjhfkhadpaaGreat.lateAt
  rw [h.late]
  exact get_lL K ds
theorem One.get {S : Str} {K : K4} {x y : Option TS} {ds : List Dd} (h : One S K x y ds) : get K S.seen = x := by rw [h.seen]; exact get_oL K x
theorem One.getDry {S : Str} {K : K4} {x y : Option TS} {ds : List Dd} (h : One S K x y ds) : Go.Proofs.YtagljjhfkhadpaaGreat.get K S.dry = y := by rw [h.dry]; exact get_oL K y
theorem One.len {S : Str} {K : K4} {x y : Option TS} {ds : List Dd} (h : One S K x y ds) : S.seen.length ≤ 1 := by rw [h.seen]; cases x <;> simp [oL]
theorem One.new (room : Int) (K : K4) : One (newS room) K none none [] := ⟨rfl, rfl, rfl, rfl, rfl⟩
theorem One.power {S : Str} {K : K4} {x y : Option TS} {ds : List Dd} (h : One S K x y ds) : One (powerS S) K x y ds := ⟨h.seen, h.dry, h.late, h.used, h.fold⟩
theorem One.fuse {S : Str} {K : K4} {x y : Option TS} {ds : List Dd} (h : One S K x y ds) (n : Int) (keep : List Int) (torn : Int) : One (fuseS S n keep torn) K x y ds := by
  unfold fuseS
  split <;> exact ⟨h.seen, h.dry, h.late, h.used, h.fold⟩
/-- Sizes that are no concern. -/
def fine (o : Option TS) : Prop := 0 ≤ sizeO o ∧ sizeO o ≤ 1000000000
theorem seen_one (S : Str) (K : K4) (x o : Option TS) (was : Int) (h : S.seen = oL K x) : (showS S K was o).seen = oL K o := by
  cases o with
  | none => show del K S.seen = _; rw [h]; exact del_oL K x
  | some t => show put K t S.seen = _; rw [h]; exact put_oL K x t
theorem used_one {x o : Option TS} (h1 : fine x) (h2 : fine o) : IntKind.i64.wrap (sizeO x + (sizeO o - wrap64 (sizeO x))) = sizeO o := by
  have e : wrap64 (sizeO x) = sizeO x := wrap_eq (sizeO x) ▸ (by rw [IntKind.wrap_i64]; have := h1.1; have := h1.2; omega)
  rw [e, IntKind.wrap_i64]
  have := h2.1; have := h2.2
  omega
/-- A deed at the object. -/
theorem One.did {S : Str} {K : K4} {x y : Option TS} {ds : List Dd} (h : One S K x y ds) (d : Dd) (hb : (burnsS S).1 = false) (h1 : fine x) (h2 : fine (stepD x d)) :
    (doS S K d).1 = false ∧ One (doS S K d).2 K (stepD x d) y (ds ++ [d]) ∧ Done S (doS S K d).2 K d := by
  obtain ⟨e1, hd⟩ := do_done (k := K) (d := d) hb
  refine ⟨e1, ?_, hd⟩
  obtain ⟨f, hf, _⟩ := burns_false hb
  have e : (doS S K d).2 = { showS { S with fuse := f } K (wrap64 (sizeO (Go.Proofs.YtagljjhfkhadpaaGreat.get K S.seen))) (stepD (Go.Proofs.YtagljjhfkhadpaaGreat.get K S.seen) d) with late := put K (Go.Proofs.YtagljjhfkhadpaaGreat.lateAt { S with fuse := f } K ++ [d]) S.late, wet := wrap64 (S.wet + 1), deeds := wrap64 (S.deeds + 1) } := by
    unfold doS
    rw [hb, hf]
    rfl
  have hl : Go.Proofs.YtagljjhfkhadpaaGreat.lateAt { S with fuse := f } K = ds := h.lateAt
  rw [e, h.get, hl]
  refine ⟨seen_one { S with fuse := f } K x (stepD x d) (wrap64 (sizeO x)) h.seen, h.dry, ?_, ?_, ?_⟩
  · show put K (ds ++ [d]) S.late = _
    rw [h.late]; exact put_lL K ds d
  · show IntKind.i64.wrap (S.used + _) = _
    rw [h.used]; exact used_one h1 h2
  · rw [List.foldl_append, ← h.fold]; rfl
/-- All is dry. -/
theorem One.dried {S : Str} {K : K4} {x y : Option TS} {ds : List Dd} (h : One S K x y ds) (hon : S.on = true) (hb : (burnsS S).1 = false) : (barrierS S).1 = 0 ∧ One (barrierS S).2 K x x [] ∧ (barrierS S).2.on = true ∧ (barrierS S).2.room = S.room ∧ (barrierS S).2.armed = S.armed ∧ (barrierS S).2.keep = S.keep ∧ (barrierS S).2.torn = S.torn := by
  obtain ⟨f, hf, _⟩ := burns_false hb
  have e : barrierS S = (0, { S with fuse := f, dry := dryAll S, late := [], wet := 0, deeds := wrap64 (S.deeds + 1) }) := by
    unfold barrierS
    rw [if_neg (by simp [hon]), hb, hf]
    rfl
  have hd : dryAll S = oL K x := by
    unfold dryAll dryBy
    rw [h.dry, h.seen, h.late]
    by_cases h0 : ds = []
    · have hx : x = y := by rw [h.fold, h0]; rfl
      subst hx
      rw [show lL K ds = [] by simp [lL, h0]]
      cases x <;> simp [oL]
    · rw [show lL K ds = [(K, ds)] by simp [lL, h0]]
      have e1 : (oL K y).filter (fun a => !(([(K, ds)] : List (K4 × List Dd)).map (·.1)).contains a.1) = [] := by cases y <;> simp [oL]
      have e2 : (oL K x).filter (fun a => (([(K, ds)] : List (K4 × List Dd)).map (·.1)).contains a.1) = oL K x := by cases x <;> simp [oL]
      rw [e1, e2]; rfl
  rw [e]
  exact ⟨rfl, ⟨h.seen, hd, rfl, h.used, rfl⟩, hon, rfl, rfl, rfl, rfl⟩
/-- What stays of an object: so many wet deeds, and a piece of the next. -/
def stays (y : Option TS) (ds : List Dd) (n torn : Int) : Option TS :=
  match ds[keptN n ds.length]? with
  | some d => if d.kind = 1 ∧ 0 < torn ∧ d.p ≠ [] then stepD ((ds.take (keptN n ds.length)).foldl stepD y) (tornD torn d) else (ds.take (keptN n ds.length)).foldl stepD y
  | none => (ds.take (keptN n ds.length)).foldl stepD y
theorem One.fell {S : Str} {K : K4} {x y : Option TS} {ds : List Dd} (h : One S K x y ds) (hon : S.on = true) (keep : List Int) (torn : Int) (h1 : fine x) (h2 : fine (stays y ds (keepAt keep 0) torn)) :
    One (fallS S keep torn).1 K (stays y ds (keepAt keep 0) torn) (stays y ds (keepAt keep 0) torn) [] ∧ (fallS S keep torn).1.on = false ∧ (fallS S keep torn).1.room = S.room ∧ (fallS S keep torn).1.armed = false := by
  have hl : (leftS S K (keepAt keep 0) torn).1 = stays y ds (keepAt keep 0) torn := by
    unfold leftS stays
    rw [h.lateAt, h.getDry]
    rfl
  by_cases h0 : ds = []
  · have hx : x = y := by rw [h.fold, h0]; rfl
    have hs : stays y ds (keepAt keep 0) torn = y := by rw [h0]; simp [stays]
    have hlt : S.late = [] := by rw [h.late]; simp [lL, h0]
    have e : (fallS S keep torn).1 = fallEnd S := by
      unfold fallS
      rw [if_pos hon, hlt]
      rfl
    rw [e, hs]
    subst hx
    exact ⟨⟨h.seen, h.dry, rfl, h.used, rfl⟩, rfl, rfl, rfl⟩
  · have hlt : S.late = [(K, ds)] := by rw [h.late]; simp [lL, h0]
    have e : (fallS S keep torn).1 = fallEnd (fallK S K (keepAt keep 0) torn) := by
      unfold fallS
      rw [if_pos hon, hlt]
      rfl
    rw [e]
    refine ⟨⟨?_, ?_, rfl, ?_, rfl⟩, rfl, rfl, rfl⟩
    · show (showS S K (wrap64 (sizeO (Go.Proofs.YtagljjhfkhadpaaGreat.get K S.seen))) (leftS S K (keepAt keep 0) torn).1).seen = _
      rw [hl]
      exact seen_one S K x (stays y ds (keepAt keep 0) torn) (wrap64 (sizeO (Go.Proofs.YtagljjhfkhadpaaGreat.get K S.seen))) h.seen
    · show dryPut S.dry K (leftS S K (keepAt keep 0) torn).1 = _
      rw [hl, h.dry]
      exact dryPut_oL K y _
    · show IntKind.i64.wrap (S.used + (sizeO (leftS S K (keepAt keep 0) torn).1 - wrap64 (sizeO (Go.Proofs.YtagljjhfkhadpaaGreat.get K S.seen)))) = _
      rw [hl, h.used, h.get]
      exact used_one h1 h2
end Go.Proofs.YtagljjhfkhadpaaGreat
