/- A store of one object: what its deeds, a fall, a barrier leave. No program in sight. -/
import Derived.Test.YtnokhjhhadnckaaView
set_option linter.unusedSimpArgs false
set_option linter.unusedVariables false
set_option linter.unusedSectionVars false
namespace Go.Proofs.Ytnokhjhhadnckaa
open Go.RowKit
def oL (K : K4) : Option TS → List (K4 × TS)
  | none => []
  | some t => [(K, t)]
def lL (K : K4) (ds : List Dd) : List (K4 × List Dd) := if ds = [] then [] else [(K, ds)]
/-- The store has the object K alone, or none: x as it is seen, y as it is dry, ds what is wet of it. -/
structure One (S : Str) (K : K4) (x y : Option TS) (ds : List Dd) : Prop where
  seen : S.seen = oL K x
  dry : S.dry = oL K y
  late : S.late = lL K ds
  used : S.used = sizeO x
  fold : x = ds.foldl stepD y
theorem get_oL (K : K4) (x : Option TS) : get K (oL K x) = x := by cases x <;> simp [oL, get]
theorem put_oL (K : K4) (x : Option TS) (t : TS) : put K t (oL K x) = oL K (some t) := by cases x <;> simp [oL, put, del]
theorem del_oL (K : K4) (x : Option TS) : del K (oL K x) = [] := by cases x <;> simp [oL, del]
theorem dryPut_oL (K : K4) (x o : Option TS) : dryPut (oL K x) K o = oL K o := by
  cases o with
  | none => exact del_oL K x
  | some t => exact put_oL K x t
theorem get_lL (K : K4) (ds : List Dd) : (get K (lL K ds)).getD [] = ds := by
  unfold lL
  split
  · rename_i h; rw [h]; rfl
  · simp [get]
theorem put_lL (K : K4) (ds : List Dd) (d : Dd) : put K (ds ++ [d]) (lL K ds) = lL K (ds ++ [d]) := by
  unfold lL
  rw [if_neg (by simp : ¬ ds ++ [d] = [])]
  split <;> simp [put, del]
theorem One.lateAt {S : Str} {K : K4} {x y : Option TS} {ds : List Dd} (h : One S K x y ds) : lateAt S K = ds := by
  unfold Go.Proofs.Ytnokhjhhadnckaa.lateAt
  rw [h.late]
  exact get_lL K ds
theorem One.get {S : Str} {K : K4} {x y : Option TS} {ds : List Dd} (h : One S K x y ds) : get K S.seen = x := by rw [h.seen]; exact get_oL K x
theorem One.getDry {S : Str} {K : K4} {x y : Option TS} {ds : List Dd} (h : One S K x y ds) : Go.Proofs.Ytnokhjhhadnckaa.get K S.dry = y := by rw [h.dry]; exact get_oL K y
theorem One.len {S : Str} {K : K4} {x y : Option TS} {ds : List Dd} (h : One S K x y ds) : S.seen.length ≤ 1 := by rw [h.seen]; cases x <;> simp [oL]
theorem One.new (room : Int) (K : K4) : One (newS room) K none none [] := ⟨rfl, rfl, rfl, rfl, rfl⟩
theorem One.power {S : Str} {K : K4} {x y : Option TS} {ds : List Dd} (h : One S K x y ds) : One (powerS S) K x y ds := ⟨h.seen, h.dry, h.late, h.used, h.fold⟩
theorem One.fuse {S : Str} {K : K4} {x y : Option TS} {ds : List Dd} (h : One S K x y ds) (n : Int) (keep : List Int) (torn : Int) : One (fuseS S n keep torn) K x y ds := by
  unfold fuseS
  split <;> exact ⟨h.seen, h.dry, h.late, h.used, h.fold⟩
/-- Sizes that are no concern. -/
def fine (o : Option TS) : Prop := 0 ≤ sizeO o ∧ sizeO o ≤ 1000000000
theorem seen_one (S : Str) (K : K4) (x o : Option TS) (was : Int) (h : S.seen = oL K x) : (showS S K was o).seen = oL K o := by
  cases o with
  | none => show del K S.seen = _; rw [h]; exact del_oL K x
  | some t => show put K t S.seen = _; rw [h]; exact put_oL K x t
theorem used_one {x o : Option TS} (h1 : fine x) (h2 : fine o) : IntKind.i64.wrap (sizeO x + (sizeO o - wrap64 (sizeO x))) = sizeO o := by
  have e : wrap64 (sizeO x) = sizeO x := wrap_eq (sizeO x) ▸ (by rw [IntKind.wrap_i64]; have := h1.1; have := h1.2; omega)
  rw [e, IntKind.wrap_i64]
  have := h2.1; have := h2.2
  omega
/-- A deed at the object. -/
theorem One.did {S : Str} {K : K4} {x y : Option TS} {ds : List Dd} (h : One S K x y ds) (d : Dd) (hb : (burnsS S).1 = false) (h1 : fine x) (h2 : fine (stepD x d)) :
    (doS S K d).1 = false ∧ One (doS S K d).2 K (stepD x d) y (ds ++ [d]) ∧ Done S (doS S K d).2 K d := by
  obtain ⟨e1, hd⟩ := do_done (k := K) (d := d) hb
  refine ⟨e1, ?_, hd⟩
  obtain ⟨f, hf, _⟩ := burns_false hb
  have e : (doS S K d).2 = { showS { S with fuse := f } K (wrap64 (sizeO (Go.Proofs.Ytnokhjhhadnckaa.get K S.seen))) (stepD (Go.Proofs.Ytnokhjhhadnckaa.get K S.seen) d) with late := put K (Go.Proofs.Ytnokhjhhadnckaa.lateAt { S with fuse := f } K ++ [d]) S.late, wet := wrap64 (S.wet + 1), deeds := wrap64 (S.deeds + 1) } := by
    unfold doS
    rw [hb, hf]
    rfl
  have hl : Go.Proofs.Ytnokhjhhadnckaa.lateAt { S with fuse := f } K = ds := h.lateAt
  rw [e, h.get, hl]
  refine ⟨seen_one { S with fuse := f } K x (stepD x d) (wrap64 (sizeO x)) h.seen, h.dry, ?_, ?_, ?_⟩
  · show put K (ds ++ [d]) S.late = _
    rw [h.late]; exact put_lL K ds d
  · show IntKind.i64.wrap (S.used + _) = _
    rw [h.used]; exact used_one h1 h2
  · rw [List.foldl_append, ← h.fold]; rfl
/-- All is dry. -/
theorem One.dried {S : Str} {K : K4} {x y : Option TS} {ds : List Dd} (h : One S K x y ds) (hon : S.on = true) (hb : (burnsS S).1 = false) : (barrierS S).1 = 0 ∧ One (barrierS S).2 K x x [] ∧ (barrierS S).2.on = true ∧ (barrierS S).2.room = S.room ∧ (barrierS S).2.armed = S.armed ∧ (barrierS S).2.keep = S.keep ∧ (barrierS S).2.torn = S.torn := by
  obtain ⟨f, hf, _⟩ := burns_false hb
  have e : barrierS S = (0, { S with fuse := f, dry := dryAll S, late := [], wet := 0, deeds := wrap64 (S.deeds + 1) }) := by
    unfold barrierS
    rw [if_neg (by simp [hon]), hb, hf]
    rfl
  have hd : dryAll S = oL K x := by
    unfold dryAll dryBy
    rw [h.dry, h.seen, h.late]
    by_cases h0 : ds = []
    · have hx : x = y := by rw [h.fold, h0]; rfl
      subst hx
      rw [show lL K ds = [] by simp [lL, h0]]
      cases x <;> simp [oL]
    · rw [show lL K ds = [(K, ds)] by simp [lL, h0]]
      have e1 : (oL K y).filter (fun a => !(([(K, ds)] : List (K4 × List Dd)).map (·.1)).contains a.1) = [] := by cases y <;> simp [oL]
      have e2 : (oL K x).filter (fun a => (([(K, ds)] : List (K4 × List Dd)).map (·.1)).contains a.1) = oL K x := by cases x <;> simp [oL]
      rw [e1, e2]; rfl
  rw [e]
  exact ⟨rfl, ⟨h.seen, hd, rfl, h.used, rfl⟩, hon, rfl, rfl, rfl, rfl⟩
/-- What stays of an object: so many wet deeds, and a piece of the next. -/
def stays (y : Option TS) (ds : List Dd) (n torn : Int) : Option TS :=
  match ds[keptN n ds.length]? with
  | some d => if d.kind = 1 ∧ 0 < torn ∧ d.p ≠ [] then stepD ((ds.take (keptN n ds.length)).foldl stepD y) (tornD torn d) else (ds.take (keptN n ds.length)).foldl stepD y
  | none => (ds.take (keptN n ds.length)).foldl stepD y
theorem One.fell {S : Str} {K : K4} {x y : Option TS} {ds : List Dd} (h : One S K x y ds) (hon : S.on = true) (keep : List Int) (torn : Int) (h1 : fine x) (h2 : fine (stays y ds (keepAt keep 0) torn)) :
    One (fallS S keep torn).1 K (stays y ds (keepAt keep 0) torn) (stays y ds (keepAt keep 0) torn) [] ∧ (fallS S keep torn).1.on = false ∧ (fallS S keep torn).1.room = S.room ∧ (fallS S keep torn).1.armed = false := by
  have hl : (leftS S K (keepAt keep 0) torn).1 = stays y ds (keepAt keep 0) torn := by
    unfold leftS stays
    rw [h.lateAt, h.getDry]
    rfl
  by_cases h0 : ds = []
  · have hx : x = y := by rw [h.fold, h0]; rfl
    have hs : stays y ds (keepAt keep 0) torn = y := by rw [h0]; simp [stays]
    have hlt : S.late = [] := by rw [h.late]; simp [lL, h0]
    have e : (fallS S keep torn).1 = fallEnd S := by
      unfold fallS
      rw [if_pos hon, hlt]
      rfl
    rw [e, hs]
    subst hx
    exact ⟨⟨h.seen, h.dry, rfl, h.used, rfl⟩, rfl, rfl, rfl⟩
  · have hlt : S.late = [(K, ds)] := by rw [h.late]; simp [lL, h0]
    have e : (fallS S keep torn).1 = fallEnd (fallK S K (keepAt keep 0) torn) := by
      unfold fallS
      rw [if_pos hon, hlt]
      rfl
    rw [e]
    refine ⟨⟨?_, ?_, rfl, ?_, rfl⟩, rfl, rfl, rfl⟩
    · show (showS S K (wrap64 (sizeO (Go.Proofs.Ytnokhjhhadnckaa.get K S.seen))) (leftS S K (keepAt keep 0) torn).1).seen = _
      rw [hl]
      exact seen_one S K x (stays y ds (keepAt keep 0) torn) (wrap64 (sizeO (Go.Proofs.Ytnokhjhhadnckaa.get K S.seen))) h.seen
    · show dryPut S.dry K (leftS S K (keepAt keep 0) torn).1 = _
      rw [hl, h.dry]
      exact dryPut_oL K y _
    · show IntKind.i64.wrap (S.used + (sizeO (leftS S K (keepAt keep 0) torn).1 - wrap64 (sizeO (Go.Proofs.Ytnokhjhhadnckaa.get K S.seen)))) = _
      rw [hl, h.used, h.get]
      exact used_one h1 h2
end Go.Proofs.Ytnokhjhhadnckaa
