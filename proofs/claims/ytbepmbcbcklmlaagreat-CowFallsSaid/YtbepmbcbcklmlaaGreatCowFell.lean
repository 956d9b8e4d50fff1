/- CowFalls: a row of deeds on one key, under a fuse: what may be there behind it. No program in sight. -/
import Derived.Test.YtbepmbcbcklmlaaGreatCowSim
set_option linter.unusedSimpArgs false
set_option linter.unusedVariables false
set_option linter.unusedSectionVars false
namespace Go.Proofs.YtbepmbcbcklmlaaGreat
open Go.RowKit
/-- Whatever a fall may leave of it, and what is seen of it, is of P. -/
def AllK (S : Str) (k : K4) (P : Option TS → Prop) : Prop := (∀ n torn, P (leftS S k n torn).1) ∧ P (get k S.seen)
theorem Firm.allK {S : Str} {k : K4} {o : Option TS} (h : Firm S k o) {P : Option TS → Prop} (ho : P o) : AllK S k P :=
  ⟨fun n torn => by rw [left_nil h.late, h.dry]; exact ho, by rw [h.seen]; exact ho⟩
theorem AllK.fell {S S' : Str} {keep : List Int} {torn : Int} (hf : Fell S S' keep torn) {k : K4} {P : Option TS → Prop} (h : AllK S k P) : AllK S' k P := by
  obtain ⟨N, hN⟩ := hf.obj
  obtain ⟨h1, h2⟩ := hN k
  have hl : lateAt S' k = [] := by unfold lateAt; rw [hf.late]; rfl
  exact ⟨fun n t => by rw [left_nil hl, h2]; exact h.1 _ _, by rw [h1]; exact h.1 _ _⟩
theorem AllK.bar {S S' : Str} (hd : Dried S S') {k : K4} {P : Option TS → Prop} (h : AllK S k P) : AllK S' k P :=
  ⟨fun n t => by rw [left_nil (by unfold lateAt; rw [hd.late]; rfl), hd.dry k]; exact h.2, by rw [hd.seen]; exact h.2⟩
theorem AllK.other {S S' : Str} {k : K4} {d : Dd} (hd : Done S S' k d) {k' : K4} {P : Option TS → Prop} (h : AllK S k' P) (hk : k' ≠ k) : AllK S' k' P :=
  ⟨fun n t => by rw [left_late (S := S) (by rw [hd.late, if_neg hk]) (by rw [hd.dry])]; exact h.1 n t, by rw [hd.seen, if_neg hk]; exact h.2⟩
theorem AllK.add {S S' : Str} {k : K4} {d : Dd} (hd : Done S S' k d) (hc : Coh S) {P : Option TS → Prop} (h : AllK S k P) (h1 : P (stepD (get k S.seen) d)) (h2 : d.kind = 1 → ∀ torn, P (stepD (get k S.seen) (tornD torn d))) : AllK S' k P := by
  refine ⟨fun n torn => ?_, by rw [hd.seen, if_pos rfl]; exact h1⟩
  rcases left_add hd hc n torn with ⟨m, e⟩ | e | ⟨e1, e⟩ | e
  · rw [e]; exact h.1 m torn
  · rw [e]; exact h.2
  · rw [e]; exact h2 e1 torn
  · rw [e]; exact h1
theorem AllK.imp {S : Str} {k : K4} {P Q : Option TS → Prop} (h : AllK S k P) (hpq : ∀ t, P t → Q t) : AllK S k Q := ⟨fun n torn => hpq _ (h.1 n torn), hpq _ h.2⟩
/-- A row of deeds from t on stays in H, whatever of it is done. -/
def Along (H : Option TS → Prop) : Option TS → List Dd → Prop
  | t, [] => H t
  | t, d :: ds => H t ∧ (d.kind = 1 → ∀ torn, H (stepD t (tornD torn d))) ∧ Along H (stepD t d) ds
theorem Along.start {H : Option TS → Prop} {t : Option TS} : ∀ {ds : List Dd}, Along H t ds → H t
  | [], h => h
  | _ :: _, h => h.1
theorem Along.done {H : Option TS → Prop} : ∀ {ds : List Dd} {t : Option TS}, Along H t ds → H (ds.foldl stepD t)
  | [], _, h => h
  | _ :: ds, _, h => Along.done (ds := ds) h.2.2
/-- Nothing is late. -/
def Still (S : Str) : Prop := ∀ k, Firm S k (get k S.seen)
theorem Still.fell {S S' : Str} {keep : List Int} {torn : Int} (hf : Fell S S' keep torn) : Still S' := fun k => by
  obtain ⟨N, hN⟩ := hf.obj
  obtain ⟨h1, h2⟩ := hN k
  exact ⟨by unfold lateAt; rw [hf.late]; rfl, h2.trans h1.symm, rfl⟩
theorem Still.bar {S S' : Str} (hd : Dried S S') : Still S' := fun k => ⟨by unfold lateAt; rw [hd.late]; rfl, by rw [hd.dry k, hd.seen], rfl⟩
theorem Still.of {S S' : Str} (h : Still S) (e1 : S'.dry = S.dry) (e2 : S'.late = S.late) (e3 : S'.seen = S.seen) : Still S' := fun k => by
  rw [e3]
  exact (h k).of e1 e2 e3
/-- What became of a row of deeds on one key: all was done, or it fell. -/
structure Ran (k0 : K4) (H : Option TS → Prop) (S : Str) (r : Int × Str) (t : Option TS) : Prop where
  inv : CInv U17 r.2
  head : AllK r.2 k0 H
  firm : ∀ k o, k ≠ k0 → Firm S k o → Firm r.2 k o
  all : ∀ k P, k ≠ k0 → AllK S k P → AllK r.2 k P
  ok : r.1 = 0 → Live U17 r.2 ∧ get k0 r.2.seen = t
  no : r.1 ≠ 0 → r.1 = 7 ∧ r.2.on = false ∧ Still r.2
theorem run_head {k0 : K4} {H : Option TS → Prop} : ∀ {ds : List Dd} {S : Str} {t : Option TS}, Live U17 S → (∀ d ∈ ds, stepIn U17 (.deed k0 d)) → AllK S k0 H → get k0 S.seen = t → Along H t ds →
    Ran k0 H S (execS (ds.map (.deed k0)) S) (ds.foldl stepD t)
  | [], S, t, h, _, ha, ht, _ => ⟨h.inv, ha, fun _ _ _ q => q, fun _ _ _ q => q, fun _ => ⟨h, ht⟩, fun q => absurd rfl q⟩
  | d :: ds, S, t, h, hin, ha, ht, hal => by
    refine exec_cons (Q := fun r => Ran k0 H S r ((d :: ds).foldl stepD t)) h.on h.inv.coh h.inv.lateN (fun S' keep torn hfe hi => ?_) h.inv fun hbn h0 => ?_
    · exact ⟨hi, ha.fell hfe, fun k o _ q => q.fell hfe, fun k P _ q => q.fell hfe, (fun q => by cases q), fun _ => ⟨rfl, hfe.on, Still.fell hfe⟩⟩
    · have hl := (step_ok h U17_ok (hin d (List.mem_cons_self ..)) h0).1
      have hd := step_done (k := k0) (d := d) hbn
      have ha' : AllK (stepE S (.deed k0 d)).2 k0 H := ha.add hd h.inv.coh (by rw [ht]; exact hal.2.2.start) (fun e torn => by rw [ht]; exact hal.2.1 e torn)
      have ht' : get k0 (stepE S (.deed k0 d)).2.seen = stepD t d := by rw [hd.seen, if_pos rfl, ht]
      have hr := run_head (ds := ds) hl (fun d' hd' => hin d' (List.mem_cons_of_mem _ hd')) ha' ht' hal.2.2
      exact ⟨hr.inv, hr.head, fun k o hk q => hr.firm k o hk (q.other hd hk), fun k P hk q => hr.all k P hk (q.other hd hk), hr.ok, hr.no⟩
def saveDs (V : CV) (num newest : Int) : List Dd :=
  (if (V num newest).isSome then [goneD] else []) ++ madeD :: ((match V num 0 with | some t => [wroteD 0 t.b] | none => []) ++ [setD nmW [if (V num 0).isSome then 1 else 2]])
theorem save_ds (V : CV) (num newest : Int) : saveP V 0 num newest = (saveDs V num newest).map (.deed (dK 0 num newest)) ++ [.bar] := by
  unfold saveP saveDs
  cases V num newest <;> cases V num 0 <;> simp
theorem save_fold (V : CV) (num newest : Int) : (saveDs V num newest).foldl stepD (V num newest) = some (copyT (V num 0)) := by
  unfold saveDs
  cases V num newest <;> cases V num 0 <;> simp [stepD, goneD, madeD, wroteD, setD, setAttr, put, del, copyT, layB_zero]
def CopyOf (v : Option (List Int)) (t : Option TS) : Prop := wholeB t = true → bodyV t = v
theorem copyOf_not {v : Option (List Int)} {t : Option TS} (h : wholeB t = false) : CopyOf v t := fun q => by rw [h] at q; cases q
theorem save_along {V : CV} {num newest : Int} (hw : wholeB (V num newest) = false) : Along (CopyOf ((V num 0).map (·.b))) (V num newest) (saveDs V num newest) := by
  have h2 : ∀ t : Option TS, Along (CopyOf ((V num 0).map (·.b))) (some ⟨[], []⟩) ((match V num 0 with | some t => [wroteD 0 t.b] | none => []) ++ [setD nmW [if (V num 0).isSome then 1 else 2]]) := fun _ => by
    cases ht : V num 0 with
    | none =>
      refine ⟨copyOf_not rfl, (fun e => by cases e), ?_⟩
      intro _
      simp [stepD, setD, setAttr, put, del, bodyV, get]
    | some t =>
      refine ⟨copyOf_not rfl, fun _ torn => copyOf_not ?_, copyOf_not ?_, (fun e => by cases e), ?_⟩
      · exact write_whole (d := tornD torn (wroteD 0 t.b)) rfl rfl
      · exact write_whole (d := wroteD 0 t.b) rfl rfl
      · intro _
        simp [stepD, setD, wroteD, setAttr, put, del, bodyV, get, layB_zero]
  have h1 : ∀ t : Option TS, wholeB t = false → Along (CopyOf ((V num 0).map (·.b))) t (madeD :: ((match V num 0 with | some t => [wroteD 0 t.b] | none => []) ++ [setD nmW [if (V num 0).isSome then 1 else 2]])) := fun t ht =>
    ⟨copyOf_not ht, (fun e => by cases e), h2 t⟩
  unfold saveDs
  cases hs : (V num newest).isSome with
  | false =>
    rw [if_neg (by simp)]
    exact h1 _ hw
  | true =>
    rw [if_pos rfl]
    exact ⟨copyOf_not hw, (fun e => by cases e), h1 none rfl⟩
/-- What became of a copy ahead of a change. -/
structure Ahd (S : Str) (num newest : Int) (need : Bool) (r : Int × Str) : Prop where
  inv : CInv U17 r.2
  same : ∀ k, (need = true → k ≠ dK 0 num newest) → get k r.2.seen = get k S.seen
  ok : r.1 = 0 → Live U17 r.2 ∧ (need = true → get (dK 0 num newest) r.2.seen = some (copyT (cview S 0 num 0)))
  still : Still r.2
  no : r.1 ≠ 0 → r.1 = 7 ∧ r.2.on = false ∧ need = true ∧ CopyOf ((cview S 0 num 0).map (·.b)) (get (dK 0 num newest) r.2.seen)
theorem run_ahead {S : Str} (h : Live U17 S) (hst : Still S) {num newest : Int} {o : RO} (hO : ObjV (cview S 0) num o) (h0 : 0 ≤ newest) (hk : newest ≠ 0 → dK 0 num newest ∈ U17) :
    Ahd S num newest (needR o.cs newest) (execS (aheadP (cview S 0) (keysAt S ⟨4, 0⟩) 0 num newest) S) := by

  unfold aheadP
  rw [hO.copies h.inv.keys]
  cases hn : needR o.cs newest with
  | false =>
    rw [if_pos ((need_covered h0).2 hn)]
    exact ⟨h.inv, fun _ _ => rfl, fun _ => ⟨h, fun q => by cases q⟩, hst, fun q => absurd rfl q⟩
  | true =>
    have hpos := (need_new hO.inc hn).1
    have hc : ¬ (newest = 0 ∨ coveredV (o.cs.map (·.1)) newest = true) := fun q => by rw [(need_covered h0).1 q] at hn; cases hn
    rw [if_neg hc]
    have hw : wholeB (cview S 0 num newest) = false := by
      cases q : wholeB (cview S 0 num newest) with
      | false => rfl
      | true =>
        obtain ⟨c, hcm, e⟩ := List.mem_map.1 ((hO.mem newest (by omega)).1 q)
        have := (need_new hO.inc hn).2 c hcm
        omega
    have hin : ∀ d ∈ saveDs (cview S 0) num newest, stepIn U17 (.deed (dK 0 num newest) d) := fun d hd => save_in h (hk (by omega)) _ (by rw [save_ds]; exact List.mem_append_left _ (List.mem_map_of_mem hd))
    have hr := run_head (k0 := dK 0 num newest) h hin ((hst _).allK (copyOf_not hw)) rfl (save_along hw)
    rw [save_ds, execS_append]
    obtain ⟨r, hrr⟩ : ∃ r, execS ((saveDs (cview S 0) num newest).map (.deed (dK 0 num newest))) S = r := ⟨_, rfl⟩
    rw [hrr] at hr ⊢
    unfold thenE
    have keepk : ∀ k, k ≠ dK 0 num newest → get k r.2.seen = get k S.seen := fun k hk' => (hr.firm k _ hk' (hst k)).seen
    by_cases e0 : r.1 = 0
    · rw [if_pos e0]
      obtain ⟨hl, ht⟩ := hr.ok e0
      refine exec_cons (Q := fun r' => Ahd S num newest true r') hl.on hl.inv.coh hl.inv.lateN (fun S' keep torn hfe hi => ?_) hl.inv fun hbn h1 => ?_
      · have hf := hr.head.fell hfe
        refine ⟨hi, fun k hk' => ?_, fun q => (by cases q), Still.fell hfe, fun _ => ⟨rfl, hfe.on, rfl, hf.2⟩⟩
        exact ((hr.firm k _ (hk' rfl) (hst k)).fell hfe).seen
      · have hd : Dried r.2 (stepE r.2 .bar).2 := (barrier_dried hl.on hl.inv.coh hbn).2
        have hl2 := (step_ok hl U17_ok (s := .bar) trivial h1).1
        refine ⟨hl2.inv, fun k hk' => ?_, fun _ => ⟨hl2, fun _ => ?_⟩, Still.bar hd, fun q => absurd rfl q⟩
        · show get k (stepE r.2 .bar).2.seen = _
          rw [hd.seen]
          exact keepk k (hk' rfl)
        · show get _ (stepE r.2 .bar).2.seen = _
          rw [hd.seen, ht]
          exact save_fold (cview S 0) num newest
    · rw [if_neg e0]
      obtain ⟨q1, q2, q3⟩ := hr.no e0
      exact ⟨hr.inv, fun k hk' => keepk k (hk' rfl), fun q => absurd q e0, q3, fun _ => ⟨q1, q2, rfl, hr.head.2⟩⟩
/-- What became of a change: a copy ahead of it, then deeds on the head. -/
structure Chg (S : Str) (num newest : Int) (need : Bool) (H : Option TS → Prop) (r : Int × Str) : Prop where
  inv : CInv U17 r.2
  other : ∀ k, k ≠ dK 0 num 0 → (need = true → k ≠ dK 0 num newest) → get k r.2.seen = get k S.seen
  ok : r.1 = 0 → Live U17 r.2
  no : r.1 ≠ 0 → r.1 = 7 ∧ r.2.on = false ∧ Still r.2 ∧
    ((need = true ∧ get (dK 0 num 0) r.2.seen = get (dK 0 num 0) S.seen ∧ CopyOf ((cview S 0 num 0).map (·.b)) (get (dK 0 num newest) r.2.seen)) ∨
     (H (get (dK 0 num 0) r.2.seen) ∧ (need = true → get (dK 0 num newest) r.2.seen = some (copyT (cview S 0 num 0)))))
theorem run_change {S : Str} (h : Live U17 S) (hst : Still S) {num newest : Int} {o : RO} (hO : ObjV (cview S 0) num o) (h0 : 0 ≤ newest) (hk : newest ≠ 0 → dK 0 num newest ∈ U17) {H : Option TS → Prop} {ds : List Dd}
    (hin : ∀ d ∈ ds, stepIn U17 (.deed (dK 0 num 0) d)) (hal : Along H (cview S 0 num 0) ds) :
    Chg S num newest (needR o.cs newest) H (execS (aheadP (cview S 0) (keysAt S ⟨4, 0⟩) 0 num newest ++ ds.map (.deed (dK 0 num 0))) S) := by
  have ha := run_ahead h hst hO h0 hk
  rw [execS_append]
  obtain ⟨r, hr⟩ : ∃ r, execS (aheadP (cview S 0) (keysAt S ⟨4, 0⟩) 0 num newest) S = r := ⟨_, rfl⟩
  rw [hr] at ha ⊢
  unfold thenE
  have hne : needR o.cs newest = true → dK 0 num 0 ≠ dK 0 num newest := fun q e => by
    have := (need_new hO.inc q).1
    have := (dK_inj.1 e).2
    omega
  by_cases e : r.1 = 0
  · rw [if_pos e]
    obtain ⟨hl, hcp⟩ := ha.ok e
    have ht : get (dK 0 num 0) r.2.seen = cview S 0 num 0 := ha.same _ hne
    have hh := run_head (k0 := dK 0 num 0) (H := H) (ds := ds) hl hin ((ha.still _).allK (by rw [ht]; exact hal.start)) ht hal
    have hsame : ∀ k, k ≠ dK 0 num 0 → get k (execS (ds.map (.deed (dK 0 num 0))) r.2).2.seen = get k r.2.seen := fun k hk' => (hh.firm k _ hk' (ha.still k)).seen
    refine ⟨hh.inv, fun k h1 h2 => (hsame k h1).trans (ha.same k h2), fun q => (hh.ok q).1, fun q => ?_⟩
    obtain ⟨q1, q2, q3⟩ := hh.no q
    exact ⟨q1, q2, q3, .inr ⟨hh.head.2, fun hn => (hsame _ fun e => hne hn e.symm).trans (hcp hn)⟩⟩
  · rw [if_neg e]
    obtain ⟨q1, q2, q3, q4⟩ := ha.no e
    exact ⟨ha.inv, fun k _ h2 => ha.same k h2, fun q => absurd q e, fun _ => ⟨q1, q2, ha.still, .inl ⟨q3, ha.same _ hne, q4⟩⟩⟩
theorem layB_get {d q : List Int} {off : Nat} (hq : q ≠ []) (i : Nat) : (layB d off q)[i]? = if i < off then some (d.getD i 0) else if i < off + q.length then q[i - off]? else d[i]? := by
  have hl : 0 < q.length := List.length_pos_iff.2 hq
  unfold layB
  rw [if_neg hq]
  have h1 : ((d ++ List.replicate (off + q.length - d.length) 0).take off).length = off := by
    rw [List.length_take, List.length_append, List.length_replicate]
    omega
  by_cases a : i < off
  · rw [if_pos a, List.append_assoc, List.getElem?_append_left (by omega), List.getElem?_take, if_pos a, List.getD_eq_getElem?_getD]
    by_cases b : i < d.length
    · rw [List.getElem?_append_left b, List.getElem?_eq_getElem b]
      rfl
    · rw [List.getElem?_append_right (by omega), List.getElem?_replicate, if_pos (by omega), List.getElem?_eq_none (by omega)]
      rfl
  · rw [if_neg a]
    by_cases b : i < off + q.length
    · rw [if_pos b, List.append_assoc, List.getElem?_append_right (by omega), h1, List.getElem?_append_left (by omega)]
    · rw [if_neg b, List.getElem?_append_right (by rw [List.length_append, h1]; omega), List.length_append, h1, List.getElem?_drop]
      congr 1
      omega
theorem layB_nil (d : List Int) (off : Nat) : layB d off [] = d := by unfold layB; rw [if_pos rfl]
/-- A piece laid upon a piece of it. -/
theorem lay_again (d p : List Int) (off j k : Nat) : layB (layB d off (p.take j)) off (p.take k) = layB d off (p.take (max j k)) := by
  by_cases hk : p.take k = []
  · rw [hk, layB_nil]
    rcases Nat.le_total k j with h | h
    · rw [Nat.max_eq_left h]
    · have hj : p.take j = [] := List.eq_nil_of_length_eq_zero (by have := congrArg List.length hk; rw [List.length_take, List.length_nil] at this; rw [List.length_take]; omega)
      rw [hj, layB_nil, Nat.max_eq_right h, hk, layB_nil]
  · by_cases hj : p.take j = []
    · rw [hj, layB_nil]
      have hlj := congrArg List.length hj
      have hlk : 0 < (p.take k).length := List.length_pos_iff.2 hk
      rw [List.length_take, List.length_nil] at hlj
      rw [List.length_take] at hlk
      rw [show p.take (max j k) = p.take k by rw [List.take_eq_take_iff]; omega]
    · have hlj : 0 < (p.take j).length := List.length_pos_iff.2 hj
      have hlk : 0 < (p.take k).length := List.length_pos_iff.2 hk
      have hm : p.take (max j k) ≠ [] := List.length_pos_iff.1 (by rw [List.length_take] at *; omega)
      apply List.ext_getElem?
      intro i
      rw [layB_get hk, layB_get hm, layB_get hj, List.getD_eq_getElem?_getD, layB_get hj, List.length_take, List.length_take, List.length_take] 
      rw [List.length_take] at hlj hlk
      by_cases a : i < off
      · rw [if_pos a, if_pos a, if_pos a]
        simp
      · rw [if_neg a, if_neg a, if_neg a]
        by_cases b : i < off + min k p.length
        · rw [if_pos b, if_pos (by omega), List.getElem?_take, List.getElem?_take, if_pos (by omega), if_pos (by omega)]
        · rw [if_neg b]
          by_cases c : i < off + min j p.length
          · rw [if_pos c, if_pos (by omega), List.getElem?_take, List.getElem?_take, if_pos (by omega), if_pos (by omega)]
          · rw [if_neg c, if_neg (by omega)]
/-- A Write: the head is none still, or has a piece of it. -/
def HW (h : Option (List Int)) (off : Int) (p : List Int) (t : Option TS) : Prop := (h = none ∧ t = none) ∨ ∃ j : Nat, t.map (·.b) = some (layB (h.getD []) off.toNat (p.take j))
def writeDs (off : Int) (p : List Int) : Option TS → List Dd
  | some _ => [wroteD off p]
  | none => [madeD, wroteD off p]
theorem write_one {h : Option (List Int)} {off : Int} {p : List Int} {u : TS} {j : Nat} (hu : u.b = layB (h.getD []) off.toNat (p.take j)) :
    Along (HW h off p) (some u) [wroteD off p] ∧ (stepD (some u) (wroteD off p)).map (·.b) = some (layB (h.getD []) off.toNat p) := by
  have hf : (stepD (some u) (wroteD off p)).map (·.b) = some (layB (h.getD []) off.toNat p) := by
    show some (layB u.b off.toNat p) = _
    have e := lay_again (h.getD []) p off.toNat j p.length
    rw [List.take_length, ← hu] at e
    rw [e, List.take_of_length_le (by omega)]
  refine ⟨⟨.inr ⟨j, by rw [Option.map_some, hu]⟩, fun _ torn => .inr ⟨max j (min torn.toNat (p.length - 1)), ?_⟩, .inr ⟨p.length, ?_⟩⟩, hf⟩
  · show some (layB u.b off.toNat (p.take (min torn.toNat (p.length - 1)))) = _
    rw [hu, lay_again]
  · rw [hf, List.take_length]
theorem write_along {h : Option (List Int)} {off : Int} {p : List Int} {t : Option TS} (ht : HW h off p t) :
    Along (HW h off p) t (writeDs off p t) ∧ ((writeDs off p t).foldl stepD t).map (·.b) = some (layB (h.getD []) off.toNat p) := by
  cases t with
  | some u =>
    rcases ht with ⟨_, e⟩ | ⟨j, e⟩
    · cases e
    · exact write_one (j := j) (Option.some.inj e)
  | none =>
    rcases ht with ⟨e, _⟩ | ⟨j, e⟩
    · have hw := write_one (h := h) (off := off) (p := p) (u := ⟨[], []⟩) (j := 0) (by rw [List.take_zero, layB_nil, e]; rfl)
      exact ⟨⟨.inl ⟨e, rfl⟩, (fun q => by cases q), hw.1⟩, hw.2⟩
    · cases e
/-- A Clear. -/
theorem clear_z (d : List Int) (off n : Int) : clearB d off n = layB d off.toNat (List.replicate (min n (d.length - off)).toNat 0) := by
  unfold clearB
  split
  · rw [show (min n ((d.length : Int) - off)).toNat = 0 by omega, List.replicate_zero, layB_nil]
  · rfl
def HC17 (d z : List Int) (off : Int) (t : Option TS) : Prop := ∃ j : Nat, t.map (·.b) = some (layB d off.toNat (z.take j))
theorem HC17.hw {d z : List Int} {off : Int} {t : Option TS} (h : HC17 d z off t) : HW (some d) off z t := .inr h
theorem HW.hc {d z : List Int} {off : Int} {t : Option TS} (h : HW (some d) off z t) : HC17 d z off t := by
  rcases h with ⟨e, _⟩ | h
  · cases e
  · exact h
theorem Along.imp {H H' : Option TS → Prop} (hi : ∀ t, H t → H' t) : ∀ {ds : List Dd} {t : Option TS}, Along H t ds → Along H' t ds
  | [], _, h => hi _ h
  | _ :: ds, _, h => ⟨hi _ h.1, fun e torn => hi _ (h.2.1 e torn), Along.imp hi (ds := ds) h.2.2⟩
/-- A turn to p: the head may be anything meanwhile, or what it is where p is what it has. -/
def turnDs (o : Option TS) (p : List Int) : List Dd :=
  if p = [] then (match o with | some _ => [goneD] | none => []) else match o with
    | none => [madeD, wroteD 0 p]
    | some t => if (p.length : Int) < t.b.length then [cutD t p.length, wroteD 0 p] else [wroteD 0 p]
theorem turn_ds (k : K4) (o : Option TS) (p : List Int) : turnP k o p = (turnDs o p).map (.deed k) := by
  unfold turnP turnDs
  split
  · cases o <;> rfl
  · cases o with
    | none => rfl
    | some t => simp only; split <;> rfl
theorem along_true : ∀ {ds : List Dd} {t : Option TS}, Along (fun _ => True) t ds
  | [], _ => trivial
  | _ :: _, _ => ⟨trivial, fun _ _ => trivial, along_true⟩
theorem turn_same {b : Option (List Int)} (hz : b ≠ some []) {t : Option TS} (ht : t.map (·.b) = b) : Along (fun t => t.map (·.b) = b) t (turnDs t (b.getD [])) ∧ ((turnDs t (b.getD [])).foldl stepD t).map (·.b) = b := by
  cases t with
  | none =>
    have : b = none := ht.symm
    subst this
    exact ⟨rfl, rfl⟩
  | some u =>
    have hb : b = some u.b := ht.symm
    subst hb
    have hne : u.b ≠ [] := fun q => hz (by rw [q])
    have e : turnDs (some u) ((some u.b).getD []) = [wroteD 0 u.b] := by
      unfold turnDs
      rw [Option.getD_some, if_neg hne]
      simp
    rw [e]
    have hf : (stepD (some u) (wroteD 0 u.b)).map (·.b) = some u.b := by
      show some (layB u.b 0 u.b) = _
      rw [layB_full (Nat.le_refl _)]
    refine ⟨⟨rfl, fun _ torn => ?_, hf⟩, hf⟩
    show some (layB u.b 0 (u.b.take (min torn.toNat (u.b.length - 1)))) = some u.b
    have e2 := lay_again [] u.b 0 u.b.length (min torn.toNat (u.b.length - 1))
    have el : layB [] 0 u.b = u.b := layB_full (by simp)
    rw [List.take_length, el, Nat.max_eq_left (by omega), List.take_length, el] at e2
    rw [e2]
/-- What the head may be while an act is done; cs: the copies behind it. -/
def Hact (o : RO) (a : A17) (cs : List (Int × Option (List Int))) (t : Option TS) : Prop :=
  if a.what = 0 then (if a.p = [] then t.map (·.b) = o.h else HW o.h a.off a.p t)
  else if a.what = 1 then (match o.h with
    | none => t = none
    | some d => HC17 d (List.replicate (min a.n (d.length - a.off)).toNat 0) a.off t)
  else if a.what = 2 then t.map (·.b) = o.h ∨ t.map (·.b) = (actO o a).h
  else if a.what = 3 then True
  else if a.what = 4 then ratR ⟨t.map (·.b), cs⟩ a.snap = ratR o a.snap
  else t.map (·.b) = o.h
theorem rat_found (cs : List (Int × Option (List Int))) (snap : Int) : (∃ v, ∀ x, ratR ⟨x, cs⟩ snap = v) ∨ ∀ x, ratR ⟨x, cs⟩ snap = x := by
  unfold ratR
  by_cases h : 0 < snap
  · simp only [if_pos h]
    cases cs.find? fun c => decide (snap ≤ c.1) with
    | some c => exact .inl ⟨c.2, fun _ => rfl⟩
    | none => exact .inr fun _ => rfl
  · exact .inr fun x => by rw [if_neg h]
theorem viewExec_fold {k : K4} : ∀ {ds : List Dd} {W : K4 → Option TS}, viewExec (ds.map (.deed k)) W k = ds.foldl stepD (W k)
  | [], _ => rfl
  | d :: ds, W => by
    show viewExec (ds.map (.deed k)) (viewStep (.deed k d) W) k = ds.foldl stepD (stepD (W k) d)
    rw [viewExec_fold]
    congr 1
    show (if k = k then _ else _) = _
    rw [if_pos rfl]
theorem turn_fold (o : Option TS) (p : List Int) : ((turnDs o p).foldl stepD o).map (·.b) = if p = [] then none else some p := by
  have h := turn_heads (k := dK 0 0 0) (o := o) (W := fun _ => o) rfl (p := p)
  rw [turn_ds, viewExec_fold] at h
  exact h
theorem plan_of {V : CV} {ks : List K4} {o : RO} {a : A17} {U : List K4} {cs : List (Int × Option (List Int))} (ha : Fine U 0 a) (h5 : a.what ≠ 5) (hnz : o.h ≠ some [] ∧ ∀ c ∈ o.cs, c.2 ≠ some []) (hH : Hact o a cs (V a.num 0)) (hv : a.what = 4 → valO V ks a.num a.snap = ratR ⟨(V a.num 0).map (·.b), cs⟩ a.snap) :
    ∃ ds : List Dd, Along (Hact o a cs) (V a.num 0) ds ∧ (ds.foldl stepD (V a.num 0)).map (·.b) = (actO o a).h ∧
      (oursP V ks 0 a = aheadP V ks 0 a.num a.newest ++ ds.map (.deed (dK 0 a.num 0)) ∨ (oursP V ks 0 a = [] ∧ ds = [])) := by
  obtain ⟨t, ht⟩ : ∃ t, V a.num 0 = t := ⟨_, rfl⟩
  unfold Hact at hH
  unfold oursP actO
  rw [ht] at hH hv ⊢
  by_cases w0 : a.what = 0
  · have eH : ∀ t, Hact o a cs t ↔ if a.p = [] then t.map (·.b) = o.h else HW o.h a.off a.p t := fun t => by unfold Hact; rw [if_pos w0]
    rw [if_pos w0] at hH
    simp only [if_pos w0]
    unfold rwrite
    by_cases ep : a.p = []
    · simp only [if_pos ep] at hH ⊢
      exact ⟨[], (eH t).2 (by rw [if_pos ep]; exact hH), hH, .inr (by simp)⟩
    · simp only [if_neg ep] at hH ⊢
      obtain ⟨h1, h2⟩ := write_along hH
      refine ⟨writeDs a.off a.p t, h1.imp fun t q => (eH t).2 (by rw [if_neg ep]; exact q), h2, .inl ?_⟩
      cases t <;> rfl
  · by_cases w1 : a.what = 1
    · have hw := ha.span.2.1 w1
      unfold withinB at hw
      rw [decide_eq_true_eq] at hw
      rw [if_neg w0, if_pos w1] at hH
      simp only [if_neg w0, if_pos w1]
      unfold rclear
      cases ho : o.h with
      | none =>
        rw [ho] at hH
        simp only at hH ⊢
        subst hH
        refine ⟨[], ?_, ho.symm ▸ rfl, .inr (by simp)⟩
        show Hact o a cs none
        unfold Hact
        rw [if_neg w0, if_pos w1, ho]
      | some d =>
        rw [ho] at hH
        simp only at hH ⊢
        obtain ⟨z, hz⟩ : ∃ z, List.replicate (min a.n ((d.length : Int) - a.off)).toNat (0 : Int) = z := ⟨_, rfl⟩
        have eH : ∀ t, HC17 d z a.off t → Hact o a cs t := fun t q => by
          unfold Hact
          rw [if_neg w0, if_pos w1, ho]
          simp only
          rw [hz]
          exact q
        rw [hz] at hH
        obtain ⟨j, hj⟩ := hH
        cases t with
        | none => cases hj
        | some u =>
          have hub : u.b = layB d a.off.toNat (z.take j) := Option.some.inj hj
          have hlen : u.b.length = d.length := by
            rw [hub]
            by_cases hzj : z.take j = []
            · rw [hzj, layB_nil]
            · refine layB_len ?_
              have : 0 < (z.take j).length := List.length_pos_iff.2 hzj
              rw [List.length_take] at this ⊢
              rw [← hz, List.length_replicate] at this ⊢
              omega
          simp only [hlen]
          have hfin : clearB d a.off a.n = layB d a.off.toNat z := by rw [clear_z, hz]
          by_cases hm : min a.n ((d.length : Int) - a.off) < 1
          · simp only [if_pos hm]
            have hz0 : z = [] := by rw [← hz, show (min a.n ((d.length : Int) - a.off)).toNat = 0 by omega]; rfl
            refine ⟨[], eH _ ⟨j, hj⟩, ?_, .inl (by rw [List.map_nil])⟩
            show some u.b = some (clearB d a.off a.n)
            rw [hub, hfin, hz0, List.take_nil]
          · simp only [if_neg hm, hz]
            obtain ⟨h1, h2⟩ := write_along (t := some u) (HC17.hw ⟨j, hj⟩)
            refine ⟨[wroteD a.off z], h1.imp fun t q => eH t q.hc, ?_, .inl rfl⟩
            show _ = some (clearB d a.off a.n)
            rw [hfin]
            exact h2
    · by_cases w2 : a.what = 2
      · have hw := ha.span.2.2.1 w2
        unfold withinB at hw
        rw [decide_eq_true_eq] at hw
        rw [if_neg w0, if_neg w1, if_pos w2] at hH
        have eact : actO o a = rcut o a.newest a.n := by unfold actO; rw [if_neg w0, if_neg w1, if_pos w2]
        have eH : ∀ t : Option TS, (t.map (·.b) = o.h ∨ t.map (·.b) = (actO o a).h) → Hact o a cs t := fun t q => by
          unfold Hact
          rw [if_neg w0, if_neg w1, if_pos w2]
          exact q
        simp only [if_neg w0, if_neg w1, if_pos w2]
        rw [eact] at hH eH
        cases t with
        | none =>
          refine ⟨[], eH _ hH, ?_, .inr (by simp)⟩
          rcases hH with q | q
          · unfold rcut
            rw [show o.h = none from q.symm]
            exact q
          · exact q
        | some u =>
          simp only
          by_cases hc : 0 < a.n ∧ (u.b.length : Int) ≤ a.n
          · simp only [if_pos hc]
            refine ⟨[], eH _ hH, ?_, .inr (by simp)⟩
            rcases hH with q | q
            · have q' : o.h = some u.b := q.symm
              unfold rcut
              rw [q']
              simp only
              rw [if_pos hc]
              exact q
            · exact q
          · simp only [if_neg hc]
            have q' : o.h = some u.b := by
              rcases hH with q | q
              · exact q.symm
              · exfalso
                unfold rcut at q
                cases ho : o.h with
                | none => rw [ho] at q; simp only at q; rw [ho] at q; cases q
                | some d =>
                  rw [ho] at q
                  simp only at q
                  by_cases hd : 0 < a.n ∧ (d.length : Int) ≤ a.n
                  · rw [if_pos hd, ho] at q
                    have : u.b = d := Option.some.inj q
                    rw [this] at hc
                    exact hc hd
                  · rw [if_neg hd] at q
                    by_cases hn0 : a.n = 0
                    · rw [if_pos hn0] at q
                      cases q
                    · rw [if_neg hn0] at q
                      have : u.b = d.take a.n.toNat := Option.some.inj q
                      rw [this, List.length_take] at hc
                      omega
            have hfin : ([if a.n = 0 then goneD else cutD u a.n].foldl stepD (some u)).map (·.b) = (rcut o a.newest a.n).h := by
              unfold rcut
              rw [q']
              simp only
              rw [if_neg hc]
              by_cases hn0 : a.n = 0
              · rw [if_pos hn0, if_pos hn0]
                rfl
              · rw [if_neg hn0, if_neg hn0]
                show some (u.b.take (min (max 0 (min a.n u.b.length)).toNat u.b.length)) = some (u.b.take a.n.toNat)
                congr 1
                rw [List.take_eq_take_iff]
                omega
            refine ⟨[if a.n = 0 then goneD else cutD u a.n], ⟨eH _ hH, (fun e => ?_), eH _ (.inr hfin)⟩, hfin, .inl ?_⟩
            · split at e <;> cases e
            · rw [List.map_cons, List.map_nil]
              congr 1
              split <;> rfl
      · by_cases w3 : a.what = 3
        · simp only [if_neg w0, if_neg w1, if_neg w2, if_pos w3]
          refine ⟨turnDs t a.p, along_true.imp fun t _ => ?_, ?_, .inl (by rw [turn_ds])⟩
          · unfold Hact
            rw [if_neg w0, if_neg w1, if_neg w2, if_pos w3]
            trivial
          · rw [turn_fold]
            rfl
        · by_cases w4 : a.what = 4
          · rw [if_neg w0, if_neg w1, if_neg w2, if_neg w3, if_pos w4] at hH
            have hvv := hv w4
            have hz := at_nz hnz a.snap
            simp only [if_neg w0, if_neg w1, if_neg w2, if_neg w3, if_pos w4]
            rw [hvv, hH]
            have eH : ∀ t : Option TS, ratR ⟨t.map (·.b), cs⟩ a.snap = ratR o a.snap → Hact o a cs t := fun t q => by
              unfold Hact
              rw [if_neg w0, if_neg w1, if_neg w2, if_neg w3, if_pos w4]
              exact q
            have hfold : ((turnDs t ((ratR o a.snap).getD [])).foldl stepD t).map (·.b) = ratR o a.snap := by
              rw [turn_fold]
              cases hr : ratR o a.snap with
              | none => rfl
              | some d =>
                rw [hr] at hz
                rw [Option.getD_some, if_neg (fun q => hz (by rw [q]))]
            refine ⟨turnDs t ((ratR o a.snap).getD []), ?_, hfold, .inl (by rw [turn_ds])⟩
            rcases rat_found cs a.snap with ⟨v, hvf⟩ | hnf
            · exact along_true.imp fun t' _ => eH t' (by rw [hvf]; rw [hvf] at hH; exact hH)
            · rw [hnf] at hH
              exact (turn_same hz hH).1.imp fun t' q => eH t' (by rw [hnf]; exact q)
          · rw [if_neg w0, if_neg w1, if_neg w2, if_neg w3, if_neg w4] at hH
            simp only [if_neg w0, if_neg w1, if_neg w2, if_neg w3, if_neg w4, if_neg h5]
            refine ⟨[], ?_, hH, .inr (by simp)⟩
            show Hact o a cs t
            unfold Hact
            rw [if_neg w0, if_neg w1, if_neg w2, if_neg w3, if_neg w4]
            exact hH
theorem idle_or {V : CV} {ks : List K4} {o : RO} {a : A17} (h5 : a.what ≠ 5) (hV : (V a.num 0).map (·.b) = o.h) : (oursP V ks 0 a = [] ∧ actO o a = o) ∨ (actO o a).cs = (rchange o a.newest o.h).cs := by
  unfold oursP actO
  by_cases w0 : a.what = 0
  · simp only [if_pos w0]
    unfold rwrite
    by_cases ep : a.p = []
    · simp only [if_pos ep]
      exact .inl ⟨trivial, trivial⟩
    · simp only [if_neg ep]
      exact .inr rfl
  · by_cases w1 : a.what = 1
    · simp only [if_neg w0, if_pos w1]
      unfold rclear
      cases ho : o.h with
      | none =>
        rw [ho, Option.map_eq_none_iff] at hV
        rw [hV]
        exact .inl ⟨rfl, rfl⟩
      | some d => exact .inr rfl
    · by_cases w2 : a.what = 2
      · simp only [if_neg w0, if_neg w1, if_pos w2]
        unfold rcut
        cases ho : o.h with
        | none =>
          rw [ho, Option.map_eq_none_iff] at hV
          rw [hV]
          exact .inl ⟨rfl, rfl⟩
        | some d =>
          obtain ⟨u, hu, hb⟩ := Option.map_eq_some_iff.1 (hV.trans ho)
          rw [hu]
          simp only
          rw [hb]
          by_cases hc : 0 < a.n ∧ (d.length : Int) ≤ a.n
          · rw [if_pos hc, if_pos hc]
            exact .inl ⟨rfl, rfl⟩
          · rw [if_neg hc, if_neg hc]
            exact .inr rfl
      · by_cases w3 : a.what = 3
        · simp only [if_neg w0, if_neg w1, if_neg w2, if_pos w3]
          exact .inr rfl
        · by_cases w4 : a.what = 4
          · simp only [if_neg w0, if_neg w1, if_neg w2, if_neg w3, if_pos w4]
            exact .inr rfl
          · simp only [if_neg w0, if_neg w1, if_neg w2, if_neg w3, if_neg w4, if_neg h5]
            exact .inl ⟨trivial, trivial⟩
/-- The copies that are seen. -/
structure CopV (V : CV) (i : Int) (cs : List (Int × Option (List Int))) : Prop where
  inc : Inc (cs.map (·.1))
  pos : ∀ c ∈ cs, 0 < c.1
  mem : ∀ n, n ≠ 0 → (wholeB (V i n) = true ↔ n ∈ cs.map (·.1))
  val : ∀ c ∈ cs, bodyV (V i c.1) = c.2
  nz : ∀ c ∈ cs, c.2 ≠ some []
theorem ObjV.cop {V : CV} {i : Int} {o : RO} (h : ObjV V i o) : CopV V i o.cs := ⟨h.inc, h.pos, h.mem, h.val, h.nz.2⟩
theorem CopV.obj {V : CV} {i : Int} {cs : List (Int × Option (List Int))} (h : CopV V i cs) {b : Option (List Int)} (hb : (V i 0).map (·.b) = b) (hz : b ≠ some []) : ObjV V i ⟨b, cs⟩ := ⟨hb, h.inc, h.pos, h.mem, h.val, hz, h.nz⟩
theorem CopV.congr {V V' : CV} {i : Int} {cs : List (Int × Option (List Int))} (h : CopV V i cs) (e : ∀ n, n ≠ 0 → V' i n = V i n) : CopV V' i cs :=
  ⟨h.inc, h.pos, fun n hn => by rw [e n hn]; exact h.mem n hn, fun c hc => by rw [e _ (by have := h.pos c hc; omega)]; exact h.val c hc, h.nz⟩
theorem CopV.copies {S : Str} (hk : KeysOK S) {i : Int} {cs : List (Int × Option (List Int))} (h : CopV (cview S 0) i cs) : copiesV (cview S 0) (keysAt S ⟨4, 0⟩) i = cs.map (·.1) := by
  refine inc_eq (copies_inc hk _ _ _) h.inc fun x => ?_
  rw [copies_mem hk]
  constructor
  · rintro ⟨h1, h2⟩
    exact (h.mem x h1).1 h2
  · intro hx
    obtain ⟨c, hc, rfl⟩ := List.mem_map.1 hx
    have := h.pos c hc
    exact ⟨by omega, (h.mem _ (by omega)).2 hx⟩
theorem CopV.at {S : Str} (hk : KeysOK S) {i : Int} {cs : List (Int × Option (List Int))} (h : CopV (cview S 0) i cs) (snap : Int) : valO (cview S 0) (keysAt S ⟨4, 0⟩) i snap = ratR ⟨(cview S 0 i 0).map (·.b), cs⟩ snap := by
  unfold valO ratR
  rw [h.copies hk, List.find?_map]
  by_cases hs : 0 < snap
  · rw [if_pos hs, if_pos hs]
    show (match (cs.find? fun c => decide (snap ≤ c.1)).map (·.1) with | some n => bodyV (cview S 0 i n) | none => _) = _
    cases hf : cs.find? fun c => decide (snap ≤ c.1) with
    | none => rfl
    | some c => exact h.val c (List.mem_of_find?_eq_some hf)
  · rw [if_neg hs, if_neg hs]
/-- The copies behind a copy that is made ahead. -/
theorem CopV.ahead {V V' : CV} {i newest : Int} {o : RO} (h : ObjV V i o) (hv : ∀ n, n ≠ 0 → V' i n = if needR o.cs newest = true ∧ n = newest then some (copyT (V i 0)) else V i n) : CopV V' i (rchange o newest o.h).cs := by
  have h2 := h.change (V' := fun x n => if n = 0 then V x 0 else V' x n) (newest := newest) (b := o.h) (by rw [if_pos rfl]; exact h.head) h.nz.1 (fun n hn => by rw [if_neg hn]; exact hv n hn)
  exact h2.cop.congr fun n hn => by rw [if_neg hn]
theorem CopV.new {V V' : CV} {i newest : Int} {o : RO} (h : ObjV V i o) (hn : needR o.cs newest = true) (hs : ∀ n, n ≠ 0 → n ≠ newest → V' i n = V i n) (hw : wholeB (V' i newest) = true) (hb : bodyV (V' i newest) = o.h) : CopV V' i (rchange o newest o.h).cs := by
  obtain ⟨h1, h2⟩ := need_new h.inc hn
  unfold rchange
  rw [hn, if_pos rfl]
  refine ⟨?_, fun c hc => ?_, fun n h0 => ?_, fun c hc => ?_, fun c hc => ?_⟩
  · rw [List.map_append]
    refine List.pairwise_append.2 ⟨h.inc, List.pairwise_singleton _ _, fun x hx y hy => ?_⟩
    obtain ⟨c, hc, rfl⟩ := List.mem_map.1 hx
    simp at hy; subst hy
    exact h2 c hc
  · rcases List.mem_append.1 hc with q | q
    · exact h.pos c q
    · simp at q; subst q; exact h1
  · rw [List.map_append, List.mem_append]
    by_cases hne : n = newest
    · subst hne
      rw [hw]
      simp
    · rw [hs n h0 hne, h.mem n h0]
      simp [hne]
  · rcases List.mem_append.1 hc with q | q
    · rw [hs _ (by have := h.pos c q; omega) (by have := h2 c q; omega)]
      exact h.val c q
    · simp at q; subst q
      exact hb
  · rcases List.mem_append.1 hc with q | q
    · exact h.nz.2 c q
    · simp at q; subst q
      exact h.nz.1
theorem rat_change {o : RO} {newest : Int} (snap : Int) : ratR ⟨o.h, (rchange o newest o.h).cs⟩ snap = ratR o snap := by
  unfold rchange ratR
  by_cases h : 0 < snap
  · simp only [if_pos h]
    cases needR o.cs newest with
    | true =>
      rw [if_pos rfl, List.find?_append]
      cases o.cs.find? fun c => decide (snap ≤ c.1) with
      | some c => rfl
      | none =>
        simp only [Option.none_or, List.find?_cons, List.find?_nil]
        cases decide (snap ≤ newest) <;> rfl
    | false => rw [if_neg (by simp)]
  · rw [if_neg h, if_neg h]
theorem hact_start {o : RO} {a : A17} {t : Option TS} (ht : t.map (·.b) = o.h) : Hact o a (rchange o a.newest o.h).cs t := by
  unfold Hact
  by_cases w0 : a.what = 0
  · rw [if_pos w0]
    by_cases ep : a.p = []
    · rw [if_pos ep]; exact ht
    · rw [if_neg ep]
      cases t with
      | none => exact .inl ⟨ht.symm, rfl⟩
      | some u => exact .inr ⟨0, by rw [List.take_zero, layB_nil, ht, ← ht]; rfl⟩
  · rw [if_neg w0]
    by_cases w1 : a.what = 1
    · rw [if_pos w1]
      cases ho : o.h with
      | none =>
        rw [ho, Option.map_eq_none_iff] at ht
        exact ht
      | some d => exact ⟨0, by rw [List.take_zero, layB_nil, ht, ho]⟩
    · rw [if_neg w1]
      by_cases w2 : a.what = 2
      · rw [if_pos w2]; exact .inl ht
      · rw [if_neg w2]
        by_cases w3 : a.what = 3
        · rw [if_pos w3]; trivial
        · rw [if_neg w3]
          by_cases w4 : a.what = 4
          · rw [if_pos w4, ht]
            exact rat_change a.snap
          · rw [if_neg w4]; exact ht
/-- An act fell in its midst. -/
structure Mid (S : Str) (R : List RO) (a : A17) : Prop where
  len : R.length = 4
  other : ∀ (i : Nat) (o : RO), R[i]? = some o → (i : Int) ≠ a.num → ObjV (cview S 0) i o
  mine : ∀ (i : Nat) (o : RO), R[i]? = some o → (i : Int) = a.num → CopV (cview S 0) i (rchange o a.newest o.h).cs ∧ (actO o a).cs = (rchange o a.newest o.h).cs ∧ Hact o a (rchange o a.newest o.h).cs (cview S 0 i 0) ∧ o.h ≠ some [] ∧ ∀ c ∈ o.cs, c.2 ≠ some []
theorem sim_fall {S : Str} {R : List RO} {a : A17} (h : Live U17 S) (hst : Still S) (hs : Sim S R) (ha : Fine U17 0 a) (h5 : a.what ≠ 5) (hn : 0 ≤ a.num ∧ a.num ≤ 3) (he : (oursS S 0 a).1 ≠ 0) :
    (oursS S 0 a).1 = 7 ∧ (oursS S 0 a).2.on = false ∧ Still (oursS S 0 a).2 ∧ CInv U17 (oursS S 0 a).2 ∧ (Sim (oursS S 0 a).2 R ∨ Mid (oursS S 0 a).2 R a) := by
  obtain ⟨j, hj⟩ : ∃ j : Nat, a.num = j := ⟨a.num.toNat, by omega⟩
  obtain ⟨o, ho⟩ : ∃ o, R[j]? = some o := ⟨_, List.getElem?_eq_getElem (by rw [hs.len]; omega)⟩
  have hO := hs.obj j o ho
  rw [← hj] at hO
  have hnew : 0 ≤ a.newest := by have := ha.newest; unfold snapB at this; rw [decide_eq_true_eq] at this; exact this.1
  have hin := ours_in h (img := 0) (.inr ha)
  rw [ours_plan h U17_ok (by omega) (.inr ha)] at he ⊢
  obtain ⟨ds, d1, _, d3⟩ := plan_of (V := cview S 0) (ks := keysAt S ⟨4, 0⟩) ha h5 hO.nz (hact_start hO.head) (fun _ => by rw [hO.at h.inv.keys, hO.head, rat_change])
  have hid := idle_or (V := cview S 0) (ks := keysAt S ⟨4, 0⟩) h5 hO.head
  rcases d3 with d3 | ⟨d3, _⟩
  · rw [d3] at he hin ⊢
    have hc := run_change h hst hO hnew ha.copy (fun d hd => hin _ (List.mem_append_right _ (List.mem_map_of_mem hd))) d1
    have hcs : (actO o a).cs = (rchange o a.newest o.h).cs := by
      rcases hid with ⟨q, _⟩ | q
      · exfalso
        rw [← d3, q] at he
        exact he rfl
      · exact q
    obtain ⟨r, hr⟩ : ∃ r, execS (aheadP (cview S 0) (keysAt S ⟨4, 0⟩) 0 a.num a.newest ++ ds.map (.deed (dK 0 a.num 0))) S = r := ⟨_, rfl⟩
    rw [hr] at hc he ⊢
    obtain ⟨q1, q2, q3, q4⟩ := hc.no he
    refine ⟨q1, q2, q3, hc.inv, ?_⟩
    have hoth : ∀ (i : Nat) (oi : RO), R[i]? = some oi → (i : Int) ≠ a.num → ObjV (cview r.2 0) i oi := fun i oi hi hne =>
      (hs.obj i oi hi).congr fun n => hc.other _ (fun e => hne (dK_inj.1 e).1) fun _ e => hne (dK_inj.1 e).1
    have hmy : ∀ n, n ≠ 0 → (needR o.cs a.newest = true → n ≠ a.newest) → cview r.2 0 a.num n = cview S 0 a.num n := fun n hn0 hnn => hc.other _ (fun e => hn0 (dK_inj.1 e).2) fun q e => hnn q (dK_inj.1 e).2
    have mid : CopV (cview r.2 0) a.num (rchange o a.newest o.h).cs → Hact o a (rchange o a.newest o.h).cs (cview r.2 0 a.num 0) → Mid r.2 R a := fun m1 m2 =>
      ⟨hs.len, hoth, fun i oi hi he' => by
        have hij : i = j := by omega
        subst hij
        rw [ho] at hi
        injection hi with hi
        subst hi
        rw [he']
        exact ⟨m1, hcs, m2, hO.nz⟩⟩
    rcases q4 with ⟨k1, k2, k3⟩ | ⟨k1, k2⟩
    · have hhd : cview r.2 0 a.num 0 = cview S 0 a.num 0 := k2
      cases hw : wholeB (get (dK 0 a.num a.newest) r.2.seen) with
      | true =>
        refine .inr (mid (CopV.new hO k1 (fun n h0 h1 => hmy n h0 fun _ => h1) hw ?_) (by rw [hhd]; exact hact_start hO.head))
        exact (k3 hw).trans hO.head
      | false =>
        refine .inl ⟨hs.len, fun i oi hi => ?_⟩
        by_cases he' : (i : Int) = a.num
        · have hij : i = j := by omega
          subst hij
          rw [ho] at hi
          injection hi with hi
          subst hi
          rw [he']
          refine ⟨by rw [hhd]; exact hO.head, hO.inc, hO.pos, fun n hn0 => ?_, fun c hc' => ?_, hO.nz⟩
          · by_cases hnn : n = a.newest
            · subst hnn
              rw [show cview r.2 0 a.num a.newest = get (dK 0 a.num a.newest) r.2.seen from rfl, hw]
              refine ⟨(fun q => by cases q), fun q => ?_⟩
              obtain ⟨c, hcm, e⟩ := List.mem_map.1 q
              have := (need_new hO.inc k1).2 c hcm
              omega
            · rw [hmy n hn0 fun _ => hnn]
              exact hO.mem n hn0
          · have p1 := hO.pos c hc'
            have p2 := (need_new hO.inc k1).2 c hc'
            rw [hmy c.1 (by omega) fun _ => by omega]
            exact hO.val c hc'
        · exact hoth i oi hi he'
    · refine .inr (mid ?_ k1)
      refine CopV.ahead hO fun n hn0 => ?_
      by_cases q : needR o.cs a.newest = true ∧ n = a.newest
      · rw [if_pos q, q.2]
        exact k2 q.1
      · rw [if_neg q]
        exact hmy n hn0 fun q1 q2 => q ⟨q1, q2⟩
  · rw [d3] at he
    exact absurd rfl he
theorem ok_done {S : Str} (h : Live U17 S) {a : A17} (ha : a.what = 5 ∨ Fine U17 0 a) (e : (oursS S 0 a).1 = 0) : Live U17 (oursS S 0 a).2 ∧ viewOf (oursS S 0 a).2 = viewExec (oursP (cview S 0) (keysAt S ⟨4, 0⟩) 0 a) (viewOf S) := by
  have hin := ours_in h ha
  rw [ours_plan h U17_ok (by omega) ha] at e ⊢
  exact exec_ok U17_ok h hin e
/-- Done, it is done, whatever fuse there was. -/
theorem sim_ok {S : Str} {R : List RO} {a : A17} (h : Live U17 S) (hs : Sim S R) (ha : a.what = 5 ∨ Fine U17 0 a) (e : (oursS S 0 a).1 = 0) : Live U17 (oursS S 0 a).2 ∧ Sim (oursS S 0 a).2 (theirR R a) := by
  obtain ⟨h1, h2⟩ := ok_done h ha e
  obtain ⟨S0, hS0⟩ : ∃ S0, fuseS S (-1) [] 0 = S0 := ⟨_, rfl⟩
  have e0 : S0 = { S with armed := false, fuse := 0, keep := [], torn := 0 } := by
    rw [← hS0]
    unfold fuseS
    rw [if_neg (by omega)]
  have hseen : S0.seen = S.seen := by rw [e0]
  have hkeys : keysAt S0 ⟨4, 0⟩ = keysAt S ⟨4, 0⟩ := by rw [e0]; rfl
  have hl0 : Live U17 S0 := by rw [← hS0]; exact ⟨h.inv.fuse _ _ _, by unfold fuseS; split <;> exact h.on⟩
  have ha0 : S0.armed = false := by rw [e0]
  have hcv : cview S0 0 = cview S 0 := by unfold cview; rw [hseen]
  have hvo : viewOf S0 = viewOf S := by unfold viewOf; rw [hseen]
  have hs0 : Sim S0 R := ⟨hs.len, fun i o ho => by rw [hcv]; exact hs.obj i o ho⟩
  have hst := hs0.step U17_ok hl0 ha0 ha
  have hv0 := (calm_done U17_ok hl0 ha0 ha).2.2.2
  rw [hcv, hkeys, hvo, ← h2] at hv0
  exact ⟨h1, hst.len, fun i o ho => (hst.obj i o ho).congr fun n => (congrFun hv0 (dK 0 i n)).symm⟩
/-- An act that fell, done again: its plan. -/
theorem mid_plan {S : Str} {R : List RO} {a : A17} (h : Live U17 S) (hm : Mid S R a) (ha : Fine U17 0 a) (h5 : a.what ≠ 5) (hn : 0 ≤ a.num ∧ a.num ≤ 3) :
    ∃ (j : Nat) (o : RO) (ds : List Dd), a.num = j ∧ R[j]? = some o ∧ Along (Hact o a (rchange o a.newest o.h).cs) (cview S 0 a.num 0) ds ∧ (ds.foldl stepD (cview S 0 a.num 0)).map (·.b) = (actO o a).h ∧
      oursP (cview S 0) (keysAt S ⟨4, 0⟩) 0 a = ds.map (.deed (dK 0 a.num 0)) := by
  obtain ⟨j, hj⟩ : ∃ j : Nat, a.num = j := ⟨a.num.toNat, by omega⟩
  obtain ⟨o, ho⟩ : ∃ o, R[j]? = some o := ⟨_, List.getElem?_eq_getElem (by rw [hm.len]; omega)⟩
  obtain ⟨m1, m2, m3, m4⟩ := hm.mine j o ho hj.symm
  rw [← hj] at m1 m3
  obtain ⟨ds, d1, d2, d3⟩ := plan_of (V := cview S 0) (ks := keysAt S ⟨4, 0⟩) ha h5 m4 m3 (fun _ => m1.at h.inv.keys _)
  have hnew : 0 ≤ a.newest := by have := ha.newest; unfold snapB at this; rw [decide_eq_true_eq] at this; exact this.1
  have hah : aheadP (cview S 0) (keysAt S ⟨4, 0⟩) 0 a.num a.newest = [] := by
    unfold aheadP
    rw [m1.copies h.inv.keys, if_pos]
    by_cases hz : a.newest = 0
    · exact .inl hz
    · right
      have hc := (need_covered (o := ⟨o.h, (rchange o a.newest o.h).cs⟩) hnew).2 (by
        show needR (rchange o a.newest o.h).cs a.newest = false
        unfold rchange
        cases hq : needR o.cs a.newest with
        | false =>
          rw [if_neg (by simp)]
          exact hq
        | true =>
          rw [if_pos rfl]
          unfold needR
          rw [List.getLast?_concat]
          simp)
      exact hc.resolve_left hz
  refine ⟨j, o, ds, hj, ho, d1, d2, ?_⟩
  rcases d3 with d3 | ⟨d3, d4⟩
  · rw [d3, hah, List.nil_append]
  · rw [d3, d4]
    rfl
theorem mid_fall {S : Str} {R : List RO} {a : A17} (h : Live U17 S) (hst : Still S) (hm : Mid S R a) (ha : Fine U17 0 a) (h5 : a.what ≠ 5) (hn : 0 ≤ a.num ∧ a.num ≤ 3) (he : (oursS S 0 a).1 ≠ 0) :
    (oursS S 0 a).1 = 7 ∧ (oursS S 0 a).2.on = false ∧ Still (oursS S 0 a).2 ∧ CInv U17 (oursS S 0 a).2 ∧ Mid (oursS S 0 a).2 R a := by
  obtain ⟨j, o, ds, hj, ho, d1, _, d3⟩ := mid_plan h hm ha h5 hn
  have hin := ours_in h (img := 0) (.inr ha)
  rw [ours_plan h U17_ok (by omega) (.inr ha)] at he ⊢
  rw [d3] at he hin ⊢
  have hr := run_head (k0 := dK 0 a.num 0) h (fun d hd => hin _ (List.mem_map_of_mem hd)) ((hst _).allK d1.start) rfl d1
  obtain ⟨q1, q2, q3⟩ := hr.no he
  have hsame : ∀ k, k ≠ dK 0 a.num 0 → get k (execS (ds.map (.deed (dK 0 a.num 0))) S).2.seen = get k S.seen := fun k hk => (hr.firm k _ hk (hst k)).seen
  refine ⟨q1, q2, q3, hr.inv, hm.len, fun i oi hi hne => (hm.other i oi hi hne).congr fun n => hsame _ fun e => hne (dK_inj.1 e).1, fun i oi hi he' => ?_⟩
  obtain ⟨m1, m2, m3, m4⟩ := hm.mine i oi hi he'
  have hij : i = j := by omega
  subst hij
  rw [ho] at hi
  injection hi with hi
  subst hi
  refine ⟨m1.congr fun n hn0 => hsame _ fun e => hn0 (dK_inj.1 e).2, m2, ?_, m4⟩
  rw [he']
  exact hr.head.2
theorem act_nz {U : List K4} {o : RO} {a : A17} (ha : Fine U 0 a) (hz : o.h ≠ some [] ∧ ∀ c ∈ o.cs, c.2 ≠ some []) : (actO o a).h ≠ some [] := by
  unfold actO
  by_cases w0 : a.what = 0
  · rw [if_pos w0]
    unfold rwrite
    split
    · exact hz.1
    · rename_i ep
      exact fun q => layB_ne ep (Option.some.inj q)
  · rw [if_neg w0]
    by_cases w1 : a.what = 1
    · have hw := ha.span.2.1 w1
      unfold withinB at hw
      rw [decide_eq_true_eq] at hw
      rw [if_pos w1]
      unfold rclear
      cases ho : o.h with
      | none => simp only; rw [ho]; simp
      | some d =>
        intro q
        have := clearB_len d (off := a.off) (n := a.n) hw.1
        rw [Option.some.inj q] at this
        exact hz.1 (by rw [ho, List.eq_nil_of_length_eq_zero (l := d) (by simpa using this.symm)])
    · rw [if_neg w1]
      by_cases w2 : a.what = 2
      · have hw := ha.span.2.2.1 w2
        unfold withinB at hw
        rw [decide_eq_true_eq] at hw
        rw [if_pos w2]
        unfold rcut
        cases ho : o.h with
        | none => simp only; rw [ho]; simp
        | some d =>
          have hd : d ≠ [] := fun q => hz.1 (by rw [ho, q])
          have hl : 0 < d.length := List.length_pos_iff.2 hd
          simp only
          split
          · rw [ho]; exact fun q => hd (Option.some.inj q)
          · intro q
            change (if a.n = 0 then none else some (d.take a.n.toNat)) = some [] at q
            split at q
            · cases q
            · have := congrArg List.length (Option.some.inj q)
              rw [List.length_take, List.length_nil] at this
              omega
      · rw [if_neg w2]
        by_cases w3 : a.what = 3
        · rw [if_pos w3]
          intro q
          change (if a.p = [] then none else some a.p) = some [] at q
          split at q
          · cases q
          · rename_i hne
            exact hne (Option.some.inj q)
        · rw [if_neg w3]
          by_cases w4 : a.what = 4
          · rw [if_pos w4]
            exact at_nz hz a.snap
          · rw [if_neg w4]
            exact hz.1
theorem mid_ok {S : Str} {R : List RO} {a : A17} (h : Live U17 S) (hm : Mid S R a) (ha : Fine U17 0 a) (h5 : a.what ≠ 5) (hn : 0 ≤ a.num ∧ a.num ≤ 3) (e : (oursS S 0 a).1 = 0) : Live U17 (oursS S 0 a).2 ∧ Sim (oursS S 0 a).2 (theirR R a) := by
  obtain ⟨h1, h2⟩ := ok_done h (.inr ha) e
  obtain ⟨j, o, ds, hj, ho, _, d2, d3⟩ := mid_plan h hm ha h5 hn
  rw [d3] at h2
  obtain ⟨S', hS'⟩ : ∃ S', (oursS S 0 a).2 = S' := ⟨_, rfl⟩
  rw [hS'] at h1 h2 ⊢
  have hk0 : cview S' 0 a.num 0 = ds.foldl stepD (cview S 0 a.num 0) := by
    show viewOf S' (dK 0 a.num 0) = _
    rw [h2, viewExec_fold]
    rfl
  have hsame : ∀ k, k ≠ dK 0 a.num 0 → get k S'.seen = get k S.seen := fun k hk => by
    have := congrFun h2 k
    rw [viewExec_at (fun s hs => by obtain ⟨d, _, e⟩ := List.mem_map.1 hs; exact ⟨d, e.symm⟩) k hk] at this
    exact this
  have hlen : R.length = 4 := hm.len
  refine ⟨h1, their_len.trans hlen, fun i oi hi => ?_⟩
  unfold theirR at hi
  rw [if_neg h5, if_neg (by omega), hj, Int.toNat_natCast, ho] at hi
  simp only at hi
  rw [List.getElem?_set] at hi
  split at hi
  · rename_i e1
    subst e1
    have hjl := (List.getElem?_eq_some_iff.1 ho).1
    first
      | rw [if_pos hjl] at hi
      | skip
    injection hi with hi
    subst hi
    obtain ⟨m1, m2, m3, m4⟩ := hm.mine j o ho hj.symm
    rw [← hj] at m1 ⊢
    have m1' : CopV (cview S' 0) a.num (actO o a).cs := by
      rw [m2]
      exact m1.congr fun n hn0 => hsame _ fun e => hn0 (dK_inj.1 e).2
    exact m1'.obj (by rw [hk0]; exact d2) (act_nz ha m4)
  · rename_i e1
    exact (hm.other i oi hi (by omega)).congr fun n => hsame _ fun e => by
      have := (dK_inj.1 e).1
      omega
/-- Copies that a Tidy that fell leaves. -/
structure BetwC (cs cs' : List (Int × Option (List Int))) (m : List Int) : Prop where
  sub : cs'.Sublist cs
  seen : ∀ c ∈ cs, seenB m (prevL (cs.map (·.1)) c.1) c.1 = true → c ∈ cs'
theorem sub_eq {α : Type} (f : α → Int) : ∀ {l a b : List α}, Inc (l.map f) → a.Sublist l → b.Sublist l → (∀ x, x ∈ a ↔ x ∈ b) → a = b := by
  intro l a b hl ha hb hab
  have ia : Inc (a.map f) := List.Pairwise.sublist (ha.map f) hl
  have ib : Inc (b.map f) := List.Pairwise.sublist (hb.map f) hl
  have key : ∀ {a b : List α}, Inc (a.map f) → Inc (b.map f) → (∀ x, x ∈ a ↔ x ∈ b) → a = b := by
    intro a
    induction a with
    | nil =>
      intro b _ _ h
      cases b with
      | nil => rfl
      | cons y b => exact absurd ((h y).2 (List.mem_cons_self ..)) (by simp)
    | cons x a ih =>
      intro b h1 h2 h
      cases b with
      | nil => exact absurd ((h x).1 (List.mem_cons_self ..)) (by simp)
      | cons y b =>
        have q1 := List.pairwise_cons.1 (show List.Pairwise (· < ·) (f x :: a.map f) from h1)
        have q2 := List.pairwise_cons.1 (show List.Pairwise (· < ·) (f y :: b.map f) from h2)
        have hxy : x = y := by
          rcases List.mem_cons.1 ((h x).1 (List.mem_cons_self ..)) with e | e
          · exact e
          · rcases List.mem_cons.1 ((h y).2 (List.mem_cons_self ..)) with e2 | e2
            · exact e2.symm
            · have r1 := q2.1 (f x) (List.mem_map_of_mem e)
              have r2 := q1.1 (f y) (List.mem_map_of_mem e2)
              omega
        subst hxy
        congr 1
        refine ih q1.2 q2.2 fun z => ?_
        constructor
        · intro hz
          rcases List.mem_cons.1 ((h z).1 (List.mem_cons_of_mem _ hz)) with e | e
          · subst e
            have := q1.1 (f z) (List.mem_map_of_mem hz)
            omega
          · exact e
        · intro hz
          rcases List.mem_cons.1 ((h z).2 (List.mem_cons_of_mem _ hz)) with e | e
          · subst e
            have := q2.1 (f z) (List.mem_map_of_mem hz)
            omega
          · exact e
  exact key ia ib hab
theorem betw_tidy {cs cs' : List (Int × Option (List Int))} {m : List Int} (hi : Inc (cs.map (·.1))) (hp : ∀ c ∈ cs, 0 < c.1) (h : BetwC cs cs' m) : tidyR m cs' 0 = tidyR m cs 0 := by
  have hi' : Inc (cs'.map (·.1)) := List.Pairwise.sublist (h.sub.map _) hi
  rw [tidyR_eq m cs' 0 hi', tidyR_eq m cs 0 hi]
  refine sub_eq (·.1) hi (List.filter_sublist.trans h.sub) List.filter_sublist fun c => ?_
  have hsub : ∀ n ∈ cs'.map (·.1), n ∈ cs.map (·.1) := fun n hn => (h.sub.map (·.1)).subset hn
  have hpos : ∀ n ∈ cs.map (·.1), 0 ≤ n := fun n hn => by
    obtain ⟨c, hc, rfl⟩ := List.mem_map.1 hn
    have := hp c hc
    omega
  have hmono := prev_mono hi hsub hpos c.1
  have hmono' := prev_mono hi' (L' := []) (by simp) (fun n hn => hpos n (hsub n hn)) c.1
  rw [List.mem_filter, List.mem_filter]
  show (c ∈ cs' ∧ seenB m (prevL (cs'.map (·.1)) c.1) c.1 = true) ↔ (c ∈ cs ∧ seenB m (prevL (cs.map (·.1)) c.1) c.1 = true)
  constructor
  · rintro ⟨h1, h2⟩
    have hc := h.sub.subset h1
    refine ⟨hc, ?_⟩
    unfold seenB at h2
    rw [List.any_eq_true] at h2
    obtain ⟨x, hx, hx2⟩ := h2
    simp only [Bool.and_eq_true, decide_eq_true_eq] at hx2
    have hx0 : 0 < x := by
      have : prevL [] c.1 ≤ prevL (cs'.map (·.1)) c.1 := hmono'.1
      have e0 : prevL [] c.1 = 0 := rfl
      omega
    have hcm : c.1 ∈ cs.map (·.1) := List.mem_map_of_mem hc
    cases hf : (cs.map (·.1)).find? (fun n => decide (x ≤ n)) with
    | none =>
      rw [List.find?_eq_none] at hf
      have := hf c.1 hcm
      simp at this
      omega
    | some q =>
      obtain ⟨a1, a2, a3⟩ := find_first hi hf
      have hlt := prev_lt hi hx0 hf
      have hqs : seenB m (prevL (cs.map (·.1)) q) q = true := by
        unfold seenB
        rw [List.any_eq_true]
        exact ⟨x, hx, by simp; omega⟩
      obtain ⟨d, hd, e⟩ := List.mem_map.1 a1
      subst e
      have hd' := h.seen d hd hqs
      have hq : d.1 = c.1 := by
        rcases Int.lt_trichotomy d.1 c.1 with r | r | r
        · have := hmono'.2 d.1 (List.mem_map_of_mem hd') r
          omega
        · exact r
        · have := a3 c.1 hcm r
          omega
      rw [← hq]
      exact hqs
  · rintro ⟨h1, h2⟩
    refine ⟨h.seen c h1 h2, ?_⟩
    unfold seenB at h2 ⊢
    rw [List.any_eq_true] at h2 ⊢
    obtain ⟨x, hx, hx2⟩ := h2
    refine ⟨x, hx, ?_⟩
    simp only [Bool.and_eq_true, decide_eq_true_eq] at hx2 ⊢
    have := hmono.1
    omega
theorem run_off : ∀ {l : List DStep} {S : Str}, Live U17 S → (∀ s ∈ l, stepIn U17 s) → (execS l S).1 ≠ 0 → (execS l S).1 = 7 ∧ (execS l S).2.on = false ∧ Still (execS l S).2
  | [], _, _, _, he => absurd rfl he
  | s :: l, S, h, hin, he => by
    revert he
    refine exec_cons (Q := fun r => r.1 ≠ 0 → r.1 = 7 ∧ r.2.on = false ∧ Still r.2) h.on h.inv.coh h.inv.lateN (fun S' keep torn hfe _ _ => ⟨rfl, hfe.on, Still.fell hfe⟩) h.inv fun hbn h0 he => ?_
    exact run_off (step_ok h U17_ok (hin s (List.mem_cons_self ..)) h0).1 (fun t ht => hin t (List.mem_cons_of_mem _ ht)) he
/-- What a Tidy that fell leaves of each object. -/
structure Betw (R R' : List RO) (m : List Int) : Prop where
  len : R'.length = R.length
  each : ∀ (i : Nat) (o o' : RO), R[i]? = some o → R'[i]? = some o' → o'.h = o.h ∧ BetwC o.cs o'.cs m
def leftO (V : CV) (i : Int) (o : RO) : RO := ⟨o.h, o.cs.filter fun c => wholeB (V i c.1)⟩
def leftR (V : CV) (R : List RO) : List RO := R.mapIdx fun i o => leftO V i o
theorem tidy_fall {S : Str} {R : List RO} {a : A17} (h : Live U17 S) (hst : Still S) (hs : Sim S R) (h5 : a.what = 5) (he : (oursS S 0 a).1 ≠ 0) :
    (oursS S 0 a).1 = 7 ∧ (oursS S 0 a).2.on = false ∧ Still (oursS S 0 a).2 ∧ CInv U17 (oursS S 0 a).2 ∧ ∃ R', Betw R R' a.ms ∧ Sim (oursS S 0 a).2 R' := by
  have hin := ours_in h (img := 0) (a := a) (.inl h5)
  rw [ours_plan h U17_ok (by omega) (.inl h5)] at he ⊢
  have hpl : oursP (cview S 0) (keysAt S ⟨4, 0⟩) 0 a = tidyP (cview S 0) 0 a.ms (keysAt S ⟨4, 0⟩) (-1) 0 := by
    unfold oursP
    rw [if_neg (by omega), if_neg (by omega), if_neg (by omega), if_neg (by omega), if_neg (by omega), if_pos h5]
  rw [hpl] at he hin ⊢
  have hky : ∀ k ∈ keysAt S ⟨4, 0⟩, k = dK 0 k.num k.snap ∧ -1 ≤ k.num := fun k hk => by
    obtain ⟨q1, q2⟩ := grp_key h.inv.keys hk
    obtain ⟨t, ht⟩ := Option.isSome_iff_exists.1 q2
    have := U17_rng (h.inv.getU ht)
    exact ⟨q1, by omega⟩
  have hde := tidy_deeds (cview S 0) 0 a.ms (keysAt S ⟨4, 0⟩) (-1) 0 (h.inv.keys.rise _) hky
  obtain ⟨L, hL⟩ : ∃ L, tidyP (cview S 0) 0 a.ms (keysAt S ⟨4, 0⟩) (-1) 0 = L := ⟨_, rfl⟩
  rw [hL] at he hin hde ⊢
  obtain ⟨o1, o2, o3⟩ := run_off h hin he
  obtain ⟨k1, k2, _⟩ := exec_keep (P := fun X => ∀ k, AllK X k fun t => t = get k S.seen ∨ (t = none ∧ DStep.deed k goneD ∈ L)) (R := fun X => ∀ k, AllK X k fun t => t = get k S.seen ∨ (t = none ∧ DStep.deed k goneD ∈ L))
    (fun _ q => q) (fun X X' keep torn hf _ q k => (q k).fell hf) (fun X X' hd q k => (q k).bar hd) h hin (fun k d hm X X' hd hco q k' => by
      obtain ⟨k0, _, e, _⟩ := (hde _).1 hm
      obtain ⟨rfl, rfl⟩ := DStep.deed.inj e
      by_cases e2 : k' = k
      · subst e2
        exact (q k').add hd hco (.inr ⟨rfl, hm⟩) fun e => by cases e
      · exact (q k').other hd e2) (fun k => (hst k).allK (.inl rfl))
  obtain ⟨S', hS'⟩ : ∃ S', (execS L S).2 = S' := ⟨_, rfl⟩
  rw [hS'] at o2 o3 k1 k2 ⊢
  refine ⟨o1, o2, o3, k2, leftR (cview S' 0) R, ⟨by simp [leftR], fun i o o' ho ho' => ?_⟩, by rw [leftR, List.length_mapIdx]; exact hs.len, fun i o' ho' => ?_⟩
  · have e : o' = leftO (cview S' 0) i o := by
      unfold leftR at ho'
      rw [List.getElem?_mapIdx, ho] at ho'
      exact (Option.some.inj ho').symm
    subst e
    have hO := hs.obj i o ho
    refine ⟨rfl, List.filter_sublist, fun c hc hsn => List.mem_filter.2 ⟨hc, ?_⟩⟩
    have hp := hO.pos c hc
    have hw := (hO.mem c.1 (by omega)).2 (List.mem_map_of_mem hc)
    rcases (k1 (dK 0 i c.1)).2 with q | ⟨_, q⟩
    · show wholeB (get (dK 0 i c.1) S'.seen) = true
      rw [q]
      exact hw
    · exfalso
      obtain ⟨k, hk, e, _, hnot⟩ := (hde _).1 q
      have e1 := (DStep.deed.inj e).1
      have en : k.num = i := by rw [← e1]; rfl
      have es : k.snap = c.1 := by rw [← e1]; rfl
      rw [pb_prev h.inv.keys (cview S 0) (grp_key h.inv.keys hk).1 (by omega), en, es, hO.copies h.inv.keys] at hnot
      exact hnot ⟨hw, hsn⟩
  · obtain ⟨o, ho, e⟩ : ∃ o, R[i]? = some o ∧ o' = leftO (cview S' 0) i o := by
      unfold leftR at ho'
      rw [List.getElem?_mapIdx, Option.map_eq_some_iff] at ho'
      obtain ⟨o, ho, e⟩ := ho'
      exact ⟨o, ho, e.symm⟩
    subst e
    have hO := hs.obj i o ho
    have hhd : cview S' 0 i 0 = cview S 0 i 0 := by
      rcases (k1 (dK 0 i 0)).2 with q | ⟨_, q⟩
      · exact q
      · exfalso
        obtain ⟨k, _, e, hsn, _⟩ := (hde _).1 q
        exact hsn (by rw [← (DStep.deed.inj e).1]; rfl)
    have hor : ∀ n, cview S' 0 i n = cview S 0 i n ∨ cview S' 0 i n = none := fun n => by
      rcases (k1 (dK 0 i n)).2 with q | ⟨q, _⟩
      · exact .inl q
      · exact .inr q
    refine ⟨by rw [hhd]; exact hO.head, List.Pairwise.sublist (List.Sublist.map _ List.filter_sublist) hO.inc, fun c hc => hO.pos c (List.mem_filter.1 hc).1, fun n hn => ?_, fun c hc => ?_, hO.nz.1, fun c hc => hO.nz.2 c (List.mem_filter.1 hc).1⟩
    · constructor
      · intro hw
        rcases hor n with q | q
        · have hw2 := hw
          rw [q] at hw2
          obtain ⟨c, hcm, rfl⟩ := List.mem_map.1 ((hO.mem n hn).1 hw2)
          exact List.mem_map_of_mem (List.mem_filter.2 ⟨hcm, hw⟩)
        · rw [q] at hw
          cases hw
      · intro hm
        obtain ⟨c, hcm, rfl⟩ := List.mem_map.1 hm
        exact (List.mem_filter.1 hcm).2
    · obtain ⟨q1, q2⟩ := List.mem_filter.1 hc
      rcases hor c.1 with q | q
      · rw [q]; exact hO.val c q1
      · rw [q] at q2
        cases q2
theorem BetwC.refl (cs : List (Int × Option (List Int))) (m : List Int) : BetwC cs cs m := ⟨List.Sublist.refl _, fun _ h _ => h⟩
theorem BetwC.trans {cs cs' cs'' : List (Int × Option (List Int))} {m : List Int} (hi : Inc (cs.map (·.1))) (hp : ∀ c ∈ cs, 0 < c.1) (h : BetwC cs cs' m) (h2 : BetwC cs' cs'' m) : BetwC cs cs'' m := by
  refine ⟨h2.sub.trans h.sub, fun c hc hs => h2.seen c (h.seen c hc hs) ?_⟩
  have hmono := (prev_mono hi (fun n hn => (h.sub.map (·.1)).subset hn) (fun n hn => by
    obtain ⟨c, hc, rfl⟩ := List.mem_map.1 hn
    have := hp c hc
    omega) c.1).1
  unfold seenB at hs ⊢
  rw [List.any_eq_true] at hs ⊢
  obtain ⟨x, hx, hx2⟩ := hs
  refine ⟨x, hx, ?_⟩
  simp only [Bool.and_eq_true, decide_eq_true_eq] at hx2 ⊢
  omega
/-- An act that fell, or was not begun. R is what the document has ahead of it. -/
def Half (S : Str) (R : List RO) (a : A17) : Prop := if a.what = 5 then ∃ R', Betw R R' a.ms ∧ Sim S R' else Sim S R ∨ Mid S R a
theorem half_start {S : Str} {R : List RO} {a : A17} (h : Sim S R) : Half S R a := by
  unfold Half
  split
  · exact ⟨R, ⟨rfl, fun i o o' h1 h2 => by
      rw [h1] at h2
      injection h2 with h2
      subst h2
      exact ⟨rfl, BetwC.refl _ _⟩⟩, h⟩
  · exact .inl h
/-- What the document has is of a state that was. -/
def Right0 (R : List RO) : Prop := ∀ (i : Nat) (o : RO), R[i]? = some o → Inc (o.cs.map (·.1)) ∧ ∀ c ∈ o.cs, 0 < c.1
theorem Sim.right0 {S : Str} {R : List RO} (h : Sim S R) : Right0 R := fun i o ho => ⟨(h.obj i o ho).inc, (h.obj i o ho).pos⟩
theorem half_fall {S : Str} {R : List RO} {a : A17} (h : Live U17 S) (hst : Still S) (hr : Right0 R) (hh : Half S R a) (ha : a.what = 5 ∨ Fine U17 0 a) (hn : 0 ≤ a.num ∧ a.num ≤ 3) (he : (oursS S 0 a).1 ≠ 0) :
    (oursS S 0 a).1 = 7 ∧ (oursS S 0 a).2.on = false ∧ Still (oursS S 0 a).2 ∧ CInv U17 (oursS S 0 a).2 ∧ Half (oursS S 0 a).2 R a := by
  unfold Half at hh ⊢
  by_cases h5 : a.what = 5
  · rw [if_pos h5] at hh ⊢
    obtain ⟨R1, b1, s1⟩ := hh
    obtain ⟨q1, q2, q3, q4, R2, b2, s2⟩ := tidy_fall h hst s1 h5 he
    refine ⟨q1, q2, q3, q4, R2, ⟨b2.len.trans b1.len, fun i o o2 ho ho2 => ?_⟩, s2⟩
    have hil := (List.getElem?_eq_some_iff.1 ho).1
    obtain ⟨o1, ho1⟩ : ∃ o1, R1[i]? = some o1 := ⟨_, List.getElem?_eq_getElem (by rw [b1.len]; exact hil)⟩
    obtain ⟨e1, c1⟩ := b1.each i o o1 ho ho1
    obtain ⟨e2, c2⟩ := b2.each i o1 o2 ho1 ho2
    exact ⟨e2.trans e1, BetwC.trans (hr i o ho).1 (hr i o ho).2 c1 c2⟩
  · have hf := ha.resolve_left h5
    rw [if_neg h5] at hh ⊢
    rcases hh with hs | hm
    · exact sim_fall h hst hs hf h5 hn he
    · obtain ⟨q1, q2, q3, q4, q5⟩ := mid_fall h hst hm hf h5 hn he
      exact ⟨q1, q2, q3, q4, .inr q5⟩
theorem half_ok {S : Str} {R : List RO} {a : A17} (h : Live U17 S) (hr : Right0 R) (hh : Half S R a) (ha : a.what = 5 ∨ Fine U17 0 a) (hn : 0 ≤ a.num ∧ a.num ≤ 3) (e : (oursS S 0 a).1 = 0) : Live U17 (oursS S 0 a).2 ∧ Sim (oursS S 0 a).2 (theirR R a) := by
  unfold Half at hh
  by_cases h5 : a.what = 5
  · rw [if_pos h5] at hh
    obtain ⟨R1, b1, s1⟩ := hh
    obtain ⟨q1, q2⟩ := sim_ok h s1 ha e
    refine ⟨q1, ?_⟩
    have eq : theirR R1 a = theirR R a := by
      unfold theirR
      rw [if_pos h5, if_pos h5]
      apply List.ext_getElem?
      intro i
      rw [List.getElem?_map, List.getElem?_map]
      by_cases hil : i < R.length
      · obtain ⟨o, ho⟩ : ∃ o, R[i]? = some o := ⟨_, List.getElem?_eq_getElem hil⟩
        obtain ⟨o1, ho1⟩ : ∃ o1, R1[i]? = some o1 := ⟨_, List.getElem?_eq_getElem (by rw [b1.len]; exact hil)⟩
        obtain ⟨e1, c1⟩ := b1.each i o o1 ho ho1
        rw [ho, ho1]
        show some (⟨o1.h, _⟩ : RO) = some ⟨o.h, _⟩
        rw [e1, betw_tidy (hr i o ho).1 (hr i o ho).2 c1]
      · have hl := b1.len
        rw [List.getElem?_eq_none (l := R) (by omega), List.getElem?_eq_none (l := R1) (by omega)]
    rw [← eq]
    exact q2
  · have hf := ha.resolve_left h5
    rw [if_neg h5] at hh
    rcases hh with hs | hm
    · exact sim_ok h hs ha e
    · exact mid_ok h hm hf h5 hn e
theorem rat_cover {o : RO} {newest snap : Int} (h0 : 0 < snap) (h1 : snap ≤ newest) (x : Option (List Int)) : ratR ⟨x, (rchange o newest o.h).cs⟩ snap = ratR o snap := by
  rw [← rat_change (o := o) (newest := newest) snap]
  unfold ratR
  rw [if_pos h0, if_pos h0]
  simp only
  cases hf : (rchange o newest o.h).cs.find? fun c => decide (snap ≤ c.1) with
  | some c => rfl
  | none =>
    exfalso
    rw [List.find?_eq_none] at hf
    unfold rchange at hf
    simp only at hf
    cases hn : needR o.cs newest with
    | true =>
      rw [hn, if_pos rfl] at hf
      have := hf (newest, o.h) (by simp)
      simp at this
      omega
    | false =>
      rw [hn, if_neg (by simp)] at hf
      unfold needR at hn
      rw [decide_eq_true (by omega : 0 < newest), Bool.true_and] at hn
      cases hl : o.cs.getLast? with
      | none => rw [hl] at hn; cases hn
      | some c =>
        rw [hl] at hn
        simp only [decide_eq_false_iff_not] at hn
        have := hf c (List.mem_of_getLast? hl)
        simp at this
        omega
theorem betw_at {o o' : RO} {m : List Int} (hi : Inc (o.cs.map (·.1))) (hh : o'.h = o.h) (h : BetwC o.cs o'.cs m) {snap : Int} (hs : snap = 0 ∨ (0 < snap ∧ snap ∈ m)) : ratR o' snap = ratR o snap := by
  unfold ratR
  rcases hs with rfl | ⟨h0, hm⟩
  · rw [if_neg (by omega), if_neg (by omega)]
    exact hh
  · rw [if_pos h0, if_pos h0]
    have hi' : Inc (o'.cs.map (·.1)) := List.Pairwise.sublist (h.sub.map _) hi
    cases hf : o.cs.find? fun c => decide (snap ≤ c.1) with
    | none =>
      rw [List.find?_eq_none] at hf
      rw [List.find?_eq_none.2 fun c hc => hf c (h.sub.subset hc)]
      exact hh
    | some c =>
      have hcm := List.mem_of_find?_eq_some hf
      have hle : snap ≤ c.1 := by have := List.find?_some hf; simpa using this
      have hfm : (o.cs.map (·.1)).find? (fun n => decide (snap ≤ n)) = some c.1 := by rw [List.find?_map]; show (o.cs.find? fun c => decide (snap ≤ c.1)).map (·.1) = _; rw [hf]; rfl
      have hlt := prev_lt hi h0 hfm
      have hc' : c ∈ o'.cs := h.seen c hcm (by
        unfold seenB
        rw [List.any_eq_true]
        exact ⟨snap, hm, by simp; omega⟩)
      obtain ⟨_, us, vs, e, hb⟩ := List.find?_eq_some_iff_append.1 hf
      have hf' : o'.cs.find? (fun c => decide (snap ≤ c.1)) = some c := by
        obtain ⟨us', vs', e'⟩ := List.append_of_mem hc'
        refine List.find?_eq_some_iff_append.2 ⟨by simpa using hle, us', vs', e', fun d hd => ?_⟩
        have hdm : d ∈ o.cs := h.sub.subset (by rw [e']; exact List.mem_append_left _ hd)
        have hlt' : d.1 < c.1 := by
          rw [e', List.map_append, List.map_cons] at hi'
          exact (List.pairwise_append.1 hi').2.2 d.1 (List.mem_map_of_mem hd) c.1 (by simp)
        obtain ⟨_, _, a3⟩ := find_first hi hfm
        have := a3 d.1 (List.mem_map_of_mem hdm) hlt'
        simp; omega
      rw [hf']
/-- What is there still where an act fell. -/
theorem half_kept {S : Str} {R : List RO} {a : A17} (h : Live U17 S) (hr : Right0 R) (hh : Half S R a) {i : Nat} {o : RO} (ho : R[i]? = some o) {snap : Int} (hs : 0 ≤ snap)
    (hm : if a.what = 5 then (snap = 0 ∨ snap ∈ a.ms) else ¬ ((i : Int) = a.num ∧ (snap = 0 ∨ a.newest < snap))) : valO (cview S 0) (keysAt S ⟨4, 0⟩) i snap = ratR o snap := by
  unfold Half at hh
  by_cases h5 : a.what = 5
  · rw [if_pos h5] at hh hm
    obtain ⟨R1, b1, s1⟩ := hh
    obtain ⟨o1, ho1⟩ : ∃ o1, R1[i]? = some o1 := ⟨_, List.getElem?_eq_getElem (by rw [b1.len]; exact (List.getElem?_eq_some_iff.1 ho).1)⟩
    obtain ⟨e1, c1⟩ := b1.each i o o1 ho ho1
    rw [(s1.obj i o1 ho1).at h.inv.keys]
    refine betw_at (hr i o ho).1 e1 c1 ?_
    by_cases hz : snap = 0
    · exact .inl hz
    · exact .inr ⟨by omega, hm.resolve_left hz⟩
  · rw [if_neg h5] at hh hm
    rcases hh with hsim | hmid
    · exact (hsim.obj i o ho).at h.inv.keys snap
    · by_cases he : (i : Int) = a.num
      · rw [(hmid.mine i o ho he).1.at h.inv.keys]
        have hn : ¬ (snap = 0 ∨ a.newest < snap) := fun q => hm ⟨he, q⟩
        exact rat_cover (by omega) (by omega) _
      · exact (hmid.other i o ho he).at h.inv.keys snap
theorem tell_of {U : List K4} {S : Str} (hU : UOK U) (h : Live U S) {i : Int} (hi : 0 ≤ i ∧ i ≤ 512) {snap : Int} (hs : 0 ≤ snap ∧ snap ≤ 1073741824) {v : Option (List Int)} (hv : valO (cview S 0) (keysAt S ⟨4, 0⟩) i snap = v) :
    cthereS S 0 i snap = ((v).isSome, 0) ∧ csizeS S 0 i snap = ((((v).getD []).length : Int), 0) ∧ ∀ off n, withinB off n = true → creadS S 0 i snap off n = (padB ((v).getD []) off.toNat n.toNat, 0) := by
  have hob : objB 0 i = true := by
    unfold objB
    rw [decide_eq_true_eq]
    omega
  have hsn : snapB snap = true := by
    unfold snapB
    rw [decide_eq_true_eq]
    omega
  have hh : (dK 0 i 0).ok = true := by
    unfold dK K4.ok
    simp only [decide_eq_true_eq]
    omega
  obtain ⟨a1, a2⟩ := at_view h hU (snap := snap) hh
  rw [hv] at a1 a2
  refine ⟨?_, ?_, fun off n hw => ?_⟩
  · unfold cthereS
    rw [hob, hsn, Bool.and_true, cmay_true h.on, if_neg (by simp), a1]
  · unfold csizeS
    rw [hob, hsn, Bool.and_true, cmay_true h.on, if_neg (by simp), a1]
    cases hr : v with
    | none => rfl
    | some d =>
      rw [hr] at a1 a2
      rw [if_pos (show (some d).isSome = true from rfl), (a2 a1).2]
  · rw [read_view h hU (by rw [hob, hsn, hw]; rfl), hv]
theorem calm_ok {S : Str} (h : Live U17 S) (hc : S.armed = false) {a : A17} (ha : a.what = 5 ∨ Fine U17 0 a) : (oursS S 0 a).1 = 0 := (calm_done U17_ok h hc ha).1
theorem half_of {S S' : Str} {R : List RO} {a : A17} (h : Half S R a) (e : S'.seen = S.seen) : Half S' R a := by
  have hcv : cview S' 0 = cview S 0 := by unfold cview; rw [e]
  have hsim : ∀ R', Sim S R' → Sim S' R' := fun R' q => ⟨q.len, fun i o ho => by rw [hcv]; exact q.obj i o ho⟩
  unfold Half at h ⊢
  split
  · rename_i h5
    rw [if_pos h5] at h
    obtain ⟨R', b, s⟩ := h
    exact ⟨R', b, hsim _ s⟩
  · rename_i h5
    rw [if_neg h5] at h
    rcases h with q | q
    · exact .inl (hsim _ q)
    · exact .inr ⟨q.len, fun i o ho hne => by rw [hcv]; exact q.other i o ho hne, fun i o ho he => by rw [hcv]; exact q.mine i o ho he⟩
end Go.Proofs.YtbepmbcbcklmlaaGreat
