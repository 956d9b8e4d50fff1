/- The document's object with its copies, and cow's: each change comes to the same. No program in sight. -/
import Derived.Test.YtbepmbcbcklmlaaGreatCowStays
set_option linter.unusedSimpArgs false
set_option linter.unusedVariables false
set_option linter.unusedSectionVars false
namespace Go.Proofs.YtbepmbcbcklmlaaGreat
open Go.RowKit
/-- An object: its body, none or its bytes; its copies, rising. -/
structure RO where
  h : Option (List Int)
  cs : List (Int × Option (List Int))
def ratR (o : RO) (snap : Int) : Option (List Int) :=
  if 0 < snap then (match o.cs.find? fun c => decide (snap ≤ c.1) with | some c => c.2 | none => o.h) else o.h
def needR (cs : List (Int × Option (List Int))) (newest : Int) : Bool := decide (0 < newest) && (match cs.getLast? with | none => true | some c => decide (c.1 < newest))
def rchange (o : RO) (newest : Int) (b : Option (List Int)) : RO := ⟨b, if needR o.cs newest = true then o.cs ++ [(newest, o.h)] else o.cs⟩
def rwrite (o : RO) (newest off : Int) (p : List Int) : RO := if p = [] then o else rchange o newest (some (layB (o.h.getD []) off.toNat p))
def clearB (d : List Int) (off n : Int) : List Int := if min n (d.length - off) < 1 then d else layB d off.toNat (List.replicate (min n (d.length - off)).toNat 0)
def rclear (o : RO) (newest off n : Int) : RO := match o.h with
  | none => o
  | some d => rchange o newest (some (clearB d off n))
def rcut (o : RO) (newest size : Int) : RO := match o.h with
  | none => o
  | some d => if 0 < size ∧ (d.length : Int) ≤ size then o else rchange o newest (if size = 0 then none else some (d.take size.toNat))
def rlay (o : RO) (newest : Int) (p : List Int) : RO := rchange o newest (if p = [] then none else some p)
def rback (o : RO) (newest snap : Int) : RO := rchange o newest (ratR o snap)
def tidyR (m : List Int) : List (Int × Option (List Int)) → Int → List (Int × Option (List Int))
  | [], _ => []
  | c :: cs, below => if seenB m below c.1 = true then c :: tidyR m cs c.1 else tidyR m cs c.1
def actO (o : RO) (a : A17) : RO :=
  if a.what = 0 then rwrite o a.newest a.off a.p
  else if a.what = 1 then rclear o a.newest a.off a.n
  else if a.what = 2 then rcut o a.newest a.n
  else if a.what = 3 then rlay o a.newest a.p
  else if a.what = 4 then rback o a.newest a.snap
  else o
def theirR (R : List RO) (a : A17) : List RO :=
  if a.what = 5 then R.map fun o => ⟨o.h, tidyR a.ms o.cs 0⟩
  else if a.num < 0 ∨ (R.length : Int) ≤ a.num then R
  else match R[a.num.toNat]? with
    | some o => R.set a.num.toNat (actO o a)
    | none => R
/-- What is seen of an object is that. -/
structure ObjV (V : CV) (i : Int) (o : RO) : Prop where
  head : (V i 0).map (·.b) = o.h
  inc : Inc (o.cs.map (·.1))
  pos : ∀ c ∈ o.cs, 0 < c.1
  mem : ∀ n, n ≠ 0 → (wholeB (V i n) = true ↔ n ∈ o.cs.map (·.1))
  val : ∀ c ∈ o.cs, bodyV (V i c.1) = c.2
  nz : o.h ≠ some [] ∧ ∀ c ∈ o.cs, c.2 ≠ some []
theorem ObjV.congr {V V' : CV} {i : Int} {o : RO} (h : ObjV V i o) (e : ∀ n, V' i n = V i n) : ObjV V' i o :=
  ⟨by rw [e]; exact h.head, h.inc, h.pos, fun n hn => by rw [e]; exact h.mem n hn, fun c hc => by rw [e]; exact h.val c hc, h.nz⟩
theorem ObjV.copies {S : Str} (hk : KeysOK S) {i : Int} {o : RO} (h : ObjV (cview S 0) i o) : copiesV (cview S 0) (keysAt S ⟨4, 0⟩) i = o.cs.map (·.1) := by
  refine inc_eq (copies_inc hk _ _ _) h.inc fun x => ?_
  rw [copies_mem hk]
  constructor
  · rintro ⟨h1, h2⟩
    exact (h.mem x h1).1 h2
  · intro hx
    obtain ⟨c, hc, rfl⟩ := List.mem_map.1 hx
    have := h.pos c hc
    exact ⟨by omega, (h.mem _ (by omega)).2 hx⟩
theorem ObjV.at {S : Str} (hk : KeysOK S) {i : Int} {o : RO} (h : ObjV (cview S 0) i o) (snap : Int) : valO (cview S 0) (keysAt S ⟨4, 0⟩) i snap = ratR o snap := by
  unfold valO ratR
  rw [h.copies hk, List.find?_map]
  by_cases hs : 0 < snap
  · rw [if_pos hs, if_pos hs]
    show (match (o.cs.find? fun c => decide (snap ≤ c.1)).map (·.1) with | some n => bodyV (cview S 0 i n) | none => _) = _
    cases hf : o.cs.find? fun c => decide (snap ≤ c.1) with
    | none => exact h.head
    | some c => exact h.val c (List.mem_of_find?_eq_some hf)
  · rw [if_neg hs, if_neg hs]
    exact h.head
theorem need_covered {o : RO} {newest : Int} (h0 : 0 ≤ newest) : (newest = 0 ∨ coveredV (o.cs.map (·.1)) newest = true) ↔ needR o.cs newest = false := by
  unfold coveredV needR
  rw [List.getLast?_map]
  cases o.cs.getLast? with
  | none => simp; omega
  | some c => simp; omega
theorem need_new {o : RO} (hi : Inc (o.cs.map (·.1))) {newest : Int} (h : needR o.cs newest = true) : 0 < newest ∧ ∀ c ∈ o.cs, c.1 < newest := by
  unfold needR at h
  rw [Bool.and_eq_true, decide_eq_true_eq] at h
  refine ⟨h.1, fun c hc => ?_⟩
  have h2 := h.2
  cases hl : o.cs.getLast? with
  | none => rw [List.getLast?_eq_none_iff] at hl; rw [hl] at hc; cases hc
  | some x =>
    rw [hl] at h2
    simp only [decide_eq_true_eq] at h2
    obtain ⟨l', hl'⟩ := List.getLast?_eq_some_iff.1 hl
    rw [hl'] at hc hi
    rcases List.mem_append.1 hc with q | q
    · rw [List.map_append] at hi
      have := (List.pairwise_append.1 hi).2.2 c.1 (List.mem_map_of_mem q) x.1 (by simp)
      omega
    · simp at q; subst q; exact h2
/-- A change: a copy ahead of it, if one must be. -/
theorem ObjV.change {V V' : CV} {i newest : Int} {o : RO} (h : ObjV V i o) {b : Option (List Int)} (hb : (V' i 0).map (·.b) = b) (hz : b ≠ some [])
    (hv : ∀ n, n ≠ 0 → V' i n = if needR o.cs newest = true ∧ n = newest then some (copyT (V i 0)) else V i n) : ObjV V' i (rchange o newest b) := by
  unfold rchange
  cases hn : needR o.cs newest with
  | false =>
    rw [if_neg (by simp)]
    have e : ∀ n, n ≠ 0 → V' i n = V i n := fun n h0 => by rw [hv n h0, if_neg (by simp [hn])]
    exact ⟨hb, h.inc, h.pos, fun n h0 => by rw [e n h0]; exact h.mem n h0, fun c hc => by rw [e _ (by have := h.pos c hc; omega)]; exact h.val c hc, hz, h.nz.2⟩
  | true =>
    rw [if_pos rfl]
    obtain ⟨h1, h2⟩ := need_new h.inc hn
    have e1 : V' i newest = some (copyT (V i 0)) := by rw [hv _ (by omega), if_pos ⟨hn, rfl⟩]
    have e2 : ∀ n, n ≠ 0 → n ≠ newest → V' i n = V i n := fun n h0 hne => by rw [hv n h0, if_neg (fun q => hne q.2)]
    refine ⟨hb, ?_, fun c hc => ?_, fun n h0 => ?_, fun c hc => ?_, hz, fun c hc => ?_⟩
    · rw [List.map_append]
      refine List.pairwise_append.2 ⟨h.inc, List.pairwise_singleton _ _, fun x hx y hy => ?_⟩
      obtain ⟨c, hc, rfl⟩ := List.mem_map.1 hx
      simp at hy; subst hy
      exact h2 c hc
    · rcases List.mem_append.1 hc with q | q
      · exact h.pos c q
      · simp at q; subst q; exact h1
    · rw [List.map_append, List.mem_append]
      by_cases hne : n = newest
      · subst hne
        rw [e1, copy_whole]
        simp
      · rw [e2 n h0 hne, h.mem n h0]
        simp [hne]
    · rcases List.mem_append.1 hc with q | q
      · rw [e2 _ (by have := h.pos c q; omega) (by have := h2 c q; omega)]
        exact h.val c q
      · simp at q; subst q
        rw [e1, copy_body]
        exact h.head
    · rcases List.mem_append.1 hc with q | q
      · exact h.nz.2 c q
      · simp at q; subst q
        exact h.nz.1
theorem viewExec_at {k0 : K4} : ∀ {l : List DStep} {V : K4 → Option TS}, (∀ s ∈ l, ∃ d, s = .deed k0 d) → ∀ k, k ≠ k0 → viewExec l V k = V k
  | [], _, _, _, _ => rfl
  | s :: l, V, h, k, hk => by
    obtain ⟨d, rfl⟩ := h _ (List.mem_cons_self ..)
    show viewExec l (viewStep (.deed k0 d) V) k = V k
    rw [viewExec_at (fun t ht => h t (List.mem_cons_of_mem _ ht)) k hk]
    show (if k = k0 then _ else V k) = V k
    rw [if_neg hk]
/-- The view behind what is done ahead of a change, and behind the change of the head. -/
theorem ahead_view {S : Str} (hk : KeysOK S) {num newest : Int} {o : RO} (h : ObjV (cview S 0) num o) (h0 : 0 ≤ newest) {l2 : List DStep} (hl : ∀ s ∈ l2, ∃ d, s = .deed (dK 0 num 0) d) :
    (∀ k, k ≠ dK 0 num 0 → viewExec (aheadP (cview S 0) (keysAt S ⟨4, 0⟩) 0 num newest ++ l2) (viewOf S) k = if needR o.cs newest = true ∧ k = dK 0 num newest then some (copyT (cview S 0 num 0)) else viewOf S k) ∧
    viewExec (aheadP (cview S 0) (keysAt S ⟨4, 0⟩) 0 num newest ++ l2) (viewOf S) (dK 0 num 0) = viewExec l2 (fun k => if k = dK 0 num 0 then cview S 0 num 0 else viewExec (aheadP (cview S 0) (keysAt S ⟨4, 0⟩) 0 num newest) (viewOf S) k) (dK 0 num 0) := by
  have hah : ∀ k, viewExec (aheadP (cview S 0) (keysAt S ⟨4, 0⟩) 0 num newest) (viewOf S) k = if needR o.cs newest = true ∧ k = dK 0 num newest then some (copyT (cview S 0 num 0)) else viewOf S k := fun k => by
    unfold aheadP
    rw [h.copies hk]
    cases hn : needR o.cs newest with
    | false =>
      rw [if_pos ((need_covered h0).2 hn), if_neg (by simp)]
      rfl
    | true =>
      have hne := (need_new h.inc hn).1
      rw [if_neg (fun q => by rw [(need_covered h0).1 q] at hn; cases hn), save_view (viewOf S) (cview S 0) 0 num newest (fun _ _ => rfl) (by omega)]
      by_cases e : k = dK 0 num newest
      · rw [if_pos ⟨rfl, e⟩]; exact if_pos e
      · rw [if_neg (fun q => e q.2)]; exact if_neg e
  refine ⟨fun k hk0 => ?_, ?_⟩
  · rw [viewExec_append, viewExec_at hl k hk0]
    exact hah k
  · rw [viewExec_append]
    congr 1
    funext k
    by_cases e : k = dK 0 num 0
    · rw [if_pos e, e, hah, if_neg]
      · rfl
      · rintro ⟨q1, q2⟩
        have := (need_new h.inc q1).1
        have := (dK_inj.1 q2).2
        omega
    · rw [if_neg e]
theorem layB_full {b p : List Int} (h : b.length ≤ p.length) : layB b 0 p = p := by
  unfold layB
  by_cases e : p = []
  · subst e
    rw [if_pos rfl]
    exact List.eq_nil_of_length_eq_zero (by simpa using h)
  · rw [if_neg e, List.drop_of_length_le (by omega)]
    simp
theorem layB_ne {b p : List Int} {off : Nat} (h : p ≠ []) : layB b off p ≠ [] := by
  unfold layB
  rw [if_neg h]
  simp [h]
theorem layB_len {b p : List Int} {off : Nat} (h : off + p.length ≤ b.length) : (layB b off p).length = b.length := by
  unfold layB
  split
  · rfl
  · rw [List.length_append, List.length_append, List.length_take, List.length_append, List.length_replicate, List.length_drop]
    omega
theorem clearB_len (d : List Int) {off n : Int} (h0 : 0 ≤ off) : (clearB d off n).length = d.length := by
  unfold clearB
  split
  · rfl
  · exact layB_len (by rw [List.length_replicate]; omega)
theorem lay_head {k : K4} {o : Option TS} {W : K4 → Option TS} (hW : W k = o) {off : Int} {p : List Int} : (viewExec (layP k o off p) W k).map (·.b) = some (layB ((o.map (·.b)).getD []) off.toNat p) := by
  unfold layP
  cases o with
  | none =>
    show ((if k = k then stepD (if k = k then stepD (W k) madeD else W k) (wroteD off p) else _) : Option TS).map (·.b) = _
    rw [if_pos rfl, if_pos rfl]
    rfl
  | some t =>
    show ((if k = k then stepD (W k) (wroteD off p) else _) : Option TS).map (·.b) = _
    rw [if_pos rfl, hW]
    rfl
theorem turn_heads {k : K4} {o : Option TS} {W : K4 → Option TS} (hW : W k = o) {p : List Int} : (viewExec (turnP k o p) W k).map (·.b) = if p = [] then none else some p := by
  unfold turnP
  by_cases e : p = []
  · rw [if_pos e, if_pos e]
    cases o with
    | none =>
      show (W k).map (·.b) = none
      rw [hW]; rfl
    | some t =>
      show ((if k = k then stepD (W k) goneD else _) : Option TS).map (·.b) = _
      rw [if_pos rfl]
      rfl
  · rw [if_neg e, if_neg e]
    cases o with
    | none =>
      show ((if k = k then stepD (if k = k then stepD (W k) madeD else W k) (wroteD 0 p) else _) : Option TS).map (·.b) = _
      rw [if_pos rfl, if_pos rfl]
      show some (layB [] 0 p) = some p
      rw [layB_full (by simp)]
    | some t =>
      simp only
      split
      · rename_i hlt
        show ((if k = k then stepD (if k = k then stepD (W k) (cutD t p.length) else W k) (wroteD 0 p) else _) : Option TS).map (·.b) = _
        rw [if_pos rfl, if_pos rfl, hW]
        show some (layB (t.b.take _) 0 p) = some p
        rw [layB_full]
        rw [List.length_take]
        show min (min (max 0 (min (p.length : Int) t.b.length)).toNat t.b.length) t.b.length ≤ p.length
        omega
      · rename_i hlt
        show ((if k = k then stepD (W k) (wroteD 0 p) else _) : Option TS).map (·.b) = _
        rw [if_pos rfl, hW]
        show some (layB t.b 0 p) = some p
        rw [layB_full (by omega)]
theorem calm_done {U : List K4} {S : Str} (hU : UOK U) (h : Live U S) (hc : S.armed = false) {a : A17} (ha : a.what = 5 ∨ Fine U 0 a) :
    (oursS S 0 a).1 = 0 ∧ Live U (oursS S 0 a).2 ∧ (oursS S 0 a).2.armed = false ∧ viewOf (oursS S 0 a).2 = viewExec (oursP (cview S 0) (keysAt S ⟨4, 0⟩) 0 a) (viewOf S) := by
  have hin := ours_in h ha
  rw [ours_plan h hU (by omega) ha]
  obtain ⟨h1, h2⟩ := exec_calm hU h hc hin
  obtain ⟨h3, h4⟩ := exec_ok hU h hin h1
  exact ⟨h1, h3, h2, h4⟩
/-- A change of one object, whatever its plan is: it, and the others. -/
theorem sim_case {S S' : Str} (hk : KeysOK S) {num newest : Int} {o : RO} (h : ObjV (cview S 0) num o) (h0 : 0 ≤ newest) {l2 : List DStep} (hl : ∀ s ∈ l2, ∃ d, s = .deed (dK 0 num 0) d)
    (hv : viewOf S' = viewExec (aheadP (cview S 0) (keysAt S ⟨4, 0⟩) 0 num newest ++ l2) (viewOf S)) {b : Option (List Int)} (hz : b ≠ some [])
    (hb : ∀ W : K4 → Option TS, W (dK 0 num 0) = cview S 0 num 0 → (viewExec l2 W (dK 0 num 0)).map (·.b) = b) :
    ObjV (cview S' 0) num (rchange o newest b) ∧ ∀ i n, i ≠ num → cview S' 0 i n = cview S 0 i n := by
  obtain ⟨h1, h2⟩ := ahead_view hk h h0 hl
  have e : ∀ i n, cview S' 0 i n = viewExec (aheadP (cview S 0) (keysAt S ⟨4, 0⟩) 0 num newest ++ l2) (viewOf S) (dK 0 i n) := fun i n => congrFun hv _
  refine ⟨h.change ?_ hz fun n hn => ?_, fun i n hi => ?_⟩
  · rw [e, h2]
    exact hb _ (if_pos rfl)
  · rw [e, h1 _ (fun q => hn (dK_inj.1 q).2)]
    by_cases q : needR o.cs newest = true ∧ n = newest
    · rw [if_pos q, if_pos ⟨q.1, by rw [q.2]⟩]
    · rw [if_neg q, if_neg (fun r => q ⟨r.1, (dK_inj.1 r.2).2⟩)]
      rfl
  · rw [e, h1 _ (fun q => hi (dK_inj.1 q).1), if_neg (fun r => hi (dK_inj.1 r.2).1)]
    rfl
theorem at_nz {o : RO} (hz : o.h ≠ some [] ∧ ∀ c ∈ o.cs, c.2 ≠ some []) (snap : Int) : ratR o snap ≠ some [] := by
  unfold ratR
  split
  · split
    · rename_i c hc
      exact hz.2 c (List.mem_of_find?_eq_some hc)
    · exact hz.1
  · exact hz.1
theorem sim_obj {U : List K4} {S : Str} (hU : UOK U) (h : Live U S) (hc : S.armed = false) {a : A17} {o : RO} (hO : ObjV (cview S 0) a.num o) (ha : Fine U 0 a) (h5 : a.what ≠ 5) :
    ObjV (cview (oursS S 0 a).2 0) a.num (actO o a) ∧ ∀ i n, i ≠ a.num → cview (oursS S 0 a).2 0 i n = cview S 0 i n := by
  obtain ⟨_, _, _, hv⟩ := calm_done hU h hc (.inr ha)
  obtain ⟨S', hS'⟩ : ∃ S', (oursS S 0 a).2 = S' := ⟨_, rfl⟩
  rw [hS'] at hv ⊢
  have hkk := h.inv.keys
  have hnew : 0 ≤ a.newest := by have := ha.newest; unfold snapB at this; rw [decide_eq_true_eq] at this; exact this.1
  have same : viewOf S' = viewOf S → ObjV (cview S' 0) a.num o ∧ ∀ i n, i ≠ a.num → cview S' 0 i n = cview S 0 i n := fun e =>
    ⟨hO.congr fun n => congrFun e _, fun i n _ => congrFun e _⟩
  unfold oursP at hv
  unfold actO
  by_cases w0 : a.what = 0
  · rw [if_pos w0] at hv ⊢
    unfold rwrite
    by_cases ep : a.p = []
    · rw [if_pos ep] at hv ⊢
      exact same hv
    · rw [if_neg ep] at hv ⊢
      refine sim_case hkk hO hnew (fun s hs => ?_) hv (fun q => layB_ne ep (Option.some.inj q)) fun W hW => ?_
      · unfold layP at hs
        split at hs
        · simp at hs; exact ⟨_, hs⟩
        · simp at hs
          rcases hs with q | q <;> exact ⟨_, q⟩
      · rw [lay_head hW, hO.head]
  · rw [if_neg w0] at hv ⊢
    by_cases w1 : a.what = 1
    · rw [if_pos w1] at hv ⊢
      have hw := ha.span.2.1 w1
      unfold withinB at hw
      rw [decide_eq_true_eq] at hw
      unfold rclear
      rw [← hO.head]
      cases ht : cview S 0 a.num 0 with
      | none =>
        rw [ht] at hv
        exact same hv
      | some t =>
        rw [ht] at hv
        simp only [Option.map_some] at hv ⊢
        have hnz : t.b ≠ [] := fun q => hO.nz.1 (by rw [← hO.head, ht, Option.map_some, q])
        refine sim_case hkk hO hnew (fun s hs => ?_) hv (fun q => ?_) fun W hW => ?_
        · split at hs
          · cases hs
          · simp at hs; exact ⟨_, hs⟩
        · have := clearB_len t.b (off := a.off) (n := a.n) hw.1
          rw [Option.some.inj q] at this
          exact hnz (List.eq_nil_of_length_eq_zero (by simpa using this.symm))
        · rw [ht] at hW
          unfold clearB
          by_cases hm : min a.n (t.b.length - a.off) < 1
          · rw [if_pos hm, if_pos hm]
            show (W _).map (·.b) = _
            rw [hW]; rfl
          · rw [if_neg hm, if_neg hm]
            show ((if dK 0 a.num 0 = dK 0 a.num 0 then stepD (W _) _ else _) : Option TS).map (·.b) = _
            rw [if_pos rfl, hW]
            rfl
    · rw [if_neg w1] at hv ⊢
      by_cases w2 : a.what = 2
      · rw [if_pos w2] at hv ⊢
        have hw := ha.span.2.2.1 w2
        unfold withinB at hw
        rw [decide_eq_true_eq] at hw
        unfold rcut
        rw [← hO.head]
        cases ht : cview S 0 a.num 0 with
        | none =>
          rw [ht] at hv
          exact same hv
        | some t =>
          rw [ht] at hv
          simp only [Option.map_some] at hv ⊢
          by_cases hc2 : 0 < a.n ∧ (t.b.length : Int) ≤ a.n
          · rw [if_pos hc2] at hv ⊢
            exact same hv
          · rw [if_neg hc2] at hv ⊢
            have hnz : t.b ≠ [] := fun q => hO.nz.1 (by rw [← hO.head, ht, Option.map_some, q])
            have hl0 : 0 < t.b.length := List.length_pos_iff.2 hnz
            refine sim_case hkk hO hnew (fun s hs => ?_) hv (fun q => ?_) fun W hW => ?_
            · simp at hs
              split at hs <;> exact ⟨_, hs⟩
            · split at q
              · cases q
              · have := congrArg List.length (Option.some.inj q)
                rw [List.length_take, List.length_nil] at this
                omega
            · rw [ht] at hW
              by_cases hn0 : a.n = 0
              · rw [if_pos hn0, if_pos hn0]
                show ((if dK 0 a.num 0 = dK 0 a.num 0 then stepD (W _) goneD else _) : Option TS).map (·.b) = _
                rw [if_pos rfl]
                rfl
              · rw [if_neg hn0, if_neg hn0]
                show ((if dK 0 a.num 0 = dK 0 a.num 0 then stepD (W _) (cutD t a.n) else _) : Option TS).map (·.b) = _
                rw [if_pos rfl, hW]
                show some (t.b.take (min (max 0 (min a.n t.b.length)).toNat t.b.length)) = some (t.b.take a.n.toNat)
                congr 2
                omega
      · rw [if_neg w2] at hv ⊢
        by_cases w3 : a.what = 3
        · rw [if_pos w3] at hv ⊢
          unfold rlay
          refine sim_case hkk hO hnew turn_head hv (fun q => ?_) fun W hW => turn_heads hW
          split at q
          · cases q
          · rename_i hne
            exact hne (Option.some.inj q)
        · rw [if_neg w3] at hv ⊢
          by_cases w4 : a.what = 4
          · rw [if_pos w4] at hv ⊢
            unfold rback
            rw [hO.at hkk] at hv
            have hz := at_nz hO.nz a.snap
            refine sim_case hkk hO hnew turn_head hv hz fun W hW => ?_
            rw [turn_heads hW]
            cases hr : ratR o a.snap with
            | none => rfl
            | some d =>
              rw [hr] at hz
              rw [Option.getD_some, if_neg (fun q => hz (by rw [q]))]
          · rw [if_neg w4] at hv ⊢
            rw [if_neg h5] at hv
            exact same hv
def prevG (below : Int) (l : List Int) (n : Int) : Int := ((l.filter fun x => decide (x < n)).getLast?).getD below
theorem tidyR_eq (m : List Int) : ∀ (cs : List (Int × Option (List Int))) (below : Int), Inc (cs.map (·.1)) → tidyR m cs below = cs.filter fun c => seenB m (prevG below (cs.map (·.1)) c.1) c.1
  | [], _, _ => rfl
  | c :: cs, below, h => by
    have h' := List.pairwise_cons.1 (show List.Pairwise (· < ·) (c.1 :: cs.map (·.1)) from h)
    have e0 : prevG below ((c :: cs).map (·.1)) c.1 = below := by
      unfold prevG
      have : ((c :: cs).map (·.1)).filter (fun x => decide (x < c.1)) = [] := by
        rw [List.filter_eq_nil_iff]
        intro x hx
        rcases List.mem_cons.1 hx with rfl | hx
        · simp
        · have := h'.1 x hx
          simp; omega
      rw [this]
      rfl
    have e1 : ∀ d ∈ cs, prevG below ((c :: cs).map (·.1)) d.1 = prevG c.1 (cs.map (·.1)) d.1 := fun d hd => by
      have hlt := h'.1 d.1 (List.mem_map_of_mem hd)
      unfold prevG
      rw [List.map_cons, List.filter_cons, if_pos (by simpa using hlt), getLast_cons]
      rfl
    rw [tidyR, tidyR_eq m cs c.1 h'.2, List.filter_cons, e0]
    have e2 : (cs.filter fun d => seenB m (prevG below ((c :: cs).map (·.1)) d.1) d.1) = cs.filter fun d => seenB m (prevG c.1 (cs.map (·.1)) d.1) d.1 :=
      List.filter_congr fun d hd => by rw [e1 d hd]
    rw [e2]
theorem tidy_live {U : List K4} {S : Str} (hU : UOK U) (h : Live U S) (hc : S.armed = false) {a : A17} (ha : a.what = 5) :
    (∀ num, cview (oursS S 0 a).2 0 num 0 = cview S 0 num 0) ∧ ∀ num n, 0 ≤ num → n ≠ 0 → cview (oursS S 0 a).2 0 num n = if wholeB (cview S 0 num n) = true ∧ seenB a.ms (prevL (copiesV (cview S 0) (keysAt S ⟨4, 0⟩) num) n) n = true then cview S 0 num n else none := by
  obtain ⟨_, _, _, h3⟩ := calm_done hU h hc (.inl ha)
  have hpl : oursP (cview S 0) (keysAt S ⟨4, 0⟩) 0 a = tidyP (cview S 0) 0 a.ms (keysAt S ⟨4, 0⟩) (-1) 0 := by
    unfold oursP
    rw [if_neg (by omega), if_neg (by omega), if_neg (by omega), if_neg (by omega), if_neg (by omega), if_pos ha]
  rw [hpl] at h3
  have hky : ∀ k ∈ keysAt S ⟨4, 0⟩, k = dK 0 k.num k.snap ∧ -1 ≤ k.num := fun k hk => by
    obtain ⟨q1, q2⟩ := grp_key h.inv.keys hk
    obtain ⟨t, ht⟩ := Option.isSome_iff_exists.1 q2
    have := (hU.all _ (h.inv.getU ht)).2
    unfold K4.ok at this
    rw [decide_eq_true_eq] at this
    exact ⟨q1, by omega⟩
  have hde := tidy_deeds (cview S 0) 0 a.ms (keysAt S ⟨4, 0⟩) (-1) 0 (h.inv.keys.rise _) hky
  have hv : ∀ k, (DStep.deed k goneD ∈ tidyP (cview S 0) 0 a.ms (keysAt S ⟨4, 0⟩) (-1) 0 → get k (oursS S 0 a).2.seen = none) ∧ (DStep.deed k goneD ∉ tidyP (cview S 0) 0 a.ms (keysAt S ⟨4, 0⟩) (-1) 0 → get k (oursS S 0 a).2.seen = get k S.seen) := fun k => by
    have := congrFun h3 k
    unfold viewOf at this
    rw [this]
    exact viewExec_gone (fun s hs => by obtain ⟨k, _, q, _⟩ := (hde s).1 hs; exact ⟨k, q⟩) k
  refine ⟨fun num => ?_, fun num n hnum hn => ?_⟩
  · unfold cview
    refine (hv _).2 fun hm => ?_
    obtain ⟨k, _, q, hs, _⟩ := (hde _).1 hm
    have := (DStep.deed.inj q).1
    rw [← this] at hs
    exact hs rfl
  · have hkk : ∀ k, dK 0 num n = k → k.num = num ∧ k.snap = n := fun k e => by rw [← e]; exact ⟨rfl, rfl⟩
    by_cases hm : DStep.deed (dK 0 num n) goneD ∈ tidyP (cview S 0) 0 a.ms (keysAt S ⟨4, 0⟩) (-1) 0
    · rw [show cview (oursS S 0 a).2 0 num n = none from (hv _).1 hm]
      obtain ⟨k, hk, q, _, hc⟩ := (hde _).1 hm
      obtain ⟨e1, e2⟩ := hkk k (DStep.deed.inj q).1
      rw [pb_prev h.inv.keys (cview S 0) (grp_key h.inv.keys hk).1 (by omega), e1, e2] at hc
      rw [if_neg hc]
    · rw [show cview (oursS S 0 a).2 0 num n = cview S 0 num n from (hv _).2 hm]
      split
      · rfl
      · rename_i hc
        cases hg : cview S 0 num n with
        | none => rfl
        | some t =>
          refine absurd ((hde _).2 ⟨dK 0 num n, (h.inv.keys.mem _ _).2 ⟨rfl, ?_⟩, rfl, hn, ?_⟩) hm
          · show (cview S 0 num n).isSome = true
            rw [hg]; rfl
          · rw [pb_prev h.inv.keys (cview S 0) (k := dK 0 num n) rfl (by show num ≠ -1; omega)]
            exact hc
theorem sim_tidy {U : List K4} {S : Str} (hU : UOK U) (h : Live U S) (hc : S.armed = false) {a : A17} (ha : a.what = 5) {i : Int} (hi : 0 ≤ i) {o : RO} (hO : ObjV (cview S 0) i o) : ObjV (cview (oursS S 0 a).2 0) i ⟨o.h, tidyR a.ms o.cs 0⟩ := by
  obtain ⟨h1, h2⟩ := tidy_live hU h hc ha
  rw [tidyR_eq a.ms o.cs 0 hO.inc]
  have hp : ∀ n, prevL (o.cs.map (·.1)) n = prevG 0 (o.cs.map (·.1)) n := fun n => rfl
  have h3 : ∀ n, n ≠ 0 → cview (oursS S 0 a).2 0 i n = if wholeB (cview S 0 i n) = true ∧ seenB a.ms (prevG 0 (o.cs.map (·.1)) n) n = true then cview S 0 i n else none := fun n hn => by
    rw [h2 i n hi hn, hO.copies h.inv.keys]
    rfl
  refine ⟨by rw [h1]; exact hO.head, ?_, fun c hc' => hO.pos c (List.mem_filter.1 hc').1, fun n hn => ?_, fun c hc' => ?_, hO.nz.1, fun c hc' => hO.nz.2 c (List.mem_filter.1 hc').1⟩
  · exact List.Pairwise.sublist (List.Sublist.map _ List.filter_sublist) hO.inc
  · rw [h3 n hn]
    constructor
    · intro hw
      split at hw
      · rename_i hq
        obtain ⟨c, hcm, rfl⟩ := List.mem_map.1 ((hO.mem n hn).1 hq.1)
        exact List.mem_map_of_mem (List.mem_filter.2 ⟨hcm, hq.2⟩)
      · simp [wholeB] at hw
    · intro hm
      obtain ⟨c, hcm, rfl⟩ := List.mem_map.1 hm
      obtain ⟨q1, q2⟩ := List.mem_filter.1 hcm
      have hw := (hO.mem c.1 hn).2 (List.mem_map_of_mem q1)
      rw [if_pos ⟨hw, q2⟩]
      exact hw
  · obtain ⟨q1, q2⟩ := List.mem_filter.1 hc'
    have := hO.pos c q1
    rw [h3 c.1 (by omega), if_pos ⟨(hO.mem c.1 (by omega)).2 (List.mem_map_of_mem q1), q2⟩]
    exact hO.val c q1
/-- What is seen of the first objects is what the document's are. -/
structure Sim (S : Str) (R : List RO) : Prop where
  len : R.length = 4
  obj : ∀ (i : Nat) (o : RO), R[i]? = some o → ObjV (cview S 0) i o
theorem Sim.new : Sim (newS 1048576) [⟨none, []⟩, ⟨none, []⟩, ⟨none, []⟩, ⟨none, []⟩] := ⟨rfl, fun i o ho => by
  have : o = ⟨none, []⟩ := by
    have := List.mem_of_getElem? ho
    simp at this
    exact this
  subst this
  exact ⟨rfl, List.Pairwise.nil, (fun c hc => by cases hc), fun n _ => ⟨fun h => (by cases h), fun h => (by cases h)⟩, (fun c hc => by cases hc), by simp, fun c hc => by cases hc⟩⟩
theorem ours_idle {S : Str} {a : A17} (h : a.what < 0 ∨ 5 < a.what) : oursS S 0 a = (0, S) := by
  unfold oursS
  rw [if_neg (by omega), if_neg (by omega), if_neg (by omega), if_neg (by omega), if_neg (by omega), if_neg (by omega)]
theorem their_idle {R : List RO} {a : A17} (h : a.what < 0 ∨ 5 < a.what) : theirR R a = R := by
  unfold theirR
  rw [if_neg (by omega)]
  split
  · rfl
  · split
    · rename_i o ho
      have : actO o a = o := by
        unfold actO
        rw [if_neg (by omega), if_neg (by omega), if_neg (by omega), if_neg (by omega), if_neg (by omega)]
      rw [this]
      obtain ⟨h1, h2⟩ := List.getElem?_eq_some_iff.1 ho
      rw [← h2]
      exact List.set_getElem_self h1
    · rfl
theorem their_len {R : List RO} {a : A17} : (theirR R a).length = R.length := by
  unfold theirR
  split
  · simp
  · split
    · rfl
    · split
      · simp
      · rfl
/-- Steps that are of one object. -/
def stepNum (num : Int) : DStep → Prop
  | .deed k _ => k.num = num
  | .bar => True
theorem viewExec_num {num : Int} : ∀ {l : List DStep} {V : K4 → Option TS}, (∀ s ∈ l, stepNum num s) → ∀ k, k.num ≠ num → viewExec l V k = V k
  | [], _, _, _, _ => rfl
  | s :: l, V, h, k, hk => by
    have h1 := viewExec_num (V := viewStep s V) (fun t ht => h t (List.mem_cons_of_mem _ ht)) k hk
    have h2 := h s (List.mem_cons_self ..)
    show viewExec l (viewStep s V) k = V k
    rw [h1]
    cases s with
    | deed k' d =>
      have h2 : k'.num = num := h2
      show (if k = k' then _ else V k) = V k
      rw [if_neg (show ¬ k = k' from fun e => hk (by rw [e]; exact h2))]
    | bar => rfl
theorem ours_num (V : CV) (ks : List K4) (a : A17) (h5 : a.what ≠ 5) : ∀ s ∈ oursP V ks 0 a, stepNum a.num s := by
  have hah : ∀ s ∈ aheadP V ks 0 a.num a.newest, stepNum a.num s := fun s hs => by
    unfold aheadP at hs
    split at hs
    · cases hs
    · cases s with
      | bar => trivial
      | deed k d =>
        rw [save_key hs]
        rfl
  have both : ∀ l2 : List DStep, (∀ s ∈ l2, ∃ d, s = .deed (dK 0 a.num 0) d) → ∀ s ∈ aheadP V ks 0 a.num a.newest ++ l2, stepNum a.num s := fun l2 hl s hs => by
    rcases List.mem_append.1 hs with q | q
    · exact hah s q
    · obtain ⟨d, rfl⟩ := hl s q
      rfl
  unfold oursP
  split
  · split
    · intro s hs; cases hs
    · refine both _ fun s hs => ?_
      unfold layP at hs
      split at hs
      · simp at hs; exact ⟨_, hs⟩
      · simp at hs
        rcases hs with q | q <;> exact ⟨_, q⟩
  split
  · split
    · intro s hs; cases hs
    · refine both _ fun s hs => ?_
      split at hs
      · cases hs
      · simp at hs; exact ⟨_, hs⟩
  split
  · split
    · intro s hs; cases hs
    · split
      · intro s hs; cases hs
      · refine both _ fun s hs => ?_
        simp at hs
        split at hs <;> exact ⟨_, hs⟩
  split
  · exact both _ turn_head
  split
  · exact both _ turn_head
  · intro s hs; cases hs
theorem Sim.step {U : List K4} {S : Str} {R : List RO} (hU : UOK U) (h : Live U S) (hc : S.armed = false) (hs : Sim S R) {a : A17} (ha : a.what = 5 ∨ Fine U 0 a) : Sim (oursS S 0 a).2 (theirR R a) := by
  refine ⟨their_len.trans hs.len, fun i o ho => ?_⟩
  by_cases h5 : a.what = 5
  · unfold theirR at ho
    rw [if_pos h5, List.getElem?_map, Option.map_eq_some_iff] at ho
    obtain ⟨o', ho', rfl⟩ := ho
    exact sim_tidy hU h hc h5 (by omega) (hs.obj i o' ho')
  · have hf := ha.resolve_left h5
    have hn0 : 0 ≤ a.num := by have := hf.obj; unfold objB at this; rw [decide_eq_true_eq] at this; omega
    unfold theirR at ho
    rw [if_neg h5] at ho
    by_cases hr : a.num < 0 ∨ (R.length : Int) ≤ a.num
    · rw [if_pos hr] at ho
      have hil := (List.getElem?_eq_some_iff.1 ho).1
      have hne : (i : Int) ≠ a.num := by omega
      refine (hs.obj i o ho).congr fun n => ?_
      have hv := congrFun (calm_done hU h hc (.inr hf)).2.2.2 (dK 0 i n)
      rw [viewExec_num (ours_num _ _ a h5) _ hne] at hv
      exact hv
    · rw [if_neg hr] at ho
      obtain ⟨j, hj⟩ : ∃ j : Nat, a.num = j := ⟨a.num.toNat, by omega⟩
      have hjl : j < R.length := by omega
      obtain ⟨oj, hoj⟩ : ∃ oj, R[j]? = some oj := ⟨_, List.getElem?_eq_getElem hjl⟩
      rw [hj, Int.toNat_natCast, hoj] at ho
      simp only at ho
      have hO := hs.obj j oj hoj
      rw [← hj] at hO
      obtain ⟨k1, k2⟩ := sim_obj hU h hc hO hf h5
      rw [List.getElem?_set] at ho
      split at ho
      · rename_i e
        subst e
        injection ho with ho
        subst ho
        rw [← hj]
        exact k1
      · rename_i e
        exact (hs.obj i o ho).congr fun n => k2 i n (by omega)
/-- What There, Size and Read tell of an object at a snapshot. -/
theorem sim_tell {U : List K4} {S : Str} (hU : UOK U) (h : Live U S) {i : Int} {o : RO} (hO : ObjV (cview S 0) i o) (hi : 0 ≤ i ∧ i ≤ 512) {snap : Int} (hs : 0 ≤ snap ∧ snap ≤ 1073741824) :
    cthereS S 0 i snap = ((ratR o snap).isSome, 0) ∧ csizeS S 0 i snap = ((((ratR o snap).getD []).length : Int), 0) ∧ ∀ off n, withinB off n = true → creadS S 0 i snap off n = (padB ((ratR o snap).getD []) off.toNat n.toNat, 0) := by
  have hob : objB 0 i = true := by
    unfold objB
    rw [decide_eq_true_eq]
    omega
  have hsn : snapB snap = true := by
    unfold snapB
    rw [decide_eq_true_eq]
    omega
  have hh : (dK 0 i 0).ok = true := by
    unfold dK K4.ok
    simp only [decide_eq_true_eq]
    omega
  have hv := hO.at h.inv.keys snap
  obtain ⟨a1, a2⟩ := at_view h hU (snap := snap) hh
  rw [hv] at a1 a2
  refine ⟨?_, ?_, fun off n hw => ?_⟩
  · unfold cthereS
    rw [hob, hsn, Bool.and_true, cmay_true h.on, if_neg (by simp), a1]
  · unfold csizeS
    rw [hob, hsn, Bool.and_true, cmay_true h.on, if_neg (by simp), a1]
    cases hr : ratR o snap with
    | none => rfl
    | some d =>
      rw [hr] at a1 a2
      rw [if_pos (show (some d).isSome = true from rfl), (a2 a1).2]
  · rw [read_view h hU (by rw [hob, hsn, hw]; rfl), hv]
theorem sim_copies {U : List K4} {S : Str} (hU : UOK U) (h : Live U S) {i : Int} {o : RO} (hO : ObjV (cview S 0) i o) (hi : 0 ≤ i ∧ i ≤ 512) : ccopiesS S 0 i = (o.cs.map (·.1), 0) := by
  have hob : objB 0 i = true := by
    unfold objB
    rw [decide_eq_true_eq]
    omega
  unfold ccopiesS
  rw [hob, cmay_true h.on, if_neg (by simp), copies_view h hU, hO.copies h.inv.keys]
end Go.Proofs.YtbepmbcbcklmlaaGreat
