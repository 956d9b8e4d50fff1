/- Each of cow's changes is a row of deeds and barriers, by what is seen. No program in sight. -/
import Derived.Test.YtbepmbcbcklmlaaGreatCowPlan
import Derived.Test.YtbepmbcbcklmlaaGreatActs17
set_option linter.unusedSimpArgs false
set_option linter.unusedVariables false
set_option linter.unusedSectionVars false
namespace Go.Proofs.YtbepmbcbcklmlaaGreat
open Go.RowKit
theorem viewExec_append (a b : List DStep) (V : K4 → Option TS) : viewExec (a ++ b) V = viewExec b (viewExec a V) := by
  induction a generalizing V with
  | nil => rfl
  | cons s a ih => exact ih _
/-- A copy of a head. -/
def copyT (o : Option TS) : TS := match o with
  | some t => ⟨t.b, [(nmW, [1])]⟩
  | none => ⟨[], [(nmW, [2])]⟩
theorem copy_body (o : Option TS) : bodyV (some (copyT o)) = o.map (·.b) := by
  cases o with
  | none => simp [bodyV, copyT, get]
  | some t => simp [bodyV, copyT, get]
theorem copy_whole (o : Option TS) : wholeB (some (copyT o)) = true := by
  cases o with
  | none => simp [wholeB, copyT, get]
  | some t => simp [wholeB, copyT, get]
theorem layB_zero (b : List Int) : layB [] 0 b = b := by
  unfold layB
  split
  · rename_i h; exact h.symm
  · simp
theorem save_view (V : K4 → Option TS) (f : CV) (img num newest : Int) (hf : ∀ a b, f a b = V (dK img a b)) (hn : newest ≠ 0) :
    viewExec (saveP f img num newest) V = fun k => if k = dK img num newest then some (copyT (f num 0)) else V k := by
  have e1 : ∀ W : K4 → Option TS, (∀ k, k ≠ dK img num newest → W k = V k) →
      viewExec (.deed (dK img num newest) madeD :: ((match f num 0 with | some t => [.deed (dK img num newest) (wroteD 0 t.b)] | none => []) ++
      [.deed (dK img num newest) (setD nmW [if (f num 0).isSome then 1 else 2]), .bar])) W = fun k => if k = dK img num newest then some (copyT (f num 0)) else V k := by
    intro W hW
    funext k
    cases hg : f num 0 with
    | none =>
      show viewStep (.deed (dK img num newest) (setD nmW [2])) (viewStep (.deed (dK img num newest) madeD) W) k = _
      unfold viewStep
      by_cases hk : k = dK img num newest
      · simp [hk, stepD, madeD, setD, copyT, setAttr, put, del]
      · simp [hk, hW k hk]
    | some t =>
      show viewStep (.deed (dK img num newest) (setD nmW [1])) (viewStep (.deed (dK img num newest) (wroteD 0 t.b)) (viewStep (.deed (dK img num newest) madeD) W)) k = _
      unfold viewStep
      by_cases hk : k = dK img num newest
      · simp [hk, stepD, madeD, wroteD, setD, copyT, setAttr, put, del, layB_zero]
      · simp [hk, hW k hk]
  unfold saveP
  rw [viewExec_append]
  refine e1 _ fun k hk => ?_
  split
  · show viewStep (.deed (dK img num newest) goneD) V k = _
    unfold viewStep
    simp [hk]
  · rfl
theorem save_in {U : List K4} {S : Str} (h : Live U S) {img num newest : Int} (hk : dK img num newest ∈ U) : ∀ s ∈ saveP (cview S img) img num newest, stepIn U s := by
  intro s hs
  unfold saveP at hs
  rcases List.mem_append.1 hs with q | q
  · split at q
    · simp at q; subst q; exact ⟨hk, .inr (.inl rfl)⟩
    · cases q
  · rcases List.mem_cons.1 q with rfl | q
    · exact ⟨hk, .inl rfl⟩
    · rcases List.mem_append.1 q with q | q
      · cases hg : cview S img num 0 with
        | none => rw [hg] at q; cases q
        | some t =>
          rw [hg] at q
          simp at q
          subst q
          refine ⟨hk, .inr (.inr (.inl ⟨rfl, Int.le_refl _, ?_⟩))⟩
          have := (h.inv.getT _ t hg).1
          show (0 : Int) + t.b.length ≤ 64
          omega
      · rcases List.mem_cons.1 q with rfl | q
        · exact ⟨hk, .inr (.inr (.inr (.inr ⟨rfl, rfl, rfl⟩)))⟩
        · simp at q; subst q; trivial
theorem ahead_in {U : List K4} {S : Str} (h : Live U S) {img num newest : Int} (hk : newest ≠ 0 → dK img num newest ∈ U) (ks : List K4) : ∀ s ∈ aheadP (cview S img) ks img num newest, stepIn U s := by
  unfold aheadP
  split
  · intro s hs; cases hs
  · rename_i hc
    exact save_in h (hk fun q => hc (.inl q))
/-- What is there behind what is done ahead of a change. -/
structure After (U : List K4) (S S1 : Str) (img num newest : Int) : Prop where
  live : Live U S1
  same : ∀ k, k ≠ dK img num newest → get k S1.seen = get k S.seen
  head : cview S1 img num 0 = cview S img num 0
  val : ∀ snap, valO (cview S1 img) (keysAt S1 ⟨4, img⟩) num snap = valO (cview S img) (keysAt S ⟨4, img⟩) num snap
theorem uncovered {l : List Int} (hi : Inc l) {newest : Int} (h : coveredV l newest = false) : ∀ n ∈ l, n < newest := by
  intro n hn
  unfold coveredV at h
  cases hl : l.getLast? with
  | none => rw [List.getLast?_eq_none_iff] at hl; rw [hl] at hn; cases hn
  | some x =>
    rw [hl] at h
    simp only [decide_eq_false_iff_not] at h
    obtain ⟨l', rfl⟩ := List.getLast?_eq_some_iff.1 hl
    rcases List.mem_append.1 hn with q | q
    · have := (List.pairwise_append.1 hi).2.2 n q x (by simp)
      omega
    · simp at q; omega
theorem ahead_after {U : List K4} {S : Str} (h : Live U S) (hU : UOK U) {img num newest : Int} (hk : newest ≠ 0 → dK img num newest ∈ U)
    (h0 : (execS (aheadP (cview S img) (keysAt S ⟨4, img⟩) img num newest) S).1 = 0) : After U S (execS (aheadP (cview S img) (keysAt S ⟨4, img⟩) img num newest) S).2 img num newest := by
  obtain ⟨h1, h2⟩ := exec_ok hU h (ahead_in h hk _) h0
  unfold aheadP at h0 h1 h2 ⊢
  by_cases hc : newest = 0 ∨ coveredV (copiesV (cview S img) (keysAt S ⟨4, img⟩) num) newest = true
  · rw [if_pos hc] at h1 ⊢
    exact ⟨h1, fun _ _ => rfl, rfl, fun _ => rfl⟩
  · rw [if_neg hc] at h0 h1 h2 ⊢
    have hn : newest ≠ 0 := fun q => hc (.inl q)
    have hcv : coveredV (copiesV (cview S img) (keysAt S ⟨4, img⟩) num) newest = false := by
      cases q : coveredV (copiesV (cview S img) (keysAt S ⟨4, img⟩) num) newest with
      | false => rfl
      | true => exact absurd (.inr q) hc
    rw [save_view (viewOf S) (cview S img) img num newest (fun _ _ => rfl) hn] at h2
    obtain ⟨S1, hS1⟩ : ∃ x, (execS (saveP (cview S img) img num newest) S).2 = x := ⟨_, rfl⟩
    rw [hS1] at h1 h2 ⊢
    have hv : ∀ k, get k S1.seen = if k = dK img num newest then some (copyT (cview S img num 0)) else get k S.seen := fun k => congrFun h2 k
    have hsame : ∀ k, k ≠ dK img num newest → get k S1.seen = get k S.seen := fun k hk => by rw [hv, if_neg hk]
    have hhead : cview S1 img num 0 = cview S img num 0 := hsame _ fun e => hn (dK_inj.1 e).2.symm
    have hnew : cview S1 img num newest = some (copyT (cview S img num 0)) := by unfold cview; rw [hv, if_pos rfl]; rfl
    have hcs : ∀ n, n ≠ newest → cview S1 img num n = cview S img num n := fun n hne => hsame _ fun e => hne (dK_inj.1 e).2
    have hlt := uncovered (copies_inc h.inv.keys (cview S img) img num) hcv
    have hcop : copiesV (cview S1 img) (keysAt S1 ⟨4, img⟩) num = copiesV (cview S img) (keysAt S ⟨4, img⟩) num ++ [newest] := by
      refine inc_eq (copies_inc h1.inv.keys _ _ _) ?_ fun x => ?_
      · refine List.pairwise_append.2 ⟨copies_inc h.inv.keys _ _ _, List.pairwise_singleton _ _, fun a ha b hb => ?_⟩
        simp at hb; subst hb; exact hlt a ha
      · rw [copies_mem h1.inv.keys, List.mem_append, copies_mem h.inv.keys]
        by_cases e : x = newest
        · subst e
          rw [hnew]
          simp [hn, copy_whole]
        · rw [hcs x e]
          simp [e]
    refine ⟨h1, hsame, hhead, fun snap => ?_⟩
    unfold valO
    rw [hcop, hhead]
    by_cases hs : 0 < snap
    · rw [if_pos hs, if_pos hs, List.find?_append]
      cases hf : (copiesV (cview S img) (keysAt S ⟨4, img⟩) num).find? (fun n => decide (snap ≤ n)) with
      | some n =>
        have hm := List.mem_of_find?_eq_some hf
        simp only [Option.some_or]
        rw [hcs n (by have := hlt n hm; omega)]
      | none =>
        simp only [Option.none_or]
        by_cases hsn : snap ≤ newest
        · simp only [List.find?_cons, decide_eq_true hsn]
          rw [hnew, copy_body]
        · simp [hsn]
    · rw [if_neg hs, if_neg hs]
def layP (k : K4) (o : Option TS) (off : Int) (p : List Int) : List DStep := match o with
  | some _ => [.deed k (wroteD off p)]
  | none => [.deed k madeD, .deed k (wroteD off p)]
theorem step_01 (S : Str) (k : K4) (d : Dd) : (stepE S (.deed k d)).1 = 0 ∨ (stepE S (.deed k d)).1 = 7 := offE_01 _
theorem lay_plan {U : List K4} {S : Str} (h : Live U S) (hU : UOK U) {k : K4} (hk : k ∈ U) {off : Int} {p : List Int} (h0 : 0 ≤ off) (h1 : off + p.length ≤ 64) :
    clayS S k off p = execS (layP k (get k S.seen) off p) S := by
  have hok := (hU.all k hk).2
  unfold clayS layP
  cases hg : get k S.seen with
  | some t =>
    rw [if_pos (by rw [h.why hok, hg]; rfl), h.write hU hok hg h0 h1]
    exact (execS_one _ _).symm
  | none =>
    rw [if_neg (by rw [h.why hok, hg]; simp), h.make hU hok hg]
    show _ = thenE (stepE S (.deed k madeD)) (execS [.deed k (wroteD off p)])
    refine thenE_congr fun hz => ?_
    obtain ⟨h2, hv2⟩ := deed_ok h hU hk (.inl rfl) hz
    have hk2 : get k (stepE S (.deed k madeD)).2.seen = some ⟨[], []⟩ := by rw [hv2, if_pos rfl]; rfl
    rw [h2.write hU hok hk2 h0 h1, execS_one]
    refine drops_no k ?_
    rcases step_01 (stepE S (.deed k madeD)).2 k (wroteD off p) with e | e
    · rw [e]; decide
    · rw [e]; decide
def turnP (k : K4) (o : Option TS) (p : List Int) : List DStep :=
  if p = [] then (match o with | some _ => [.deed k goneD] | none => []) else match o with
    | none => [.deed k madeD, .deed k (wroteD 0 p)]
    | some t => if (p.length : Int) < t.b.length then [.deed k (cutD t p.length), .deed k (wroteD 0 p)] else [.deed k (wroteD 0 p)]
theorem turn_plan {U : List K4} {S : Str} (h : Live U S) (hU : UOK U) {k : K4} (hk : k ∈ U) {p : List Int} (h1 : p.length ≤ 64) :
    turnS S k p = execS (turnP k (get k S.seen) p) S := by
  have hok := (hU.all k hk).2
  unfold turnS turnP
  by_cases hp : p = []
  · rw [if_pos hp, if_pos hp]
    cases hg : get k S.seen with
    | none => rw [if_neg (by rw [h.why hok, hg]; simp)]; rfl
    | some t =>
      rw [if_pos (by rw [h.why hok, hg]; rfl), h.drop hok (by rw [hg]; rfl)]
      exact (execS_one _ _).symm
  · rw [if_neg hp, if_neg hp]
    cases hg : get k S.seen with
    | none =>
      rw [if_pos (by rw [h.why hok, hg]; simp), lay_plan h hU hk (Int.le_refl _) (by omega)]
      unfold layP
      rw [hg]
    | some t =>
      have hlen := (h.all hok hg).2
      have hcT := (h.inv.getT k t hg).1
      have hr := h.inv.roomy hU
      have hf := h.inv.few hU
      rw [if_neg (by rw [h.why hok, hg]; simp), hlen, hr, if_neg (by omega)]
      simp only
      split
      · rw [h.trim hok hg]
        show _ = thenE (stepE S (.deed k (cutD t p.length))) (execS [.deed k (wroteD 0 p)])
        refine thenE_congr fun hz => ?_
        obtain ⟨h2, hv2⟩ := deed_ok h hU hk (.inr (.inr (.inr (.inl rfl)))) hz
        have hk2 : ∃ t2, get k (stepE S (.deed k (cutD t p.length))).2.seen = some t2 := by
          rw [hv2, if_pos rfl, hg]
          exact ⟨_, rfl⟩
        obtain ⟨t2, hk2⟩ := hk2
        rw [h2.write hU hok hk2 (Int.le_refl _) (by omega), execS_one]
      · rw [h.write hU hok hg (Int.le_refl _) (by omega), execS_one]
def tidyP (V : CV) (img : Int) (marks : List Int) : List K4 → Int → Int → List DStep
  | [], _, _ => []
  | k :: ks, last, below =>
    let below := if k.num = last then below else 0
    if k.snap = 0 then tidyP V img marks ks k.num below
    else if wholeB (V k.num k.snap) = true ∧ seenB marks below k.snap = true then tidyP V img marks ks k.num k.snap
    else .deed (dK img k.num k.snap) goneD :: tidyP V img marks ks k.num (if wholeB (V k.num k.snap) = true then k.snap else below)
theorem tidy_plan {U : List K4} (hU : UOK U) (V : CV) (img : Int) (marks : List Int) : ∀ (ks : List K4) (last below : Int) (S : Str), Live U S → ks.Nodup →
    (∀ k ∈ ks, k = dK img k.num k.snap ∧ get k S.seen = V k.num k.snap ∧ (get k S.seen).isSome = true) → tidyL marks ks last below S = execS (tidyP V img marks ks last below) S
  | [], _, _, S, _, _, _ => rfl
  | k :: ks, last, below, S, h, hn, hks => by
    have hn' := List.nodup_cons.1 hn
    obtain ⟨hk1, hk2, hk3⟩ := hks k (List.mem_cons_self ..)
    have hrest := fun k' hk' => hks k' (List.mem_cons_of_mem _ hk')
    unfold tidyL tidyP
    simp only
    generalize (if k.num = last then below else 0) = bl
    have hw : (attrS S k nmW).2 = 0 ↔ wholeB (V k.num k.snap) = true := by rw [← hk2]; exact (whole_attr h hU k).1
    by_cases h0 : k.snap = 0
    · rw [if_pos h0, if_pos h0]
      exact tidy_plan hU V img marks ks _ _ S h hn'.2 hrest
    · rw [if_neg h0, if_neg h0]
      by_cases hc : wholeB (V k.num k.snap) = true ∧ seenB marks bl k.snap = true
      · rw [if_pos ⟨hw.2 hc.1, hc.2⟩, if_pos hc]
        exact tidy_plan hU V img marks ks _ _ S h hn'.2 hrest
      · rw [if_neg (fun q => hc ⟨hw.1 q.1, q.2⟩), if_neg hc]
        obtain ⟨t, ht⟩ := Option.isSome_iff_exists.1 hk3
        have hkU := h.inv.getU ht
        have hok := (hU.all k hkU).2
        rw [h.drop hok hk3, ← hk1]
        show _ = thenE (stepE S (.deed k goneD)) _
        refine thenE_congr fun hz => ?_
        obtain ⟨h2, hv2⟩ := deed_ok h hU hkU (.inr (.inl rfl)) hz
        have e : (if (attrS S k nmW).2 = 0 then k.snap else bl) = if wholeB (V k.num k.snap) = true then k.snap else bl := by
          by_cases q : wholeB (V k.num k.snap) = true
          · rw [if_pos q, if_pos (hw.2 q)]
          · rw [if_neg q, if_neg (fun r => q (hw.1 r))]
        rw [e]
        refine tidy_plan hU V img marks ks _ _ _ h2 hn'.2 fun k' hk' => ?_
        obtain ⟨a1, a2, a3⟩ := hrest k' hk'
        have hne : k' ≠ k := fun e => hn'.1 (e ▸ hk')
        rw [hv2, if_neg hne]
        exact ⟨a1, a2, a3⟩
/-- The row of deeds of a change. -/
def oursP (V : CV) (ks : List K4) (img : Int) (a : A17) : List DStep :=
  if a.what = 0 then (if a.p = [] then [] else aheadP V ks img a.num a.newest ++ layP (dK img a.num 0) (V a.num 0) a.off a.p)
  else if a.what = 1 then (match V a.num 0 with
    | none => []
    | some t => aheadP V ks img a.num a.newest ++ if min a.n (t.b.length - a.off) < 1 then [] else [.deed (dK img a.num 0) (wroteD a.off (List.replicate (min a.n (t.b.length - a.off)).toNat 0))])
  else if a.what = 2 then (match V a.num 0 with
    | none => []
    | some t => if 0 < a.n ∧ (t.b.length : Int) ≤ a.n then [] else aheadP V ks img a.num a.newest ++ [if a.n = 0 then .deed (dK img a.num 0) goneD else .deed (dK img a.num 0) (cutD t a.n)])
  else if a.what = 3 then aheadP V ks img a.num a.newest ++ turnP (dK img a.num 0) (V a.num 0) a.p
  else if a.what = 4 then aheadP V ks img a.num a.newest ++ turnP (dK img a.num 0) (V a.num 0) ((valO V ks a.num a.snap).getD [])
  else if a.what = 5 then tidyP V img a.ms ks (-1) 0
  else []
/-- A change that may be, of keys that there may be. -/
structure Fine (U : List K4) (img : Int) (a : A17) : Prop where
  obj : objB img a.num = true
  newest : snapB a.newest = true
  snap : a.what = 4 → snapB a.snap = true
  span : (a.what = 0 → withinB a.off a.p.length = true) ∧ (a.what = 1 → withinB a.off a.n = true) ∧ (a.what = 2 → withinB 0 a.n = true) ∧ (a.what = 3 → withinB 0 a.p.length = true)
  head : dK img a.num 0 ∈ U
  copy : a.newest ≠ 0 → dK img a.num a.newest ∈ U
theorem cmay_true {S : Str} (h : S.on = true) : cmayS S true = 0 := by unfold cmayS; rw [h]; rfl
theorem val_small {U : List K4} {S : Str} (h : Live U S) (img num snap : Int) : ((valO (cview S img) (keysAt S ⟨4, img⟩) num snap).getD []).length ≤ 64 := by
  unfold valO
  split
  · rename_i n hn
    unfold bodyV
    cases hg : cview S img num n with
    | none => simp
    | some t =>
      simp only
      split
      · exact (h.inv.getT _ t hg).1
      · simp
  · cases hg : cview S img num 0 with
    | none => simp
    | some t => exact (h.inv.getT _ t hg).1
theorem back_view {U : List K4} {S : Str} (h : Live U S) (hU : UOK U) {img num snap : Int} (hh : (dK img num 0).ok = true) : backL S img num snap = (valO (cview S img) (keysAt S ⟨4, img⟩) num snap).getD [] := by
  obtain ⟨h1, h2⟩ := at_view h hU (snap := snap) hh
  unfold backL
  cases hb : (atS S img num snap).2 with
  | true => rw [if_pos rfl]; exact (h2 hb).1
  | false =>
    rw [if_neg (by simp)]
    rw [hb] at h1
    cases hv : valO (cview S img) (keysAt S ⟨4, img⟩) num snap with
    | none => rfl
    | some b => rw [hv] at h1; simp at h1
theorem ours_plan {U : List K4} {S : Str} (h : Live U S) (hU : UOK U) {img : Int} {a : A17} (hi : 0 ≤ img ∧ img ≤ 255) (ha : a.what = 5 ∨ Fine U img a) :
    oursS S img a = execS (oursP (cview S img) (keysAt S ⟨4, img⟩) img a) S := by
  unfold oursS oursP
  by_cases e5 : a.what = 5
  · rw [if_neg (by omega), if_neg (by omega), if_neg (by omega), if_neg (by omega), if_neg (by omega), if_pos e5, if_neg (by omega), if_neg (by omega), if_neg (by omega), if_neg (by omega), if_neg (by omega), if_pos e5]
    unfold tidyS
    have ho : objB img 0 = true := by unfold objB; rw [decide_eq_true_eq]; omega
    rw [ho, cmay_true h.on, if_neg (by simp), show keysTold S ⟨4, img⟩ = keysAt S ⟨4, img⟩ by unfold keysTold; rw [if_pos h.on]]
    refine tidy_plan hU _ _ _ _ _ _ S h (List.Pairwise.imp (fun {a b} hab e => by subst e; rw [lt_irrefl'] at hab; cases hab) (h.inv.keys.rise ⟨4, img⟩)) fun k hk => ?_
    obtain ⟨h1, h2⟩ := grp_key h.inv.keys hk
    refine ⟨h1, ?_, h2⟩
    show get k S.seen = get (dK img k.num k.snap) S.seen
    rw [← h1]
  have hf := ha.resolve_left e5
  have hhead := (hU.all _ hf.head).2
  have hap := ahead_plan h hU (img := img) (num := a.num) (newest := a.newest) hf.copy hhead
  have haf := fun h0 => ahead_after h hU (img := img) (num := a.num) (newest := a.newest) hf.copy h0
  obtain ⟨P, hP⟩ : ∃ P, aheadP (cview S img) (keysAt S ⟨4, img⟩) img a.num a.newest = P := ⟨_, rfl⟩
  rw [hP] at hap haf
  rw [hP]
  split
  · rename_i e0
    unfold cwriteS
    rw [hf.obj, hf.newest, hf.span.1 e0, show (true && true && true) = true from rfl, cmay_true h.on, if_neg (by simp)]
    split
    · rfl
    · rw [hap, execS_append]
      refine thenE_congr fun h0 => ?_
      have hA := haf h0
      have hw := hf.span.1 e0
      unfold withinB at hw
      rw [decide_eq_true_eq] at hw
      rw [lay_plan hA.live hU hf.head hw.1 (by omega), show get (dK img a.num 0) (execS P S).2.seen = cview S img a.num 0 from hA.head]
  split
  · rename_i e1
    unfold cclearS
    rw [hf.obj, hf.newest, hf.span.2.1 e1, show (true && true && true) = true from rfl, cmay_true h.on, if_neg (by simp), h.why hhead]
    cases hg : get (dK img a.num 0) S.seen with
    | none => rw [show cview S img a.num 0 = none from hg]; rfl
    | some t =>
      rw [show cview S img a.num 0 = some t from hg, if_neg (by simp), (h.all hhead hg).2, hap]
      simp only
      rw [execS_append]
      refine thenE_congr fun h0 => ?_
      have hA := haf h0
      have hw := hf.span.2.1 e1
      unfold withinB at hw
      rw [decide_eq_true_eq] at hw
      split
      · rfl
      · have hg1 : get (dK img a.num 0) (execS P S).2.seen = some t := hA.head.trans hg
        rw [hA.live.write hU hhead hg1 hw.1 (by rw [List.length_replicate]; omega), execS_one]
  split
  · rename_i e2
    unfold ccutS
    rw [hf.obj, hf.newest, hf.span.2.2.1 e2, show (true && true && true) = true from rfl, cmay_true h.on, if_neg (by simp), h.why hhead]
    cases hg : get (dK img a.num 0) S.seen with
    | none => rw [show cview S img a.num 0 = none from hg]; rfl
    | some t =>
      rw [show cview S img a.num 0 = some t from hg, (h.all hhead hg).2]
      simp only [Option.isSome_some, if_true, ne_eq, not_true_eq_false, false_or]
      split
      · rfl
      · rw [hap, execS_append]
        refine thenE_congr fun h0 => ?_
        have hA := haf h0
        have hg1 : get (dK img a.num 0) (execS P S).2.seen = some t := hA.head.trans hg
        rw [execS_one]
        split
        · exact hA.live.drop hhead (by rw [hg1]; rfl)
        · exact hA.live.trim hhead hg1 _
  split
  · rename_i e3
    unfold claySn
    rw [hf.obj, hf.newest, hf.span.2.2.2 e3, show (true && true && true) = true from rfl, cmay_true h.on, if_neg (by simp), hap, execS_append]
    refine thenE_congr fun h0 => ?_
    have hA := haf h0
    have hw := hf.span.2.2.2 e3
    unfold withinB at hw
    rw [decide_eq_true_eq] at hw
    rw [turn_plan hA.live hU hf.head (by omega), show get (dK img a.num 0) (execS P S).2.seen = cview S img a.num 0 from hA.head]
  split
  · rename_i e4
    unfold cbackS
    rw [hf.obj, hf.newest, hf.snap e4, show (true && true && true) = true from rfl, cmay_true h.on, if_neg (by simp), hap, execS_append]
    refine thenE_congr fun h0 => ?_
    have hA := haf h0
    have hb : backL (execS P S).2 img a.num a.snap = (valO (cview S img) (keysAt S ⟨4, img⟩) a.num a.snap).getD [] := by
      rw [back_view hA.live hU hhead, hA.val]
    rw [hb, turn_plan hA.live hU hf.head (val_small h _ _ _), show get (dK img a.num 0) (execS P S).2.seen = cview S img a.num 0 from hA.head]
  · rfl
end Go.Proofs.YtbepmbcbcklmlaaGreat
