/- Package cow's changes as rows of deeds and barriers. No program in sight. -/
import Derived.Test.YtbepmbcbcklmlaaGreatCowInv
set_option linter.unusedSimpArgs false
set_option linter.unusedVariables false
set_option linter.unusedSectionVars false
namespace Go.Proofs.YtbepmbcbcklmlaaGreat
open Go.RowKit
inductive DStep where
  | deed (k : K4) (d : Dd)
  | bar
def stepE (S : Str) : DStep → Int × Str
  | .deed k d => (offE (doS S k d).1, (doS S k d).2)
  | .bar => barrierS S
def execS : List DStep → Str → Int × Str
  | [], S => (0, S)
  | s :: l, S => thenE (stepE S s) (execS l)
theorem thenE_congr {r : Int × Str} {f g : Str → Int × Str} (h : r.1 = 0 → f r.2 = g r.2) : thenE r f = thenE r g := by
  unfold thenE
  split
  · rename_i e; exact h e
  · rfl
theorem thenE_id (r : Int × Str) : thenE r (fun S => (0, S)) = r := by
  unfold thenE
  split
  · rename_i e; exact Prod.ext e.symm rfl
  · rfl
theorem thenE_assoc (r : Int × Str) (f g : Str → Int × Str) : thenE (thenE r f) g = thenE r fun S => thenE (f S) g := by
  unfold thenE
  split
  · rfl
  · rfl
theorem execS_append : ∀ (a b : List DStep) (S : Str), execS (a ++ b) S = thenE (execS a S) (execS b)
  | [], b, S => rfl
  | s :: a, b, S => by
    show thenE (stepE S s) (execS (a ++ b)) = thenE (thenE (stepE S s) (execS a)) (execS b)
    rw [thenE_assoc]
    exact thenE_congr fun _ => execS_append a b _
theorem execS_one (s : DStep) (S : Str) : execS [s] S = stepE S s := thenE_id _
def stepIn (U : List K4) : DStep → Prop
  | .deed k d => k ∈ U ∧ cowD d
  | .bar => True
def viewStep : DStep → (K4 → Option TS) → K4 → Option TS
  | .deed k d, V => fun k' => if k' = k then stepD (V k) d else V k'
  | .bar, V => V
def viewExec : List DStep → (K4 → Option TS) → K4 → Option TS
  | [], V => V
  | s :: l, V => viewExec l (viewStep s V)
def viewOf (S : Str) : K4 → Option TS := fun k => get k S.seen
structure Live (U : List K4) (S : Str) : Prop where
  inv : CInv U S
  on : S.on = true
theorem step_burn {S : Str} (s : DStep) (hon : S.on = true) (h : (burnsS S).1 = true) : stepE S s = (7, (burnsS S).2) := by
  cases s with
  | deed k d => unfold stepE doS; rw [h]; rfl
  | bar => unfold stepE barrierS; rw [if_neg (by simp [hon]), h]; rfl
theorem step_calm {S : Str} (s : DStep) (hon : S.on = true) (hc : Coh S) (h : (burnsS S).1 = false) : (stepE S s).1 = 0 := by
  cases s with
  | deed k d => show offE (doS S k d).1 = 0; rw [(do_done h).1]; rfl
  | bar => exact (barrier_dried hon hc h).1
theorem step_ok {U : List K4} {S : Str} {s : DStep} (h : Live U S) (hU : UOK U) (hs : stepIn U s) (h0 : (stepE S s).1 = 0) :
    Live U (stepE S s).2 ∧ viewOf (stepE S s).2 = viewStep s (viewOf S) ∧ (burnsS S).1 = false := by
  have hb : (burnsS S).1 = false := by
    cases hb : (burnsS S).1 with
    | false => rfl
    | true => rw [step_burn s h.on hb] at h0; cases h0
  cases s with
  | deed k d =>
    have hd := (do_done (k := k) (d := d) hb).2
    refine ⟨⟨h.inv.did hU hs.1 hs.2 hb, hd.on.trans h.on⟩, ?_, hb⟩
    funext k'
    exact hd.seen k'
  | bar =>
    have hd := (barrier_dried h.on h.inv.coh hb).2
    refine ⟨⟨h.inv.dried h.on hb, hd.on.trans h.on⟩, ?_, hb⟩
    funext k'
    show get k' (barrierS S).2.seen = get k' S.seen
    rw [hd.seen]
theorem deed_ok {U : List K4} {S : Str} {k : K4} {d : Dd} (h : Live U S) (hU : UOK U) (hk : k ∈ U) (hd : cowD d) (h0 : (stepE S (.deed k d)).1 = 0) :
    Live U (stepE S (.deed k d)).2 ∧ ∀ k', get k' (stepE S (.deed k d)).2.seen = if k' = k then stepD (get k S.seen) d else get k' S.seen := by
  obtain ⟨h1, h2, _⟩ := step_ok h hU (s := .deed k d) ⟨hk, hd⟩ h0
  exact ⟨h1, fun k' => congrFun h2 k'⟩
theorem exec_ok {U : List K4} (hU : UOK U) : ∀ {l : List DStep} {S : Str}, Live U S → (∀ s ∈ l, stepIn U s) → (execS l S).1 = 0 → Live U (execS l S).2 ∧ viewOf (execS l S).2 = viewExec l (viewOf S)
  | [], _, h, _, _ => ⟨h, rfl⟩
  | s :: l, S, h, hs, h0 => by
    have e : execS (s :: l) S = thenE (stepE S s) (execS l) := rfl
    rw [e] at h0 ⊢
    unfold thenE at h0 ⊢
    by_cases h1 : (stepE S s).1 = 0
    · rw [if_pos h1] at h0 ⊢
      obtain ⟨h2, h3, _⟩ := step_ok h hU (hs s (List.mem_cons_self ..)) h1
      obtain ⟨h4, h5⟩ := exec_ok hU h2 (fun t ht => hs t (List.mem_cons_of_mem _ ht)) h0
      exact ⟨h4, by rw [h5, h3]; rfl⟩
    · rw [if_neg h1] at h0
      exact absurd h0 h1
theorem step_armed {S : Str} (s : DStep) (ha : S.armed = false) (hon : S.on = true) : (stepE S s).2.armed = false ∧ (stepE S s).2.on = true := by
  have hb : burnsS S = (false, S) := by simp [burnsS, ha]
  cases s with
  | deed k d => unfold stepE doS; rw [hb]; exact ⟨ha, hon⟩
  | bar => unfold stepE barrierS; rw [if_neg (by simp [hon]), hb]; exact ⟨ha, hon⟩
theorem exec_calm {U : List K4} (hU : UOK U) : ∀ {l : List DStep} {S : Str}, Live U S → S.armed = false → (∀ s ∈ l, stepIn U s) → (execS l S).1 = 0 ∧ (execS l S).2.armed = false
  | [], _, _, ha, _ => ⟨rfl, ha⟩
  | s :: l, S, h, ha, hs => by
    have hb : (burnsS S).1 = false := by simp [burnsS, ha]
    have h1 := step_calm s h.on h.inv.coh hb
    have e : execS (s :: l) S = thenE (stepE S s) (execS l) := rfl
    rw [e]
    unfold thenE
    rw [if_pos h1]
    exact exec_calm hU (step_ok h hU (hs s (List.mem_cons_self ..)) h1).1 (step_armed s ha h.on).1 fun t ht => hs t (List.mem_cons_of_mem _ ht)
/-- What each of the store's calls is. -/
theorem Live.why {U : List K4} {S : Str} (h : Live U S) {k : K4} (hk : k.ok = true) : whyS S k = if (get k S.seen).isSome then 0 else 4 := by
  unfold whyS mayS
  rw [h.on, hk]
  rfl
def goneD : Dd := ⟨3, 0, [], ⟨#[]⟩⟩
theorem Live.drop {U : List K4} {S : Str} (h : Live U S) {k : K4} (hk : k.ok = true) (hs : (get k S.seen).isSome = true) : dropS S k = stepE S (.deed k goneD) := by
  unfold dropS
  rw [h.why hk, if_pos (by rw [hs]; rfl)]
  rfl
theorem Live.make {U : List K4} {S : Str} (h : Live U S) (hU : UOK U) {k : K4} (hk : k.ok = true) (hs : get k S.seen = none) : makeS S k = stepE S (.deed k madeD) := by
  have hw : whyS S k = 4 := by rw [h.why hk, hs]; rfl
  have := h.inv.count
  have := hU.few
  unfold makeS
  rw [hw, if_neg (by decide), if_neg (by simp), if_neg (by omega)]
  rfl
theorem Live.write {U : List K4} {S : Str} (h : Live U S) (hU : UOK U) {k : K4} {t : TS} (hk : k.ok = true) (hs : get k S.seen = some t) {off : Int} {p : List Int} (h0 : 0 ≤ off) (h1 : off + p.length ≤ 64) : writeS S k off p = stepE S (.deed k (wroteD off p)) := by
  have hw : whyS S k = 0 := by rw [h.why hk, hs]; rfl
  have hr := h.inv.roomy hU
  have hf := h.inv.few hU
  refine (writeS_ok hw hs ?_).trans rfl
  unfold writeWhy
  rw [if_neg (by omega), if_neg (by rw [hr]; intro q; have := q.2; omega)]
theorem Live.append {U : List K4} {S : Str} (h : Live U S) (hU : UOK U) {k : K4} {t : TS} (hk : k.ok = true) (hs : get k S.seen = some t) {p : List Int} (h1 : t.b.length + p.length ≤ 64) : appendS S k p = stepE S (.deed k (wroteD t.b.length p)) := by
  unfold appendS
  rw [hs]
  exact h.write hU hk hs (by omega) (by omega)
theorem Live.trim {U : List K4} {S : Str} (h : Live U S) {k : K4} {t : TS} (hk : k.ok = true) (hs : get k S.seen = some t) (n : Int) : trimS S k n = stepE S (.deed k (cutD t n)) := by
  unfold trimS
  rw [hs]
  simp only
  rw [if_pos (show whyS S k = 0 by rw [h.why hk, hs]; rfl)]
  rfl
theorem Live.set {U : List K4} {S : Str} (h : Live U S) (hU : UOK U) {k : K4} {t : TS} (hk : k.ok = true) (hs : get k S.seen = some t) (v : Int) : setS S k nmW [v] = stepE S (.deed k (setD nmW [v])) := by
  have hw : whyS S k = 0 := by rw [h.why hk, hs]; rfl
  have hr := h.inv.roomy hU
  have hf := h.inv.few hU
  refine (setS_ok hw hs ?_).trans rfl
  have hsz : nmW.size = 1 := rfl
  unfold setWhy
  rw [hsz, if_neg (by simp), if_neg ?_]
  unfold growS
  rw [hr, hsz, if_neg (by simp)]
  cases get nmW t.attr with
  | none => simp; omega
  | some old => simp; omega
theorem offE_01 (b : Bool) : offE b = 0 ∨ offE b = 7 := by cases b <;> simp [offE]
theorem drops_no {r : Int × Str} (k : K4) (h : r.1 ≠ 6) : dropsE r k = r := by unfold dropsE; rw [if_neg h]
/-- What is read of an object that is there. -/
theorem Live.all {U : List K4} {S : Str} (h : Live U S) {k : K4} {t : TS} (hk : k.ok = true) (hs : get k S.seen = some t) : allS S k = t.b ∧ lenAt S k = t.b.length := by
  have hw : whyS S k = 0 := by rw [h.why hk, hs]; rfl
  have hl : lenAt S k = t.b.length := by unfold lenAt; rw [if_pos hw, hs]
  refine ⟨?_, hl⟩
  unfold allS readS
  rw [if_pos hw, hs, hl]
  simp only
  rw [if_neg (by omega)]
  simp
theorem Live.attr {U : List K4} {S : Str} (h : Live U S) {k : K4} {t : TS} (hk : k.ok = true) (hs : get k S.seen = some t) : attrS S k nmW = match get nmW t.attr with
    | none => ([], 4)
    | some v => (v, 0) := by
  have hw : whyS S k = 0 := by rw [h.why hk, hs]; rfl
  unfold attrS
  rw [if_pos hw, hs]
  rfl
theorem Live.attr_none {U : List K4} {S : Str} (h : Live U S) {k : K4} (hs : get k S.seen = none) : (attrS S k nmW).2 ≠ 0 ∧ (attrS S k nmW).1 = [] := by
  have hw : whyS S k ≠ 0 := by
    unfold whyS mayS
    rw [h.on, hs]
    cases k.ok <;> simp
  unfold attrS
  rw [if_neg hw]
  exact ⟨hw, rfl⟩
/-- What an object of an image is, by its number and snapshot. -/
abbrev CV := Int → Int → Option TS
def cview (S : Str) (img : Int) : CV := fun num n => get (dK img num n) S.seen
def wholeB (o : Option TS) : Bool := match o with
  | some t => (get nmW t.attr).isSome
  | none => false
def copiesV (V : CV) (ks : List K4) (num : Int) : List Int := (ks.filter fun k => decide (k.num = num ∧ k.snap ≠ 0) && wholeB (V k.num k.snap)).map (·.snap)
def saveP (V : CV) (img num newest : Int) : List DStep :=
  (if (V num newest).isSome then [.deed (dK img num newest) goneD] else []) ++ (.deed (dK img num newest) madeD ::
    ((match V num 0 with | some t => [.deed (dK img num newest) (wroteD 0 t.b)] | none => []) ++
      [.deed (dK img num newest) (setD nmW [if (V num 0).isSome then 1 else 2]), .bar]))
theorem save_tail {U : List K4} {S : Str} (h : Live U S) (hU : UOK U) {k head : K4} (hk : k ∈ U) (hh : head.ok = true) (hne : head ≠ k) (hs : get k S.seen = none) :
    (thenE (makeS S k) fun S2 => saveD S2 k head) = execS (.deed k madeD :: ((match get head S.seen with | some t => [.deed k (wroteD 0 t.b)] | none => []) ++ [.deed k (setD nmW [if (get head S.seen).isSome then 1 else 2]), .bar])) S := by
  have hok := (hU.all k hk).2
  rw [h.make hU hok hs]
  show _ = thenE (stepE S (.deed k madeD)) _
  refine thenE_congr fun h0 => ?_
  obtain ⟨h2, hv2⟩ := deed_ok h hU hk (.inl rfl) h0
  obtain ⟨S2, hS2⟩ : ∃ x, (stepE S (.deed k madeD)).2 = x := ⟨_, rfl⟩
  rw [hS2] at h2 hv2 ⊢
  have hk2 : get k S2.seen = some ⟨[], []⟩ := by
    rw [hv2, if_pos rfl]
    rfl
  have hh2 : get head S2.seen = get head S.seen := by
    rw [hv2, if_neg hne]
  -- the last two deeds
  have fin : ∀ (S3 : Str) (st : Int) (t3 : TS), Live U S3 → get k S3.seen = some t3 → saveC S3 k st = execS [.deed k (setD nmW [st]), .bar] S3 := fun S3 st t3 h3 hk3 => by
    unfold saveC
    rw [h3.set hU hok hk3]
    show _ = thenE (stepE S3 (.deed k (setD nmW [st]))) (execS [.bar])
    unfold thenE
    split
    · exact (execS_one .bar _).symm
    · rename_i hx
      have : (stepE S3 (.deed k (setD nmW [st]))).1 ≠ 6 := by
        rcases offE_01 (doS S3 k (setD nmW [st])).1 with e | e
        · exact absurd e hx
        · show offE _ ≠ 6; rw [e]; decide
      exact drops_no k this
  unfold saveD saveB stateS
  cases hg : get head S.seen with
  | none =>
    have hw : whyS S2 head ≠ 0 := by rw [h2.why hh, hh2, hg]; simp
    rw [if_neg hw, if_neg hw]
    simp only [if_true, List.nil_append, Option.isSome_none, Bool.false_eq_true, if_false]
    exact fin S2 2 _ h2 hk2
  | some t =>
    have hgs : get head S2.seen = some t := hh2.trans hg
    have hw : whyS S2 head = 0 := by rw [h2.why hh, hgs]; rfl
    have hal := (h2.all hh hgs).1
    have hcT : cowT t := h.inv.getT head t hg
    rw [if_pos hw, if_pos hw, hal, h2.append hU hok hk2 (by simpa using hcT.1)]
    simp only [Option.isSome_some, if_true, List.cons_append, List.nil_append, List.length_nil]
    show _ = thenE (stepE S2 (.deed k (wroteD 0 t.b))) _
    have hin : stepIn U (.deed k (wroteD 0 t.b)) := ⟨hk, .inr (.inr (.inl ⟨rfl, Int.le_refl _, by show (0 : Int) + t.b.length ≤ 64; have := hcT.1; omega⟩))⟩
    show (if (stepE S2 (.deed k (wroteD 0 t.b))).1 = 0 then saveC (stepE S2 (.deed k (wroteD 0 t.b))).2 k 1 else dropsE (stepE S2 (.deed k (wroteD 0 t.b))) k) = _
    unfold thenE
    split
    · rename_i hx
      obtain ⟨h3, hv3⟩ := deed_ok h2 hU hin.1 hin.2 hx
      have hk3 : ∃ t3, get k (stepE S2 (.deed k (wroteD 0 t.b))).2.seen = some t3 := by
        rw [hv3, if_pos rfl, hk2]
        exact ⟨_, rfl⟩
      obtain ⟨t3, hk3⟩ := hk3
      exact fin _ 1 t3 h3 hk3
    · rename_i hx
      refine drops_no k ?_
      rcases offE_01 (doS S2 k (wroteD 0 t.b)).1 with e | e
      · exact absurd e hx
      · show offE _ ≠ 6; rw [e]; decide
theorem dK_inj {img num n num' n' : Int} : dK img num n = dK img num' n' ↔ num = num' ∧ n = n' := by simp [dK]
theorem save_plan {U : List K4} {S : Str} (h : Live U S) (hU : UOK U) {img num newest : Int} (hk : dK img num newest ∈ U) (hh : (dK img num 0).ok = true) (hn : newest ≠ 0) :
    saveS S img num newest = execS (saveP (cview S img) img num newest) S := by
  have hok := (hU.all _ hk).2
  have hne : dK img num 0 ≠ dK img num newest := fun e => hn (dK_inj.1 e).2.symm
  unfold saveS saveP saveA
  cases hg : get (dK img num newest) S.seen with
  | none =>
    have hw : whyS S (dK img num newest) ≠ 0 := by rw [h.why hok, hg]; simp
    rw [if_neg hw, show cview S img num newest = none from hg, show cview S img num 0 = get (dK img num 0) S.seen from rfl]
    simp only [Option.isSome_none, Bool.false_eq_true, if_false, List.nil_append]
    exact save_tail h hU hk hh hne hg
  | some t =>
    have hw : whyS S (dK img num newest) = 0 := by rw [h.why hok, hg]; rfl
    rw [if_pos hw, h.drop hok (by rw [hg]; rfl), show cview S img num newest = some t from hg, show cview S img num 0 = get (dK img num 0) S.seen from rfl]
    simp only [Option.isSome_some, if_true, List.cons_append, List.nil_append]
    show _ = thenE (stepE S (.deed (dK img num newest) goneD)) _
    refine thenE_congr fun h0 => ?_
    obtain ⟨h2, hv2⟩ := deed_ok h hU hk (.inr (.inl rfl)) h0
    have hk2 : get (dK img num newest) (stepE S (.deed (dK img num newest) goneD)).2.seen = none := by
      rw [hv2, if_pos rfl]
      simp [stepD, goneD]
    have hh2 : get (dK img num 0) (stepE S (.deed (dK img num newest) goneD)).2.seen = get (dK img num 0) S.seen := by
      rw [hv2, if_neg hne]
    have := save_tail h2 hU hk hh hne hk2
    rw [hh2] at this
    exact this
/-- The copies, as they are seen. -/
theorem grp_key {S : Str} (h : KeysOK S) {img : Int} {k : K4} (hk : k ∈ keysAt S ⟨4, img⟩) : k = dK img k.num k.snap ∧ (get k S.seen).isSome = true := by
  obtain ⟨h1, h2⟩ := (h.mem _ _).1 hk
  refine ⟨?_, h2⟩
  obtain ⟨a, b, c, d⟩ := k
  simp only [K4.grp, G2.mk.injEq] at h1
  simp [dK, h1.1, h1.2]
theorem whole_attr {U : List K4} {S : Str} (h : Live U S) (hU : UOK U) (k : K4) : ((attrS S k nmW).2 = 0 ↔ wholeB (get k S.seen) = true) ∧ (attrS S k nmW).1 = (match get k S.seen with | some t => (get nmW t.attr).getD [] | none => []) := by
  cases hg : get k S.seen with
  | none =>
    obtain ⟨h1, h2⟩ := h.attr_none hg
    exact ⟨⟨fun e => absurd e h1, fun e => by simp [wholeB] at e⟩, h2⟩
  | some t =>
    rw [h.attr (hU.all _ (h.inv.getU hg)).2 hg]
    unfold wholeB
    cases hx : get nmW t.attr with
    | none => simp [hx]
    | some v => simp [hx]
theorem copies_view {U : List K4} {S : Str} (h : Live U S) (hU : UOK U) (img num : Int) : copiesS S img num = copiesV (cview S img) (keysAt S ⟨4, img⟩) num := by
  unfold copiesS copiesL copiesV
  have hk : keysTold S ⟨4, img⟩ = keysAt S ⟨4, img⟩ := by unfold keysTold; rw [if_pos h.on]
  rw [hk]
  congr 1
  refine List.filter_congr fun k hk => ?_
  obtain ⟨h1, _⟩ := grp_key h.inv.keys hk
  unfold copyB
  congr 1
  rw [Bool.eq_iff_iff, decide_eq_true_eq, (whole_attr h hU k).1, show cview S img k.num k.snap = get (dK img k.num k.snap) S.seen from rfl, ← h1]
def Inc (l : List Int) : Prop := l.Pairwise (· < ·)
theorem inc_eq : ∀ {a b : List Int}, Inc a → Inc b → (∀ x, x ∈ a ↔ x ∈ b) → a = b
  | [], b, _, _, h => by
    cases b with
    | nil => rfl
    | cons y b => exact absurd ((h y).2 (List.mem_cons_self ..)) (by simp)
  | x :: a, [], _, _, h => absurd ((h x).1 (List.mem_cons_self ..)) (by simp)
  | x :: a, y :: b, ha, hb, h => by
    have ha' := List.pairwise_cons.1 ha
    have hb' := List.pairwise_cons.1 hb
    have e : x = y := by
      rcases List.mem_cons.1 ((h x).1 (List.mem_cons_self ..)) with e | e
      · exact e
      · rcases List.mem_cons.1 ((h y).2 (List.mem_cons_self ..)) with f | f
        · exact f.symm
        · have := hb'.1 _ e
          have := ha'.1 _ f
          omega
    subst e
    rw [inc_eq ha'.2 hb'.2 fun z => ?_]
    constructor
    · intro hz
      rcases List.mem_cons.1 ((h z).1 (List.mem_cons_of_mem _ hz)) with e | e
      · subst e; exact absurd (ha'.1 _ hz) (by omega)
      · exact e
    · intro hz
      rcases List.mem_cons.1 ((h z).2 (List.mem_cons_of_mem _ hz)) with e | e
      · subst e; exact absurd (hb'.1 _ hz) (by omega)
      · exact e
theorem copies_mem {S : Str} (h : KeysOK S) (img num n : Int) : n ∈ copiesV (cview S img) (keysAt S ⟨4, img⟩) num ↔ n ≠ 0 ∧ wholeB (cview S img num n) = true := by
  unfold copiesV
  constructor
  · intro hn
    obtain ⟨k, hk, rfl⟩ := List.mem_map.1 hn
    obtain ⟨_, h2⟩ := List.mem_filter.1 hk
    simp only [Bool.and_eq_true, decide_eq_true_eq] at h2
    exact ⟨h2.1.2, by rw [← h2.1.1]; exact h2.2⟩
  · rintro ⟨h1, h2⟩
    refine List.mem_map.2 ⟨dK img num n, List.mem_filter.2 ⟨(h.mem _ _).2 ⟨rfl, ?_⟩, ?_⟩, rfl⟩
    · unfold wholeB cview at h2
      cases hg : get (dK img num n) S.seen with
      | none => rw [hg] at h2; simp at h2
      | some t => rfl
    · simp only [Bool.and_eq_true, decide_eq_true_eq]
      exact ⟨⟨rfl, h1⟩, h2⟩
theorem copies_inc {S : Str} (h : KeysOK S) (V : CV) (img num : Int) : Inc (copiesV V (keysAt S ⟨4, img⟩) num) := by
  unfold copiesV Inc
  rw [List.pairwise_map]
  have h1 : (keysAt S ⟨4, img⟩).Pairwise fun a b => a.lt b = true := h.rise _
  have h2 : ((keysAt S ⟨4, img⟩).filter fun k => decide (k.num = num ∧ k.snap ≠ 0) && wholeB (V k.num k.snap)).Pairwise fun a b => a.lt b = true := h1.filter _
  refine List.Pairwise.imp_of_mem (fun {a b} ha hb hab => ?_) h2
  obtain ⟨ha1, ha2⟩ := List.mem_filter.1 ha
  obtain ⟨hb1, hb2⟩ := List.mem_filter.1 hb
  simp only [Bool.and_eq_true, decide_eq_true_eq] at ha2 hb2
  have e1 := (grp_key h ha1).1
  have e2 := (grp_key h hb1).1
  rw [e1, e2] at hab
  simp only [dK, K4.lt, decide_eq_true_eq, ha2.1.1, hb2.1.1] at hab
  omega
def coveredV (l : List Int) (newest : Int) : Bool := match l.getLast? with
  | some n => decide (newest ≤ n)
  | none => false
def aheadP (V : CV) (ks : List K4) (img num newest : Int) : List DStep := if newest = 0 ∨ coveredV (copiesV V ks num) newest = true then [] else saveP V img num newest
theorem ahead_plan {U : List K4} {S : Str} (h : Live U S) (hU : UOK U) {img num newest : Int} (hk : newest ≠ 0 → dK img num newest ∈ U) (hh : (dK img num 0).ok = true) :
    aheadS S img num newest = execS (aheadP (cview S img) (keysAt S ⟨4, img⟩) img num newest) S := by
  unfold aheadS aheadP
  have e : coveredB S img num newest = coveredV (copiesV (cview S img) (keysAt S ⟨4, img⟩) num) newest := by
    unfold coveredB coveredV
    rw [copies_view h hU]
    rfl
  rw [e]
  split
  · rfl
  · rename_i hc
    have hn : newest ≠ 0 := fun q => hc (.inl q)
    exact save_plan h hU (hk hn) hh hn
/-- What an object is at a snapshot; none: it isn't there. -/
def bodyV (o : Option TS) : Option (List Int) := match o with
  | some t => if get nmW t.attr = some [1] then some t.b else none
  | none => none
def valO (V : CV) (ks : List K4) (num snap : Int) : Option (List Int) :=
  match (if 0 < snap then (copiesV V ks num).find? (fun n => decide (snap ≤ n)) else none) with
  | some n => bodyV (V num n)
  | none => (V num 0).map (·.b)
theorem at_view {U : List K4} {S : Str} (h : Live U S) (hU : UOK U) {img num snap : Int} (hh : (dK img num 0).ok = true) :
    (atS S img num snap).2 = (valO (cview S img) (keysAt S ⟨4, img⟩) num snap).isSome ∧ ((atS S img num snap).2 = true → allS S (atS S img num snap).1 = (valO (cview S img) (keysAt S ⟨4, img⟩) num snap).getD [] ∧ lenAt S (atS S img num snap).1 = ((valO (cview S img) (keysAt S ⟨4, img⟩) num snap).getD []).length) := by
  unfold atS valO
  rw [copies_view h hU]
  cases hf : (if 0 < snap then (copiesV (cview S img) (keysAt S ⟨4, img⟩) num).find? (fun n => decide (snap ≤ n)) else none) with
  | none =>
    simp only
    rw [h.why hh]
    cases hg : get (dK img num 0) S.seen with
    | none => simp [show cview S img num 0 = none from hg]
    | some t =>
      have := h.all hh hg
      simp [show cview S img num 0 = some t from hg, this]
  | some n =>
    simp only
    have hn : n ∈ copiesV (cview S img) (keysAt S ⟨4, img⟩) num := by
      split at hf
      · exact List.mem_of_find?_eq_some hf
      · cases hf
    obtain ⟨_, hw⟩ := (copies_mem h.inv.keys img num n).1 hn
    rw [(whole_attr h hU (dK img num n)).2]
    cases hg : get (dK img num n) S.seen with
    | none => rw [show cview S img num n = none from hg] at hw; simp [wholeB] at hw
    | some t =>
      rw [show cview S img num n = some t from hg] at hw ⊢
      have hal := h.all (hU.all _ (h.inv.getU hg)).2 hg
      simp only [wholeB] at hw
      unfold bodyV
      simp only
      obtain ⟨v, ha⟩ := Option.isSome_iff_exists.1 hw
      by_cases hv : v = [1]
      · simp [ha, hv, hal]
      · simp [ha, hv]
end Go.Proofs.YtbepmbcbcklmlaaGreat
