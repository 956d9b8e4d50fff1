/- cow's changes with numbers that may be, on a store with room enough and no fuse: each is done. No program in sight. -/
import Derived.Test.YtbepmbcbcklmlaaGreatCowOurs
set_option linter.unusedSimpArgs false
set_option linter.unusedVariables false
set_option linter.unusedSectionVars false
namespace Go.Proofs.YtbepmbcbcklmlaaGreat
open Go.RowKit
def U17 : List K4 := (List.range 128).map fun i => dK ((i / 64 : Nat) : Int) ((i / 16 % 4 : Nat) : Int) ((i % 16 : Nat) : Int)
theorem U17_mem {img num n : Int} (h1 : 0 ≤ img ∧ img ≤ 1) (h2 : 0 ≤ num ∧ num ≤ 3) (h3 : 0 ≤ n ∧ n ≤ 15) : dK img num n ∈ U17 := by
  refine List.mem_map.2 ⟨(img * 64 + num * 16 + n).toNat, List.mem_range.2 (by omega), ?_⟩
  unfold dK
  simp only [K4.mk.injEq, true_and]
  omega
theorem U17_ok : UOK U17 := by
  refine ⟨fun k hk => ?_, by simp [U17]⟩
  obtain ⟨i, hi, rfl⟩ := List.mem_map.1 hk
  have := List.mem_range.1 hi
  refine ⟨rfl, ?_⟩
  unfold dK K4.ok
  simp only [decide_eq_true_eq]
  omega
theorem mild_fine {img : Int} (hi : 0 ≤ img ∧ img ≤ 1) (a : A17) : Fine U17 img a.mild := by
  have h1 := mildOff_rng a
  have h2 := mildN_rng a
  have hl : (a.p.take 64).length = min a.p.length 64 := by rw [List.length_take, Nat.min_comm]
  refine ⟨?_, ?_, fun _ => ?_, ⟨fun e => ?_, fun e => ?_, fun e => ?_, fun e => ?_⟩, ?_, fun _ => ?_⟩
  · show objB img (a.num % 4) = true; unfold objB; rw [decide_eq_true_eq]; omega
  · show snapB (a.newest % 16) = true; unfold snapB; rw [decide_eq_true_eq]; omega
  · show snapB (a.snap % 16) = true; unfold snapB; rw [decide_eq_true_eq]; omega
  · show withinB (mildOff a) ((a.p.take 64).length : Nat) = true; unfold withinB; rw [decide_eq_true_eq, hl]; omega
  · have := h2.1 e; show withinB (mildOff a) (mildN a) = true; unfold withinB; rw [decide_eq_true_eq]; omega
  · have := h2.2.1 e; show withinB 0 (mildN a) = true; unfold withinB; rw [decide_eq_true_eq]; omega
  · show withinB 0 ((a.p.take 64).length : Nat) = true; unfold withinB; rw [decide_eq_true_eq, hl]; omega
  · exact U17_mem hi (by show 0 ≤ a.num % 4 ∧ a.num % 4 ≤ 3; omega) (by omega)
  · exact U17_mem hi (by show 0 ≤ a.num % 4 ∧ a.num % 4 ≤ 3; omega) (by show 0 ≤ a.newest % 16 ∧ a.newest % 16 ≤ 15; omega)
theorem turn_in {U : List K4} {k : K4} (hk : k ∈ U) {o : Option TS} {p : List Int} (hp : p.length ≤ 64) : ∀ s ∈ turnP k o p, stepIn U s := by
  have hw : cowD (wroteD 0 p) := .inr (.inr (.inl ⟨rfl, Int.le_refl _, by show (0 : Int) + p.length ≤ 64; omega⟩))
  intro s hs
  unfold turnP at hs
  split at hs
  · split at hs
    · simp at hs; subst hs; exact ⟨hk, .inr (.inl rfl)⟩
    · cases hs
  · split at hs
    · simp at hs
      rcases hs with rfl | rfl
      · exact ⟨hk, .inl rfl⟩
      · exact ⟨hk, hw⟩
    · split at hs
      · simp at hs
        rcases hs with rfl | rfl
        · exact ⟨hk, .inr (.inr (.inr (.inl rfl)))⟩
        · exact ⟨hk, hw⟩
      · simp at hs; subst hs; exact ⟨hk, hw⟩
theorem tidy_in {U : List K4} (V : CV) (img : Int) (marks : List Int) : ∀ (ks : List K4) (last below : Int), (∀ k ∈ ks, dK img k.num k.snap ∈ U) → ∀ s ∈ tidyP V img marks ks last below, stepIn U s
  | [], _, _, _ => fun s hs => by cases hs
  | k :: ks, last, below, h => by
    intro s hs
    unfold tidyP at hs
    simp only at hs
    generalize (if k.num = last then below else 0) = bl at hs
    have hr := fun k' hk' => h k' (List.mem_cons_of_mem _ hk')
    split at hs
    · exact tidy_in V img marks ks _ _ hr s hs
    · split at hs
      · exact tidy_in V img marks ks _ _ hr s hs
      · rcases List.mem_cons.1 hs with rfl | hs
        · exact ⟨h k (List.mem_cons_self ..), .inr (.inl rfl)⟩
        · exact tidy_in V img marks ks _ _ hr s hs
theorem ours_in {U : List K4} {S : Str} (h : Live U S) {img : Int} {a : A17} (ha : a.what = 5 ∨ Fine U img a) : ∀ s ∈ oursP (cview S img) (keysAt S ⟨4, img⟩) img a, stepIn U s := by
  intro s hs
  unfold oursP at hs
  by_cases e5 : a.what = 5
  · rw [if_neg (by omega), if_neg (by omega), if_neg (by omega), if_neg (by omega), if_neg (by omega), if_pos e5] at hs
    refine tidy_in _ _ _ _ _ _ (fun k hk => ?_) s hs
    obtain ⟨h1, h2⟩ := grp_key h.inv.keys hk
    obtain ⟨t, ht⟩ := Option.isSome_iff_exists.1 h2
    rw [← h1]
    exact h.inv.getU ht
  have hf := ha.resolve_left e5
  have hah := ahead_in h (img := img) (num := a.num) hf.copy (keysAt S ⟨4, img⟩)
  split at hs
  · rename_i e0
    have hw := hf.span.1 e0
    unfold withinB at hw
    rw [decide_eq_true_eq] at hw
    have hd : cowD (wroteD a.off a.p) := .inr (.inr (.inl ⟨rfl, hw.1, by show a.off + a.p.length ≤ 64; omega⟩))
    split at hs
    · cases hs
    · rcases List.mem_append.1 hs with q | q
      · exact hah s q
      · unfold layP at q
        split at q
        · simp at q; subst q; exact ⟨hf.head, hd⟩
        · simp at q
          rcases q with rfl | rfl
          · exact ⟨hf.head, .inl rfl⟩
          · exact ⟨hf.head, hd⟩
  split at hs
  · rename_i e1
    have hw := hf.span.2.1 e1
    unfold withinB at hw
    rw [decide_eq_true_eq] at hw
    split at hs
    · cases hs
    · rename_i t ht
      rcases List.mem_append.1 hs with q | q
      · exact hah s q
      · split at q
        · cases q
        · simp at q
          subst q
          refine ⟨hf.head, .inr (.inr (.inl ⟨rfl, hw.1, ?_⟩))⟩
          show a.off + ((List.replicate (min a.n (t.b.length - a.off)).toNat (0 : Int)).length : Int) ≤ 64
          rw [List.length_replicate]
          omega
  split at hs
  · split at hs
    · cases hs
    · split at hs
      · cases hs
      · rcases List.mem_append.1 hs with q | q
        · exact hah s q
        · simp at q
          subst q
          split
          · exact ⟨hf.head, .inr (.inl rfl)⟩
          · exact ⟨hf.head, .inr (.inr (.inr (.inl rfl)))⟩
  split at hs
  · rename_i e3
    have hw := hf.span.2.2.2 e3
    unfold withinB at hw
    rw [decide_eq_true_eq] at hw
    rcases List.mem_append.1 hs with q | q
    · exact hah s q
    · exact turn_in hf.head (by omega) s q
  split at hs
  · rcases List.mem_append.1 hs with q | q
    · exact hah s q
    · exact turn_in hf.head (val_small h _ _ _) s q
  · cases hs
/-- A store with power, without a fuse, of few keys. -/
structure Calm17 (S : Str) : Prop where
  live : Live U17 S
  calm : S.armed = false
theorem Calm17.new : Calm17 (newS 1048576) := ⟨⟨CInv.new.wider (fun k hk => by cases hk), rfl⟩, rfl⟩
theorem Calm17.done {S : Str} (h : Calm17 S) {img : Int} (hi : 0 ≤ img ∧ img ≤ 1) {a : A17} (ha : a.what = 5 ∨ Fine U17 img a) :
    (oursS S img a).1 = 0 ∧ Calm17 (oursS S img a).2 ∧ viewOf (oursS S img a).2 = viewExec (oursP (cview S img) (keysAt S ⟨4, img⟩) img a) (viewOf S) := by
  have hin := ours_in h.live ha
  rw [ours_plan h.live U17_ok (by omega) ha]
  obtain ⟨h1, h2⟩ := exec_calm U17_ok h.live h.calm hin
  obtain ⟨h3, h4⟩ := exec_ok U17_ok h.live hin h1
  exact ⟨h1, ⟨h3, h2⟩, h4⟩
theorem Calm17.keys {S : Str} (h : Calm17 S) (img : Int) : (keysTold S ⟨4, img⟩).length ≤ 128 := by
  unfold keysTold
  rw [if_pos h.live.on]
  have hn : (keysAt S ⟨4, img⟩).Nodup := List.Pairwise.imp (fun {a b} hab e => by subst e; rw [lt_irrefl'] at hab; cases hab) (h.live.inv.keys.rise ⟨4, img⟩)
  have := nodup_sub hn fun k hk => by
    obtain ⟨t, ht⟩ := Option.isSome_iff_exists.1 (grp_key h.live.inv.keys hk).2
    exact h.live.inv.getU ht
  simpa [U17] using this
/-- Steps that are of one image. -/
def stepImg (img : Int) : DStep → Prop
  | .deed k _ => k.img = img
  | .bar => True
theorem viewExec_other {img : Int} : ∀ {l : List DStep} {V : K4 → Option TS}, (∀ s ∈ l, stepImg img s) → ∀ k, k.img ≠ img → viewExec l V k = V k
  | [], _, _, _, _ => rfl
  | s :: l, V, h, k, hk => by
    have h1 := viewExec_other (V := viewStep s V) (fun t ht => h t (List.mem_cons_of_mem _ ht)) k hk
    have h2 := h s (List.mem_cons_self ..)
    show viewExec l (viewStep s V) k = V k
    rw [h1]
    cases s with
    | deed k' d =>
      have h2 : k'.img = img := h2
      show (if k = k' then _ else V k) = V k
      rw [if_neg (show ¬ k = k' from fun e => hk (by rw [e]; exact h2))]
    | bar => rfl
theorem viewExec_same {img : Int} : ∀ {l : List DStep} {V W : K4 → Option TS}, (∀ s ∈ l, stepImg img s) → (∀ k, k.img = img → V k = W k) → ∀ k, k.img = img → viewExec l V k = viewExec l W k
  | [], _, _, _, hV, k, hk => hV k hk
  | s :: l, V, W, h, hV, k, hk => by
    refine viewExec_same (l := l) (fun t ht => h t (List.mem_cons_of_mem _ ht)) (fun k' hk' => ?_) k hk
    have h2 := h s (List.mem_cons_self ..)
    cases s with
    | deed k2 d =>
      have h2 : k2.img = img := h2
      show (if k' = k2 then stepD (V k2) d else V k') = (if k' = k2 then stepD (W k2) d else W k')
      rw [hV k2 h2, hV k' hk']
    | bar => exact hV k' hk'
theorem save_img (V : CV) (img num newest : Int) : ∀ s ∈ saveP V img num newest, stepImg img s := by
  intro s hs
  unfold saveP at hs
  rcases List.mem_append.1 hs with q | q
  · split at q
    · simp at q; subst q; rfl
    · cases q
  · rcases List.mem_cons.1 q with rfl | q
    · rfl
    · rcases List.mem_append.1 q with q | q
      · split at q
        · simp at q; subst q; rfl
        · cases q
      · rcases List.mem_cons.1 q with rfl | q
        · rfl
        · simp at q; subst q; trivial
theorem ahead_img (V : CV) (ks : List K4) (img num newest : Int) : ∀ s ∈ aheadP V ks img num newest, stepImg img s := by
  unfold aheadP
  split
  · intro s hs; cases hs
  · exact save_img V img num newest
theorem turn_img {img : Int} {k : K4} (hk : k.img = img) (o : Option TS) (p : List Int) : ∀ s ∈ turnP k o p, stepImg img s := by
  intro s hs
  unfold turnP at hs
  split at hs
  · split at hs
    · simp at hs; subst hs; exact hk
    · cases hs
  · split at hs
    · simp at hs
      rcases hs with rfl | rfl <;> exact hk
    · split at hs
      · simp at hs
        rcases hs with rfl | rfl <;> exact hk
      · simp at hs; subst hs; exact hk
theorem tidy_img (V : CV) (img : Int) (marks : List Int) : ∀ (ks : List K4) (last below : Int), ∀ s ∈ tidyP V img marks ks last below, stepImg img s
  | [], _, _ => fun s hs => by cases hs
  | k :: ks, last, below => by
    intro s hs
    unfold tidyP at hs
    simp only at hs
    generalize (if k.num = last then below else 0) = bl at hs
    split at hs
    · exact tidy_img V img marks ks _ _ s hs
    · split at hs
      · exact tidy_img V img marks ks _ _ s hs
      · rcases List.mem_cons.1 hs with rfl | hs
        · rfl
        · exact tidy_img V img marks ks _ _ s hs
theorem ours_img (V : CV) (ks : List K4) (img : Int) (a : A17) : ∀ s ∈ oursP V ks img a, stepImg img s := by
  intro s hs
  have hah := ahead_img V ks img a.num a.newest
  unfold oursP at hs
  split at hs
  · split at hs
    · cases hs
    · rcases List.mem_append.1 hs with q | q
      · exact hah s q
      · unfold layP at q
        split at q
        · simp at q; subst q; rfl
        · simp at q
          rcases q with rfl | rfl <;> rfl
  split at hs
  · split at hs
    · cases hs
    · rcases List.mem_append.1 hs with q | q
      · exact hah s q
      · split at q
        · cases q
        · simp at q; subst q; rfl
  split at hs
  · split at hs
    · cases hs
    · split at hs
      · cases hs
      · rcases List.mem_append.1 hs with q | q
        · exact hah s q
        · simp at q; subst q; split <;> rfl
  split at hs
  · rcases List.mem_append.1 hs with q | q
    · exact hah s q
    · exact turn_img rfl _ _ s q
  split at hs
  · rcases List.mem_append.1 hs with q | q
    · exact hah s q
    · exact turn_img rfl _ _ s q
  split at hs
  · exact tidy_img V img a.ms ks _ _ s hs
  · cases hs
/-- Steps of objects of bytes. -/
def stepKind : DStep → Prop
  | .deed k _ => k.kind = 4
  | .bar => True
theorem viewExec_pair {img : Int} : ∀ {l : List DStep} {V W : K4 → Option TS}, (∀ s ∈ l, stepImg img s) → (∀ s ∈ l, stepKind s) → (∀ k : K4, k.kind = 4 → k.img = img → V k = W k) → ∀ k : K4, k.kind = 4 → k.img = img → viewExec l V k = viewExec l W k
  | [], _, _, _, _, hV, k, h4, hk => hV k h4 hk
  | s :: l, V, W, h, g, hV, k, h4, hk => by
    refine viewExec_pair (l := l) (fun t ht => h t (List.mem_cons_of_mem _ ht)) (fun t ht => g t (List.mem_cons_of_mem _ ht)) (fun k' hk4 hk' => ?_) k h4 hk
    have h2 := h s (List.mem_cons_self ..)
    have h3 := g s (List.mem_cons_self ..)
    cases s with
    | deed k2 d =>
      have h2 : k2.img = img := h2
      have h3 : k2.kind = 4 := h3
      show (if k' = k2 then stepD (V k2) d else V k') = (if k' = k2 then stepD (W k2) d else W k')
      rw [hV k2 h3 h2, hV k' hk4 hk']
    | bar => exact hV k' hk4 hk'
theorem save_kind (V : CV) (img num newest : Int) : ∀ s ∈ saveP V img num newest, stepKind s := by
  intro s hs
  unfold saveP at hs
  rcases List.mem_append.1 hs with q | q
  · split at q
    · simp at q; subst q; rfl
    · cases q
  · rcases List.mem_cons.1 q with rfl | q
    · rfl
    · rcases List.mem_append.1 q with q | q
      · split at q
        · simp at q; subst q; rfl
        · cases q
      · rcases List.mem_cons.1 q with rfl | q
        · rfl
        · simp at q; subst q; trivial
theorem ahead_kind (V : CV) (ks : List K4) (img num newest : Int) : ∀ s ∈ aheadP V ks img num newest, stepKind s := by
  unfold aheadP
  split
  · intro s hs; cases hs
  · exact save_kind V img num newest
theorem turn_kind {k : K4} (hk : k.kind = 4) (o : Option TS) (p : List Int) : ∀ s ∈ turnP k o p, stepKind s := by
  intro s hs
  unfold turnP at hs
  split at hs
  · split at hs
    · simp at hs; subst hs; exact hk
    · cases hs
  · split at hs
    · simp at hs
      rcases hs with rfl | rfl <;> exact hk
    · split at hs
      · simp at hs
        rcases hs with rfl | rfl <;> exact hk
      · simp at hs; subst hs; exact hk
theorem tidy_kind (V : CV) (img : Int) (marks : List Int) : ∀ (ks : List K4) (last below : Int), ∀ s ∈ tidyP V img marks ks last below, stepKind s
  | [], _, _ => fun s hs => by cases hs
  | k :: ks, last, below => by
    intro s hs
    unfold tidyP at hs
    simp only at hs
    generalize (if k.num = last then below else 0) = bl at hs
    split at hs
    · exact tidy_kind V img marks ks _ _ s hs
    · split at hs
      · exact tidy_kind V img marks ks _ _ s hs
      · rcases List.mem_cons.1 hs with rfl | hs
        · rfl
        · exact tidy_kind V img marks ks _ _ s hs
theorem ours_kind (V : CV) (ks : List K4) (img : Int) (a : A17) : ∀ s ∈ oursP V ks img a, stepKind s := by
  intro s hs
  have hah := ahead_kind V ks img a.num a.newest
  unfold oursP at hs
  split at hs
  · split at hs
    · cases hs
    · rcases List.mem_append.1 hs with q | q
      · exact hah s q
      · unfold layP at q
        split at q
        · simp at q; subst q; rfl
        · simp at q
          rcases q with rfl | rfl <;> rfl
  split at hs
  · split at hs
    · cases hs
    · rcases List.mem_append.1 hs with q | q
      · exact hah s q
      · split at q
        · cases q
        · simp at q; subst q; rfl
  split at hs
  · split at hs
    · cases hs
    · split at hs
      · cases hs
      · rcases List.mem_append.1 hs with q | q
        · exact hah s q
        · simp at q; subst q; split <;> rfl
  split at hs
  · rcases List.mem_append.1 hs with q | q
    · exact hah s q
    · exact turn_kind rfl _ _ s q
  split at hs
  · rcases List.mem_append.1 hs with q | q
    · exact hah s q
    · exact turn_kind rfl _ _ s q
  split at hs
  · exact tidy_kind V img a.ms ks _ _ s hs
  · cases hs
/-- Two stores show the same of an image. -/
def SameImg (img : Int) (S T : Str) : Prop := ∀ k : K4, k.kind = 4 → k.img = img → get k S.seen = get k T.seen
theorem SameImg.view {img : Int} {S T : Str} (h : SameImg img S T) : cview S img = cview T img := by
  funext num n
  exact h _ rfl rfl
theorem keys_same {S T : Str} (hS : KeysOK S) (hT : KeysOK T) {img : Int} (h : SameImg img S T) : keysAt S ⟨4, img⟩ = keysAt T ⟨4, img⟩ := by
  have nd : ∀ {X : Str}, KeysOK X → (keysAt X ⟨4, img⟩).Nodup := fun hX => List.Pairwise.imp (fun {a b} hab e => by subst e; rw [lt_irrefl'] at hab; cases hab) (hX.rise ⟨4, img⟩)
  refine rising_eq (hS.rise _) (hT.rise _) ((List.perm_ext_iff_of_nodup (nd hS) (nd hT)).2 fun k => ?_)
  rw [hS.mem, hT.mem]
  constructor
  · rintro ⟨h1, h2⟩
    refine ⟨h1, ?_⟩
    simp only [K4.grp, G2.mk.injEq] at h1
    rw [← h k h1.1 h1.2]; exact h2
  · rintro ⟨h1, h2⟩
    refine ⟨h1, ?_⟩
    simp only [K4.grp, G2.mk.injEq] at h1
    rw [h k h1.1 h1.2]; exact h2
/-- What is read, by what is seen. -/
theorem read_view {U : List K4} {S : Str} (h : Live U S) (hU : UOK U) {img num snap off n : Int} (hm : (objB img num && snapB snap && withinB off n) = true) :
    creadS S img num snap off n = (padB ((valO (cview S img) (keysAt S ⟨4, img⟩) num snap).getD []) off.toNat n.toNat, 0) := by
  have hob : objB img num = true := by
    simp only [Bool.and_eq_true] at hm
    exact hm.1.1
  have hh : (dK img num 0).ok = true := by
    unfold objB at hob
    rw [decide_eq_true_eq] at hob
    unfold dK K4.ok
    simp only [decide_eq_true_eq]
    omega
  obtain ⟨h1, h2⟩ := at_view h hU (snap := snap) hh
  unfold creadS
  rw [hm, cmay_true h.on, if_neg (by simp)]
  cases hb : (atS S img num snap).2 with
  | true => rw [if_pos rfl, (h2 hb).1]
  | false =>
    rw [hb] at h1
    rw [if_neg (by simp)]
    cases hv : valO (cview S img) (keysAt S ⟨4, img⟩) num snap with
    | none => rfl
    | some b => rw [hv] at h1; simp at h1
end Go.Proofs.YtbepmbcbcklmlaaGreat
