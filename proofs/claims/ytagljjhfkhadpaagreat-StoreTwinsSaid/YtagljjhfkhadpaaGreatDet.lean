/- A region that draws its order, each of whose operations, calls too, yields one value in every world that meets S and leads to a world that meets S: one order does. No program in sight. -/
import Derived.Test.YtagljjhfkhadpaaGreatTools
set_option linter.unusedSimpArgs false
set_option linter.unusedVariables false
set_option linter.unusedSectionVars false
namespace Go.Proofs.YtagljjhfkhadpaaGreat
open Go.RowKit
section
variable {P : Program} {ops : Array Oper} {md : Region.Mode} {S : World → Prop}
/-- In every world that meets S the operation leaves v in its temporary, and a world that meets S. -/
def Det (P : Program) (ops : Array Oper) (S : World → Prop) (o : Oper) (v : Value) (a : Act) : Prop :=
  (Region.wanted o (yielded ops a.tmps) = true ∧ ∀ w, S w → (execOp a.eval o).run P w = .ok (.value v) w ∨
    ∃ f args w1, (execOp a.eval o).run P w = .ok (.enter f args) w1 ∧ Calls P f args w1 (fun e w' => e = .returned v ∧ S w')) ∨
  (Region.wanted o (yielded ops a.tmps) = false ∧ v = undef)
theorem Det.of_same {o : Oper} {v : Value} {a a' : Act} (hy : Det P ops S o v a) (he : execOp a'.eval o = execOp a.eval o)
    (hw : Region.wanted o (yielded ops a'.tmps) = Region.wanted o (yielded ops a.tmps)) : Det P ops S o v a' := by
  unfold Det at *
  rw [he, hw]
  exact hy
theorem Det.wpOp {Q : Exit → Act → World → Prop} {i : Nat} {o : Oper} {v : Value} {a : Act} (hi : ops[i]? = some o) (hy : Det P ops S o v a) {K : Act → World → Prop} {w : World} (hS : S w)
    (h : ∀ w', S w' → K (a.put o.dst v) w') : wpOp P ops Q i K a w := by
  unfold Go.wpOp
  simp only [hi]
  rcases hy with ⟨hw, hv⟩ | ⟨hw, rfl⟩
  · rw [if_pos hw]
    left
    unfold Oper.wp
    rcases hv w hS with hr | ⟨f, args, w1, hr, hc⟩
    · rw [hr]; exact h w hS
    · rw [hr, Oper.upon_enter]
      refine Calls.mono hc fun e w' he => ?_
      obtain ⟨rfl, hS'⟩ := he
      exact h w' hS'
  · rw [if_neg (by simp [hw])]
    exact h w hS
/-- While they come up, in whatever order: of those in M alone. -/
def wpU (P : Program) (md : Region.Mode) (ops : Array Oper) (S : World → Prop) (M : Nat → Bool) (L : Array Bool → Act → Prop) : Nat → Array Bool → Act → Prop
  | 0, listed, a => L listed a
  | f + 1, listed, a => Region.ready md ops listed ≠ [] ∧ ∀ i ∈ Region.ready md ops listed, M i = true ∧ ∃ o v, ops[i]? = some o ∧ Det P ops S o v a ∧ wpU P md ops S M L f (listed.setIfInBounds i true) (a.put o.dst v)
theorem wpAny_of_U {Q : Exit → Act → World → Prop} {M : Nat → Bool} {L : Array Bool → Act → Prop} {g : Nat} (hL : ∀ listed a, L listed a → ∀ w, S w → wpAny P md ops Q g listed a w) :
    ∀ (f : Nat) (listed : Array Bool) (a : Act), wpU P md ops S M L f listed a → ∀ w, S w → wpAny P md ops Q (f + g) listed a w
  | 0, listed, a, h, w, hS => by rw [Nat.zero_add]; exact hL _ _ h w hS
  | f + 1, listed, a, h, w, hS => by
    rw [show f + 1 + g = (f + g) + 1 by omega]
    refine ⟨fun h0 => absurd h0 h.1, fun i hi => ?_⟩
    obtain ⟨_, o, v, ho, hd, hn⟩ := h.2 i hi
    exact hd.wpOp ho hS fun w' hS' => wpAny_of_U hL f _ _ hn w' hS'
theorem wpU_first {M : Nat → Bool} {l0 : Array Bool} {L : Array Bool → Act → Prop} {i : Nat} {oi : Oper} {v : Value} (hi : ops[i]? = some oi) (hsel : ∀ (j : Nat) (o : Oper) cs b, ops[j]? = some o → o.op ≠ .select cs b)
    (hM : M i = true) (hG : Guards md ops M l0) (hL : ∀ listed a, L listed a → ∀ j ∈ Region.ready md ops listed, M j = false) :
    ∀ (f : Nat) (listed : Array Bool) (a : Act), ShutDown md ops listed → (∀ j, l0.getD j false = true → listed.getD j false = true) →
      (∀ j oj, ops[j]? = some oj → j ≠ i → listed.getD j true = false → (∀ e ∈ oj.after, Region.binds md e = true → e.on ≠ i) → oi.apart ops oj = true) →
      i ∈ Region.ready md ops listed → Det P ops S oi v a →
      wpU P md ops S M L f (listed.setIfInBounds i true) (a.put oi.dst v) → wpU P md ops S M L (f + 1) listed a := by
  intro f
  induction f with
  | zero =>
    intro listed a hs h0 _ hr hy H
    refine ⟨fun h => (by rw [h] at hr; cases hr), fun j hj => ?_⟩
    have hMj := hG listed hs h0 i hM (mem_ready.1 hr).1 j hj
    refine ⟨hMj, ?_⟩
    by_cases hji : j = i
    · subst hji; exact ⟨oi, v, hi, hy, H⟩
    · have := hL _ _ H j (ready_mono hj hji)
      rw [hMj] at this; cases this
  | succ f ih =>
    intro listed a hs h0 hfree hr hy H
    have hun := (mem_ready.1 hr).1
    refine ⟨fun h => (by rw [h] at hr; cases hr), fun j hj => ?_⟩
    refine ⟨hG listed hs h0 i hM hun j hj, ?_⟩
    by_cases hji : j = i
    · subst hji; exact ⟨oi, v, hi, hy, H⟩
    · obtain ⟨hjun, oj, hoj, hall⟩ := mem_ready.1 hj
      have hnot : ∀ e ∈ oj.after, Region.binds md e = true → e.on ≠ i := fun e he hb heq => by
        have h2 := hall e he hb
        rw [heq, unlisted_both hun] at h2
        cases h2
      have hap := hfree j oj hoj hji hjun hnot
      obtain ⟨h1, h2, h3⟩ := Oper.apart_spec hap
      obtain ⟨_, o, u, ho, hd, hn⟩ := H.2 j (ready_mono hj hji)
      rw [hoj] at ho
      cases ho
      have hd' : Det P ops S oj u a := hd.of_same (execOp_put oj (fun cs b => hsel j oj cs b hoj) a oi.dst v h1).symm (wanted_put oj a oi.dst v h1).symm
      refine ⟨oj, u, hoj, hd', ?_⟩
      refine ih (listed.setIfInBounds j true) (a.put oj.dst u) (hs.next hj) (fun k hk => getD_set_true (h0 k hk)) (fun k ok hk hki hkun hno => hfree k ok hk hki ?_ hno) (ready_mono hr (Ne.symm hji))
        (hy.of_same (execOp_put oi (fun cs b => hsel i oi cs b hi) a oj.dst u h3) (wanted_put oi a oj.dst u h3)) ?_
      · by_cases hjk : j = k
        · subst hjk; exact hjun
        · rwa [getD_set_ne true hjk] at hkun
      · rw [Array.setIfInBounds_comm _ _ hji, ← Act.put_comm a v u h2]; exact hn
/-- One order of them. -/
def wpDet (P : Program) (ops : Array Oper) (S : World → Prop) (K : Act → Prop) : List Oper → Act → Prop
  | [], a => K a
  | o :: l, a => ∃ v, Det P ops S o v a ∧ wpDet P ops S K l (a.put o.dst v)
theorem wpDet_nil {K : Act → Prop} {a : Act} (h : K a) : wpDet P ops S K [] a := h
theorem wpDet_step {K : Act → Prop} {a : Act} {o : Oper} {l : List Oper} (v : Value) (hw : Region.wanted o (yielded ops a.tmps) = true) (hy : ∀ w, S w → (execOp a.eval o).run P w = .ok (.value v) w) (h : wpDet P ops S K l (a.put o.dst v)) : wpDet P ops S K (o :: l) a :=
  ⟨v, .inl ⟨hw, fun w hS => .inl (hy w hS)⟩, h⟩
theorem wpDet_skip {K : Act → Prop} {a : Act} {o : Oper} {l : List Oper} (hw : Region.wanted o (yielded ops a.tmps) = false) (h : wpDet P ops S K l (a.put o.dst undef)) : wpDet P ops S K (o :: l) a :=
  ⟨undef, .inr ⟨hw, rfl⟩, h⟩
theorem wpDet_call {K : Act → Prop} {a : Act} {o : Oper} {l : List Oper} (v : Value) (f : FuncId) (args : Array Value) (hw : Region.wanted o (yielded ops a.tmps) = true) (hy : ∀ w, (execOp a.eval o).run P w = .ok (.enter f args) w)
    (hc : ∀ w, S w → Calls P f args w (fun e w' => e = .returned v ∧ S w')) (h : wpDet P ops S K l (a.put o.dst v)) : wpDet P ops S K (o :: l) a :=
  ⟨v, .inl ⟨hw, fun w hS => .inr ⟨f, args, w, hy w, hc w hS⟩⟩, h⟩
theorem wpU_head {l : List Oper} {M : Nat → Bool} {l0 : Array Bool} {K : Act → Prop} {L : Array Bool → Act → Prop} (hsel : Region.noSelect l.toArray = true) (hG : Guards md l.toArray M l0) (hL : ∀ listed a, L listed a → ∀ j ∈ Region.ready md l.toArray listed, M j = false) :
    ∀ (ks : List Nat) (listed : Array Bool) (a : Act), (∀ k ∈ ks, M k = true) → ShutDown md l.toArray listed → (∀ j, l0.getD j false = true → listed.getD j false = true) → earlyB md l.toArray ks listed = true →
    (∀ a', K a' → L (listAll ks listed) a') → wpDet P l.toArray S K (pickL l ks) a → wpU P md l.toArray S M L ks.length listed a
  | [], listed, a, _, _, _, _, hK, h => hK a h
  | k :: ks, listed, a, hM, hs, h0, hB, hK, h => by
    simp only [earlyB, Bool.and_eq_true] at hB
    obtain ⟨⟨hr, hf⟩, hB'⟩ := hB
    have hr' : k ∈ Region.ready md l.toArray listed := by simpa using hr
    obtain ⟨o, ho⟩ := ready_lt hr'
    have ho' : l[k]? = some o := by simpa using ho
    have e : pickL l (k :: ks) = o :: pickL l ks := by simp [pickL, ho']
    rw [e] at h
    obtain ⟨v, hy, hK'⟩ := h
    exact wpU_first ho (Region.noSelect_spec hsel) (hM k (List.mem_cons_self ..)) hG hL ks.length listed a hs h0 (Region.free_spec ho hf) hr' hy
      (wpU_head hsel hG hL ks _ _ (fun j hj => hM j (List.mem_cons_of_mem _ hj)) (hs.next hr') (fun j hj => getD_set_true (h0 j hj)) hB' hK hK')
def detB (md : Region.Mode) (l : List Oper) (head tail : List Nat) : Bool :=
  Region.noSelect l.toArray && earlyB md l.toArray head (Array.replicate l.length false) &&
    guardsB md l.toArray (fun t => head.contains t) head (Array.replicate l.length false) && tailB md l.toArray tail (listAll head (Array.replicate l.length false)) &&
    decide (head.length + tail.length = l.length) && tail.all (fun t => !head.contains t)
/-- The head's operations in this order, then the tail's, forced. -/
theorem wp_region_det {id : Nat} {w : World} {Q : Exit → Act → World → Prop} {a : Act} {l : List Oper} (S : World → Prop) (head tail : List Nat) (hm : P.follows .mixedOrders = true) (hB : detB .any l head tail = true) (hS : S w.drew)
    (h : wpDet P l.toArray S (fun a2 => ∀ w', S w' → wpList P l.toArray (NoPanic Q) (pickL l tail) a2 w') (pickL l head) a) : (Code.region id l.toArray true).wp P Q a w := by
  refine wp_region_noPanic ?_
  simp only [detB, Bool.and_eq_true, decide_eq_true_eq] at hB
  obtain ⟨⟨⟨⟨⟨hsel, hh⟩, hg⟩, ht⟩, hn⟩, htl⟩ := hB
  refine wp_region_any hm ?_
  change wpAny P .any l.toArray (NoPanic Q) l.toArray.size _ a w.drew
  have hsz : l.toArray.size = head.length + tail.length := by rw [hn]; simp
  have hrep : Array.replicate l.toArray.size false = Array.replicate l.length false := by simp
  rw [hrep, hsz]
  have hG : Guards .any l.toArray (fun t => head.contains t) (Array.replicate l.length false) := fun listed hsd h0 i hi hun t htr => by
    simp only [guardsB, List.all_eq_true, List.mem_range, Bool.or_eq_true] at hg
    obtain ⟨htun, o, ho, hall⟩ := mem_ready.1 htr
    have h2 := hg t (Array.getElem?_eq_some_iff.1 ho).1
    rcases h2 with (h2 | h2) | h2
    · have := h0 t h2
      rw [unlisted_both htun] at this; cases this
    · exact h2
    · have h3 := h2 i (by simpa using hi)
      have h4 := reaches_listed hsd _ t (fun o' ho' e he' hb => by rw [ho] at ho'; cases ho'; exact hall e he' hb) h3
      rw [unlisted_both hun] at h4; cases h4
  obtain ⟨L, hLd⟩ : ∃ L : Array Bool → Act → Prop, L = fun listed a => tailB .any l.toArray tail listed = true ∧ ∀ w', S w' → wpList P l.toArray (NoPanic Q) (pickL l tail) a w' := ⟨_, rfl⟩
  have hL : ∀ (listed : Array Bool) (a : Act), L listed a → ∀ j ∈ Region.ready .any l.toArray listed, head.contains j = false := fun listed a hL j hj => by
    rw [hLd] at hL
    cases tail with
    | nil =>
      have := hL.1
      simp only [tailB, List.isEmpty_iff] at this
      rw [this] at hj; cases hj
    | cons k ks =>
      have := hL.1
      simp only [tailB, Bool.and_eq_true, decide_eq_true_eq] at this
      rw [this.1] at hj
      obtain rfl : j = k := by simpa using hj
      simp only [List.all_cons, Bool.and_eq_true] at htl
      simpa using htl.1
  have H := wpU_head (L := L) hsel hG hL head _ a (fun k hk => by simpa using hk) (ShutDown.start _) (fun j hj => hj) hh (fun a' h' => by rw [hLd]; exact ⟨ht, h'⟩) h
  exact wpAny_of_U (L := L) (fun listed a' hl w' hS' => by rw [hLd] at hl; exact wpAny_tail tail listed a' _ hl.1 (hl.2 w' hS')) _ _ _ H _ hS
def hdB (md : Region.Mode) (l : List Oper) (early one head tail : List Nat) : Bool :=
  Region.noSelect l.toArray && earlyB md l.toArray early (Array.replicate l.length false) && forcedB md l.toArray one (listAll early (Array.replicate l.length false)) &&
    earlyB md l.toArray head (listAll one (listAll early (Array.replicate l.length false))) &&
    guardsB md l.toArray (fun t => head.contains t) head (listAll one (listAll early (Array.replicate l.length false))) &&
    tailB md l.toArray tail (listAll head (listAll one (listAll early (Array.replicate l.length false)))) &&
    ((List.range l.length).all fun t => early.contains t || early.all fun k => reaches md l.toArray k l.length t) &&
    decide (early.length + (one.length + (head.length + tail.length)) = l.length) && (early.all fun t => (listAll early (Array.replicate l.length false)).getD t false) && tail.all (fun t => !head.contains t)
theorem shutDown_forced {l : List Oper} : ∀ (ks : List Nat) (listed : Array Bool), forcedB md l.toArray ks listed = true → ShutDown md l.toArray listed → ShutDown md l.toArray (listAll ks listed)
  | [], _, _, h => h
  | k :: ks, listed, hB, h => by
    simp only [forcedB, Bool.and_eq_true, decide_eq_true_eq] at hB
    exact shutDown_forced ks _ hB.2 (h.next (by rw [hB.1]; exact List.mem_singleton.2 rfl))
/-- Early ones; one that is forced; then operations that are determined. -/
theorem wp_region_hd {id : Nat} {w : World} {Q : Exit → Act → World → Prop} {a : Act} {l : List Oper} (S0 S1 : World → Prop) (early one head tail : List Nat) (hm : P.follows .mixedOrders = true) (hB : hdB .any l early one head tail = true) (hS : S0 w.drew)
    (h : wpFirst P l.toArray S0 (fun a1 => wpHold P l.toArray (fun _ => True) (NoPanic Q) (fun a2 w2 => S1 w2 ∧ wpDet P l.toArray S1 (fun a3 => ∀ w', S1 w' → wpList P l.toArray (NoPanic Q) (pickL l tail) a3 w') (pickL l head) a2) (pickL l one) a1 w.drew) (pickL l early) a) : (Code.region id l.toArray true).wp P Q a w := by
  refine wp_region_noPanic ?_
  simp only [hdB, Bool.and_eq_true, decide_eq_true_eq] at hB
  obtain ⟨⟨⟨⟨⟨⟨⟨⟨⟨hsel, he⟩, h1⟩, hh⟩, hgd⟩, ht⟩, hg⟩, hn⟩, hl⟩, htl⟩ := hB
  refine wp_region_any hm (wpAny_of_X (S := S0) (N := fun t => early.contains t) _ _ _ _ ?_)
  change wpAnyX P .any l.toArray _ _ _ l.toArray.size _ a w.drew
  have hsz : l.toArray.size = early.length + (one.length + (head.length + tail.length)) := by rw [hn]; simp
  have hrep : Array.replicate l.toArray.size false = Array.replicate l.length false := by simp
  rw [hrep, hsz]
  refine wpAnyX_early hsel (fun _ _ _ _ _ h => h) hS early _ a (fun k hk listed hsd hun j hj => ?_) (ShutDown.start _) he (fun a1 h1' => ?_) h
  · simp only [List.all_eq_true, List.mem_range] at hg
    obtain ⟨_, o, ho, hall⟩ := mem_ready.1 hj
    have h2 := hg j (by simpa using (Array.getElem?_eq_some_iff.1 ho).1)
    rw [Bool.or_eq_true] at h2
    rcases h2 with h2 | h2
    · exact h2
    · have h3 := List.all_eq_true.1 h2 k hk
      have h4 := reaches_listed hsd _ j (fun o' ho' e he' hb => by rw [ho] at ho'; cases ho'; exact hall e he' hb) h3
      rw [unlisted_both hun] at h4; cases h4
  · refine wpAnyX_of_any _ _ a1 _ (fun j hj => List.all_eq_true.1 hl j (by simpa using hj)) ?_
    refine wpAny_forced one _ a1 _ h1 (fun a2 w2 h2 => ?_) h1'
    have hsd := shutDown_forced one _ h1 (shutDown_all early _ he (ShutDown.start _))
    have hG : Guards .any l.toArray (fun t => head.contains t) (listAll one (listAll early (Array.replicate l.length false))) := fun listed hsd h0 i hi hun t htr => by
      simp only [guardsB, List.all_eq_true, List.mem_range, Bool.or_eq_true] at hgd
      obtain ⟨htun, o, ho, hall⟩ := mem_ready.1 htr
      have h2 := hgd t (Array.getElem?_eq_some_iff.1 ho).1
      rcases h2 with (h2 | h2) | h2
      · have := h0 t h2
        rw [unlisted_both htun] at this; cases this
      · exact h2
      · have h3 := h2 i (by simpa using hi)
        have h4 := reaches_listed hsd _ t (fun o' ho' e he' hb => by rw [ho] at ho'; cases ho'; exact hall e he' hb) h3
        rw [unlisted_both hun] at h4; cases h4
    obtain ⟨L, hLd⟩ : ∃ L : Array Bool → Act → Prop, L = fun listed a => tailB .any l.toArray tail listed = true ∧ ∀ w', S1 w' → wpList P l.toArray (NoPanic Q) (pickL l tail) a w' := ⟨_, rfl⟩
    have hL : ∀ (listed : Array Bool) (a : Act), L listed a → ∀ j ∈ Region.ready .any l.toArray listed, head.contains j = false := fun listed a hL j hj => by
      rw [hLd] at hL
      cases tail with
      | nil =>
        have := hL.1
        simp only [tailB, List.isEmpty_iff] at this
        rw [this] at hj; cases hj
      | cons k ks =>
        have := hL.1
        simp only [tailB, Bool.and_eq_true, decide_eq_true_eq] at this
        rw [this.1] at hj
        obtain rfl : j = k := by simpa using hj
        simp only [List.all_cons, Bool.and_eq_true] at htl
        simpa using htl.1
    have H := wpU_head (L := L) hsel hG hL head _ a2 (fun k hk => by simpa using hk) hsd (fun j hj => hj) hh (fun a' h' => by rw [hLd]; exact ⟨ht, h'⟩) h2.2
    exact wpAny_of_U (L := L) (fun listed a' hl w' hS' => by rw [hLd] at hl; exact wpAny_tail tail listed a' _ hl.1 (hl.2 w' hS')) _ _ _ H _ h2.1
end
end Go.Proofs.YtagljjhfkhadpaaGreat
