/- (*Store).Fall as a function of the store, (*Store).burns. -/
import Derived.Test.YtnokhjhhadnckaaFall
set_option linter.unusedSimpArgs false
set_option linter.unusedVariables false
set_option linter.unusedSectionVars false
namespace Go.Proofs.Ytnokhjhhadnckaa
open Go.RowKit
def sortK : List K4 → List K4
  | [] => []
  | k :: ks => addK k (sortK ks)
theorem add_perm (k : K4) (ks : List K4) : (addK k ks).Perm (k :: ks) := by
  unfold addK
  refine List.perm_middle.trans (List.Perm.cons _ ?_)
  exact List.filter_append_perm _ _
theorem sort_perm : ∀ ks : List K4, (sortK ks).Perm ks
  | [] => List.Perm.refl _
  | k :: ks => (add_perm k _).trans ((sort_perm ks).cons k)
theorem sort_rising : ∀ {ks : List K4}, ks.Nodup → Rising (sortK ks)
  | [], _ => List.Pairwise.nil
  | k :: ks, h => by
    have h := List.nodup_cons.1 h
    exact rising_add (sort_rising h.2) fun hm => h.1 ((sort_perm ks).mem_iff.1 hm)
theorem lt_asymm' {a b : K4} (h : a.lt b = true) : b.lt a = false := by
  rw [Bool.eq_false_iff]
  intro h2
  simp only [K4.lt, decide_eq_true_eq] at h h2
  omega
theorem rising_eq : ∀ {a b : List K4}, Rising a → Rising b → a.Perm b → a = b
  | [], b, _, _, h => (List.Perm.eq_nil h.symm).symm
  | x :: a, [], _, _, h => by have := h.length_eq; simp at this
  | x :: a, y :: b, ha, hb, h => by
    have ha' := List.pairwise_cons.1 ha
    have hb' := List.pairwise_cons.1 hb
    have e : x = y := by
      rcases List.mem_cons.1 (h.mem_iff.1 (List.mem_cons_self ..)) with e | hx
      · exact e
      rcases List.mem_cons.1 (h.mem_iff.2 (List.mem_cons_self ..)) with e | hy
      · exact e.symm
      have h1 := ha'.1 _ hy
      have h2 := lt_asymm' (hb'.1 _ hx)
      rw [h1] at h2
      cases h2
    subst e
    rw [rising_eq ha'.2 hb'.2 h.cons_inv]
/-- What a fall leaves, and how many deeds it took. -/
def fallS (S : Str) (keep : List Int) (torn : Int) : Str × Int :=
  if S.on then (fallEnd (fallL keep torn (sortK (S.late.map (·.1))) 0 S 0).1, (fallL keep torn (sortK (S.late.map (·.1))) 0 S 0).2) else (S, 0)
/-- Does the fuse take the power; and what is there behind it. -/
def burnsS (S : Str) : Bool × Str :=
  if S.armed then if 0 < S.fuse then (false, { S with fuse := S.fuse - 1 }) else (true, (fallS S S.keep S.torn).1) else (false, S)
section
variable {W w : World} {I : Hp} {l : List HP} {p : Nat} {S : Str}
set_option maxRecDepth 4000
set_option maxHeartbeats 4000000
theorem fall_spec (kv : Value) (keep : List Int) (torn : Int) (h : St W I w (storeHP p S :: l)) (hk : IntsI I kv keep) (hkn : keep.length ≤ 1000000) (hi : S.on = true → Inv S S.late.length) :
    Calls Try.prog 18 #[.pointer (some ⟨p, 0, none⟩), kv, .int .i64 torn] w fun e w' => ∃ I', I.sub I' ∧ e = .returned (.int .i64 (fallS S keep torn).2) ∧ St W I' w' (storeHP p (fallS S keep torn).1 :: l) := by
  cases ho : S.on with
  | false =>
    obtain ⟨B, h1⟩ := h.store_open
    refine (fall_off kv torn h1 ho).mono ?_
    rintro e w' ⟨rfl, rfl⟩
    rw [show fallS S keep torn = (S, 0) by simp [fallS, ho]]
    exact ⟨I, Hp.sub.refl _, rfl, h⟩
  | true =>
    obtain ⟨B, h1⟩ := h.store_open
    have hnd := (h1.pull 3 _ rfl).mapOf_nodup
    refine (fall_on kv keep torn h1 ho hk hkn (hi ho)).mono ?_
    rintro e w' ⟨ss, B', I', hr, hp, hs, rfl, hv, h2⟩
    obtain rfl : sortK (S.late.map (·.1)) = ss := rising_eq (sort_rising hnd) hr ((sort_perm _).trans hp.symm)
    rw [show fallS S keep torn = (fallEnd (fallL keep torn (sortK (S.late.map (·.1))) 0 S 0).1, (fallL keep torn (sortK (S.late.map (·.1))) 0 S 0).2) by simp [fallS, ho]]
    refine ⟨I', hs, rfl, St.store_shut (B := B') ?_⟩
    have h3 := (h2.pull 5 _ rfl).drop
    have e : (fallEnd (fallL keep torn (sortK (S.late.map (·.1))) 0 S 0).1).keep = [] := by simp [fallEnd, fuseS]
    rw [e]
    exact (St.imm_shut (A := intsIP B'.vk []) hv h3).perm (by ((try simp only [List.eraseIdx_cons_succ, List.eraseIdx_cons_zero, List.cons_append, List.nil_append]); repeat (first | with_reducible exact List.Perm.refl _ | (apply perm_step; (· repeat (first | with_reducible exact find_here | with_reducible apply find_there))))))
theorem burns_spec (h : St W I w (storeHP p S :: l)) (hkn : S.keep.length ≤ 1000000) (hf : 0 ≤ S.fuse ∧ S.fuse ≤ 9223372036854775807) (hi : S.on = true → Inv S S.late.length) :
    Calls Try.prog 53 #[.pointer (some ⟨p, 0, none⟩)] w fun e w' => ∃ I', I.sub I' ∧ e = .returned (.bool (burnsS S).1) ∧ St W I' w' (storeHP p (burnsS S).2 :: l) := by
  obtain ⟨B, h1⟩ := h.store_open
  obtain ⟨hk, h1'⟩ := (h1.pull 5 _ rfl).imm_open
  have c9 := h1.blk 9
  have c10 := h1.blk 10
  have c11 := h1.blk 11
  have c12 := h1.blk 12
  have f10 := frozen_of_row h1.heap 10
  simp [storeCells] at c9 c10 c11 c12
  have hk : IntsI I B.vk S.keep := hk
  have HK := Lib.hid hk
  obtain ⟨A, c, hvk, _⟩ := hk
  rw [hvk] at c12
  have H := Lib.hid h
  have H1 := Lib.hid h1
  have HI := Lib.hid hi
  clear h h1 h1' hi
  cases ha : S.armed with
  | false =>
    rw [ha] at c9
    rw [show burnsS S = (false, S) by simp [burnsS, ha]]
    go_enter Try.func53, Try.ntmps53
    go_wp2_with fail
    go_ret
    exact ⟨I, Hp.sub.refl _, rfl, H.out⟩
  | true =>
    rw [ha] at c9
    by_cases h0 : 0 < S.fuse
    · rw [show burnsS S = (false, { S with fuse := S.fuse - 1 }) by simp [burnsS, ha, h0]]
      go_enter Try.func53, Try.ntmps53
      go_wp2_with fail
      go_ret
      exact ⟨I, Hp.sub.refl _, rfl, St.store_shut (B := B) (H1.out.setCell 10 _)⟩
    · rw [show burnsS S = (true, (fallS S S.keep S.torn).1) by simp [burnsS, ha, h0]]
      go_enter Try.func53, Try.ntmps53
      go_wp2_with fail
      refine wp_region_calm [0, 1, 2, 3, 5, 6, 7] [4, 8] [9] (by kernel_rfl) (by kernel_rfl) ?_
      simp only [pickL, List.getElem?_cons_zero, List.getElem?_cons_succ]
      repeat (refine wpPlain_step _ (Or.inl ⟨by rfl, by intro w; go_simp; try with_reducible rfl⟩) ?_; (try simp only [Act.put, List.setIfInBounds_toArray, List.set_cons_zero, List.set_cons_succ]))
      refine wpPlain_nil ?_
      repeat still_step
      refine wpStill_nil ?_
      go_wp2_with fail
      have hcall := fall_spec B.vk S.keep S.torn H.out.drew HK.out hkn HI.out
      rw [hvk] at hcall
      refine hcall.mono ?_
      rintro e w2 ⟨I2, hs, rfl, h2⟩
      have HS := Lib.hid hs
      have H2 := Lib.hid h2
      clear hs h2
      go_wp2_with fail
      refine NoPanic.normal ?_
      go_wp2_with fail
      go_ret
      exact ⟨I2, HS.out, rfl, H2.out⟩
end
end Go.Proofs.Ytnokhjhhadnckaa
