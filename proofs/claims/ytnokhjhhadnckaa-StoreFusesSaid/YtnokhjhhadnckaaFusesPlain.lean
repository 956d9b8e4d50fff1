/- A fuse is a fall at that deed. No program in sight. -/
import Derived.Test.YtnokhjhhadnckaaDeeds
set_option linter.unusedSimpArgs false
set_option linter.unusedVariables false
set_option linter.unusedSectionVars false
namespace Go.Proofs.Ytnokhjhhadnckaa
open Go.RowKit
/-- The same store with a fuse laid. -/
def sfuse (T : Str) (f : Int) (keep : List Int) (torn : Int) : Str := { T with armed := true, fuse := f, torn := torn, keep := keep }
theorem sfuse_fallK (T : Str) (f a : Int) (ks : List Int) (k : K4) (n t : Int) : fallK (sfuse T f ks a) k n t = sfuse (fallK T k n t) f ks a := rfl
theorem sfuse_fallL (f a : Int) (ks keep : List Int) (torn : Int) : ∀ (l : List K4) (i : Nat) (T : Str) (n : Int),
    fallL keep torn l i (sfuse T f ks a) n = (sfuse (fallL keep torn l i T n).1 f ks a, (fallL keep torn l i T n).2)
  | [], _, _, _ => rfl
  | k :: l, i, T, n => by
    show fallL keep torn l (i + 1) (fallK (sfuse T f ks a) k (keepAt keep i) torn) _ = _
    rw [sfuse_fallK, sfuse_fallL f a ks keep torn l]
    rfl
theorem sfuse_fall (T : Str) (f a : Int) (ks keep : List Int) (torn : Int) (ho : T.on = true) : (fallS (sfuse T f ks a) keep torn).1 = (fallS T keep torn).1 := by
  have h1 : (sfuse T f ks a).on = true := ho
  unfold fallS
  rw [if_pos h1, if_pos ho]
  show fallEnd (fallL keep torn (sortK (T.late.map (·.1))) 0 (sfuse T f ks a) 0).1 = _
  rw [sfuse_fallL]
  rfl
theorem fallL_deeds (keep : List Int) (torn : Int) : ∀ (l : List K4) (i : Nat) (T : Str) (n : Int), (fallL keep torn l i T n).1.deeds = T.deeds
  | [], _, _, _ => rfl
  | k :: l, i, T, n => by
    show (fallL keep torn l (i + 1) (fallK T k (keepAt keep i) torn) _).1.deeds = _
    rw [fallL_deeds keep torn l]
    rfl
theorem fallS_deeds (T : Str) (keep : List Int) (torn : Int) : (fallS T keep torn).1.deeds = T.deeds := by
  unfold fallS
  split
  · show (fallL keep torn _ 0 T 0).1.deeds = _
    exact fallL_deeds _ _ _ _ _ _
  · rfl
theorem fallS_off (T : Str) (keep : List Int) (torn : Int) (ho : T.on = true) : (fallS T keep torn).1.on = false := by
  unfold fallS
  rw [if_pos ho]
  rfl
/-- A store without a fuse, behind a deed. -/
theorem calm_do {T : Str} (ha : T.armed = false) (k : K4) (d : Dd) : (doS T k d).1 = false ∧ (doS T k d).2.armed = false ∧ (doS T k d).2.on = T.on ∧ (doS T k d).2.deeds = wrap64 (T.deeds + 1) ∧ (doS T k d).2.room = T.room := by
  have hb : burnsS T = (false, T) := by simp [burnsS, ha]
  unfold doS
  rw [hb]
  exact ⟨rfl, ha, rfl, rfl, rfl⟩
theorem fuse_do {T : Str} (ha : T.armed = false) (f : Int) (keep : List Int) (torn : Int) (k : K4) (d : Dd) (hf : 0 < f) :
    doS (sfuse T f keep torn) k d = (false, sfuse (doS T k d).2 (f - 1) keep torn) := by
  have hb : burnsS T = (false, T) := by simp [burnsS, ha]
  have hb2 : burnsS (sfuse T f keep torn) = (false, sfuse T (f - 1) keep torn) := by
    unfold burnsS
    rw [if_pos (show (sfuse T f keep torn).armed = true from rfl), if_pos (show 0 < (sfuse T f keep torn).fuse from hf)]
    rfl
  unfold doS
  rw [hb, hb2]
  rfl
theorem fuse_do0 {T : Str} (ho : T.on = true) (keep : List Int) (torn : Int) (k : K4) (d : Dd) :
    doS (sfuse T 0 keep torn) k d = (true, (fallS T keep torn).1) := by
  have hb2 : burnsS (sfuse T 0 keep torn) = (true, (fallS T keep torn).1) := by
    unfold burnsS
    rw [if_pos (show (sfuse T 0 keep torn).armed = true from rfl), if_neg (show ¬ 0 < (sfuse T 0 keep torn).fuse from by simp [sfuse])]
    rw [show (sfuse T 0 keep torn).keep = keep from rfl, show (sfuse T 0 keep torn).torn = torn from rfl, sfuse_fall _ _ _ _ _ _ ho]
  unfold doS
  rw [hb2]
  rfl
/-- What one call comes to, with and without the fuse. -/
def Fused (T : Str) (f : Int) (keep : List Int) (torn : Int) (S' T' : Str) : Prop :=
  (∃ f', S' = sfuse T' f' keep torn ∧ 0 ≤ f' ∧ f' + T'.deeds = f + T.deeds ∧ T.deeds ≤ T'.deeds ∧ T'.armed = false ∧ T'.on = true) ∨ (f = 0 ∧ S' = (fallS T keep torn).1)
theorem Fused.stay {T : Str} {f : Int} (keep : List Int) (torn : Int) (ha : T.armed = false) (ho : T.on = true) (hf : 0 ≤ f) : Fused T f keep torn (sfuse T f keep torn) T :=
  .inl ⟨f, rfl, hf, rfl, Int.le_refl _, ha, ho⟩
theorem Fused.did {T : Str} {f : Int} (keep : List Int) (torn : Int) (ha : T.armed = false) (ho : T.on = true) (hf : 0 ≤ f) (hd : 0 ≤ T.deeds) (hd2 : T.deeds + f ≤ 1000) (k : K4) (d : Dd) :
    Fused T f keep torn (doS (sfuse T f keep torn) k d).2 (doS T k d).2 := by
  obtain ⟨c1, c2, c3, c4, c5⟩ := calm_do ha k d
  by_cases h0 : 0 < f
  · refine .inl ⟨f - 1, by rw [fuse_do ha f keep torn k d h0], by omega, ?_, ?_, c2, c3.trans ho⟩
    · rw [c4]; unfold wrap64; omega
    · rw [c4]; unfold wrap64; omega
  · obtain rfl : f = 0 := by omega
    exact .inr ⟨rfl, by rw [fuse_do0 ho]⟩
section
variable {T : Str} {f : Int} (keep : List Int) (torn : Int)
theorem Fused.make (ha : T.armed = false) (ho : T.on = true) (hf : 0 ≤ f) (hd : 0 ≤ T.deeds) (hd2 : T.deeds + f ≤ 1000) (k : K4) : Fused T f keep torn (makeS (sfuse T f keep torn) k).2 (makeS T k).2 := by
  unfold makeS
  rw [show whyS (sfuse T f keep torn) k = whyS T k from rfl, show (sfuse T f keep torn).seen = T.seen from rfl]
  repeat' split
  all_goals first | exact Fused.stay keep torn ha ho hf | exact Fused.did keep torn ha ho hf hd hd2 k _ | fail
theorem Fused.write (ha : T.armed = false) (ho : T.on = true) (hf : 0 ≤ f) (hd : 0 ≤ T.deeds) (hd2 : T.deeds + f ≤ 1000) (k : K4) (off : Int) (p : List Int) : Fused T f keep torn (writeS (sfuse T f keep torn) k off p).2 (writeS T k off p).2 := by
  unfold writeS
  rw [show whyS (sfuse T f keep torn) k = whyS T k from rfl, show (sfuse T f keep torn).seen = T.seen from rfl, show writeWhy (sfuse T f keep torn) = writeWhy T from rfl]
  repeat' split
  all_goals first | exact Fused.stay keep torn ha ho hf | exact Fused.did keep torn ha ho hf hd hd2 k _ | fail
theorem Fused.append (ha : T.armed = false) (ho : T.on = true) (hf : 0 ≤ f) (hd : 0 ≤ T.deeds) (hd2 : T.deeds + f ≤ 1000) (k : K4) (p : List Int) : Fused T f keep torn (appendS (sfuse T f keep torn) k p).2 (appendS T k p).2 := by
  unfold appendS
  rw [show whyS (sfuse T f keep torn) k = whyS T k from rfl, show (sfuse T f keep torn).seen = T.seen from rfl]
  repeat' split
  all_goals first | exact Fused.stay keep torn ha ho hf | exact Fused.write keep torn ha ho hf hd hd2 k _ _ | fail
theorem Fused.trim (ha : T.armed = false) (ho : T.on = true) (hf : 0 ≤ f) (hd : 0 ≤ T.deeds) (hd2 : T.deeds + f ≤ 1000) (k : K4) (n : Int) : Fused T f keep torn (trimS (sfuse T f keep torn) k n).2 (trimS T k n).2 := by
  unfold trimS
  rw [show whyS (sfuse T f keep torn) k = whyS T k from rfl, show (sfuse T f keep torn).seen = T.seen from rfl]
  repeat' split
  all_goals first | exact Fused.stay keep torn ha ho hf | exact Fused.did keep torn ha ho hf hd hd2 k _ | fail
theorem Fused.drop (ha : T.armed = false) (ho : T.on = true) (hf : 0 ≤ f) (hd : 0 ≤ T.deeds) (hd2 : T.deeds + f ≤ 1000) (k : K4) : Fused T f keep torn (dropS (sfuse T f keep torn) k).2 (dropS T k).2 := by
  unfold dropS
  rw [show whyS (sfuse T f keep torn) k = whyS T k from rfl]
  repeat' split
  all_goals first | exact Fused.stay keep torn ha ho hf | exact Fused.did keep torn ha ho hf hd hd2 k _ | fail
theorem Fused.set (ha : T.armed = false) (ho : T.on = true) (hf : 0 ≤ f) (hd : 0 ≤ T.deeds) (hd2 : T.deeds + f ≤ 1000) (k : K4) (nm : ByteArray) (p : List Int) : Fused T f keep torn (setS (sfuse T f keep torn) k nm p).2 (setS T k nm p).2 := by
  unfold setS
  rw [show whyS (sfuse T f keep torn) k = whyS T k from rfl, show (sfuse T f keep torn).seen = T.seen from rfl, show setWhy (sfuse T f keep torn) = setWhy T from rfl]
  repeat' split
  all_goals first | exact Fused.stay keep torn ha ho hf | exact Fused.did keep torn ha ho hf hd hd2 k _ | fail
theorem Fused.barrier (ha : T.armed = false) (ho : T.on = true) (hf : 0 ≤ f) (hd : 0 ≤ T.deeds) (hd2 : T.deeds + f ≤ 1000) : Fused T f keep torn (barrierS (sfuse T f keep torn)).2 (barrierS T).2 := by
  have hb : burnsS T = (false, T) := by simp [burnsS, ha]
  unfold barrierS
  rw [hb, if_neg (show ¬ (sfuse T f keep torn).on = false from by simp [sfuse, ho]), if_neg (show ¬ T.on = false from by simp [ho]), if_neg (show ¬ (false = true) by simp)]
  by_cases h0 : 0 < f
  · have hb2 : burnsS (sfuse T f keep torn) = (false, sfuse T (f - 1) keep torn) := by
      unfold burnsS
      rw [if_pos (show (sfuse T f keep torn).armed = true from rfl), if_pos (show 0 < (sfuse T f keep torn).fuse from h0)]
      rfl
    rw [hb2, if_neg (show ¬ (false = true) by simp)]
    refine .inl ⟨f - 1, rfl, by omega, ?_, ?_, ha, ho⟩
    · show f - 1 + wrap64 (T.deeds + 1) = _; unfold wrap64; omega
    · show _ ≤ wrap64 (T.deeds + 1); unfold wrap64; omega
  · obtain rfl : f = 0 := by omega
    have hb2 : burnsS (sfuse T 0 keep torn) = (true, (fallS T keep torn).1) := by
      unfold burnsS
      rw [if_pos (show (sfuse T 0 keep torn).armed = true from rfl), if_neg (show ¬ 0 < (sfuse T 0 keep torn).fuse from by simp [sfuse])]
      rw [show (sfuse T 0 keep torn).keep = keep from rfl, show (sfuse T 0 keep torn).torn = torn from rfl, sfuse_fall _ _ _ _ _ _ ho]
    rw [hb2]
    exact .inr ⟨rfl, rfl⟩
theorem Fused.act (ha : T.armed = false) (ho : T.on = true) (hf : 0 ≤ f) (hd : 0 ≤ T.deeds) (hd2 : T.deeds + f ≤ 1000) (a : A3) : Fused T f keep torn (actS (sfuse T f keep torn) a).2 (actS T a).2 := by
  unfold actS
  repeat' split
  · exact Fused.make keep torn ha ho hf hd hd2 _
  · exact Fused.write keep torn ha ho hf hd hd2 _ _ _
  · exact Fused.append keep torn ha ho hf hd hd2 _ _
  · exact Fused.trim keep torn ha ho hf hd hd2 _ _
  · exact Fused.drop keep torn ha ho hf hd hd2 _
  · exact Fused.set keep torn ha ho hf hd hd2 _ _ _
  · exact Fused.barrier keep torn ha ho hf hd hd2
  · exact Fused.stay keep torn ha ho hf
end
theorem sfuse_keeps {T : Str} {m : Nat} {f : Int} {keep : List Int} {torn : Int} (h : Keeps T m) (hk : keep.length ≤ 1000000) (hf : 0 ≤ f ∧ f ≤ 9223372036854775807) : Keeps (sfuse T f keep torn) m :=
  ⟨⟨h.inv.rise, h.inv.many, h.inv.seen, h.inv.dry, h.inv.late, h.inv.lateN⟩, hk, hf, h.lates⟩
/-- Two stores that show the same. -/
def Shows (S T : Str) : Prop := S.seen = T.seen ∧ S.on = T.on ∧ S.used = T.used
theorem Shows.read {S T : Str} (h : Shows S T) (k : K4) (off n : Int) : readS S k off n = readS T k off n := by
  obtain ⟨h1, h2, h3⟩ := h
  unfold readS whyS mayS
  rw [h1, h2]
section
variable {W w : World} {I : Hp} {l : List HP} {p : Nat} {S : Str}
theorem fuse_of (n : Int) (kv : Value) (keep : List Int) (torn : Int) (h : St W I w (storeHP p S :: l)) (hk : IntsI I kv keep) (hn : keep.length ≤ 1000000) :
    Calls Try.prog 33 #[.pointer (some ⟨p, 0, none⟩), .int .i64 n, kv, .int .i64 torn] w fun e w' => ∃ I', I.sub I' ∧ e = .returned (.tuple #[]) ∧ St W I' w' (storeHP p (fuseS S n keep torn) :: l) := by
  obtain ⟨B, h1⟩ := h.store_open
  have h2 := (h1.pull 5 _ rfl).drop
  refine (fuse_spec n kv keep torn h2 hk hn).mono ?_
  rintro e w' ⟨rfl, vk, I', hs, hv, h3⟩
  refine ⟨I', hs, rfl, St.store_shut (B := { B with vk := vk }) ?_⟩
  have e1 : seenHP B S = seenHP { B with vk := vk } (fuseS S n keep torn) := by unfold seenHP fuseS; split <;> rfl
  have e2 : dryHP B S = dryHP { B with vk := vk } (fuseS S n keep torn) := by unfold dryHP fuseS; split <;> rfl
  have e3 : lateHP B S = lateHP { B with vk := vk } (fuseS S n keep torn) := by unfold lateHP fuseS; split <;> rfl
  have e4 : keyHP B S = keyHP { B with vk := vk } (fuseS S n keep torn) := by unfold keyHP fuseS; split <;> rfl
  rw [← e1, ← e2, ← e3, ← e4]
  exact (St.imm_shut (A := intsIP vk (fuseS S n keep torn).keep) hv h3).perm (by ((try simp only [List.eraseIdx_cons_succ, List.eraseIdx_cons_zero, List.cons_append, List.nil_append]); repeat (first | with_reducible exact List.Perm.refl _ | (apply perm_step; (· repeat (first | with_reducible exact find_here | with_reducible apply find_there))))))
end
theorem A3.ok_up {I I' : Hp} {a : A3} (h : a.ok I) (s : I.sub I') : a.ok I' := ⟨(bytesIP _ _).mono s h.1, h.2.1, h.2.2.1, (intsIP _ _).mono s h.2.2.2.1, h.2.2.2.2⟩
theorem few_each {ls : List A3} (h : fewA ls = true) : ls.length ≤ 60 ∧ ∀ a ∈ ls, a.p.length ≤ 60 := by
  unfold fewA at h
  simp only [Bool.and_eq_true, List.all_eq_true, decide_eq_true_eq] at h
  refine ⟨h.2, fun a ha => ?_⟩
  have := h.1 a ha
  unfold A3.few at this
  simp at this
  omega
end Go.Proofs.Ytnokhjhhadnckaa
