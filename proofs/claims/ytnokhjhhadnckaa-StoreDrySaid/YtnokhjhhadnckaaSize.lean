/- The size of an object. -/
import Derived.Test.YtnokhjhhadnckaaClones
set_option linter.unusedSimpArgs false
set_option linter.unusedVariables false
set_option linter.unusedSectionVars false
namespace Go.Proofs.Ytnokhjhhadnckaa
open Go.RowKit
section
variable {W w : World} {I : Hp} {l : List HP}
/-- The attributes, each with its row. -/
theorem St.attr_open {m : Nat} {L : List (ByteArray × List Int)} (h : St W I w (HP.mapOf nameKT attrOwn m L :: l)) :
    ∃ M : List (ByteArray × Value × List Int), (M.map dat3).Perm L ∧ (∀ x ∈ M, BytesI I x.2.1 x.2.2) ∧ St W I w (HP.map nameKT m (M.map fst3) :: l) := by
  obtain ⟨M, hp, h⟩ := h.mapOf_open
  refine ⟨M, hp, ?_⟩
  have h2 : St W I w (M.map (own3 attrOwn) ++ (HP.map nameKT m (M.map fst3) :: l)) := h.perm List.perm_middle.symm
  have key : ∀ (M : List (ByteArray × Value × List Int)) (l : List HP), St W I w (M.map (own3 attrOwn) ++ l) → (∀ x ∈ M, BytesI I x.2.1 x.2.2) ∧ St W I w l := by
    intro M
    induction M with
    | nil => exact fun l h => ⟨by simp, h⟩
    | cons x M ih =>
      intro l h
      obtain ⟨h1, h2⟩ := St.imm_open h
      obtain ⟨h3, h4⟩ := ih l h2
      exact ⟨fun y hy => by
        rcases List.mem_cons.1 hy with rfl | hy
        · exact h1
        · exact h3 y hy, h4⟩
  exact key M _ h2
theorem St.attr_shut {m : Nat} {L : List (ByteArray × List Int)} {M : List (ByteArray × Value × List Int)} (h : St W I w (HP.map nameKT m (M.map fst3) :: l)) (hp : (M.map dat3).Perm L) (hM : ∀ x ∈ M, BytesI I x.2.1 x.2.2) : St W I w (HP.mapOf nameKT attrOwn m L :: l) := by
  refine St.mapOf_shut (M := M) ?_ hp
  have key : ∀ (M : List (ByteArray × Value × List Int)) (l : List HP), (∀ x ∈ M, BytesI I x.2.1 x.2.2) → St W I w l → St W I w (M.map (own3 attrOwn) ++ l) := by
    intro M
    induction M with
    | nil => exact fun l _ h => h
    | cons x M ih =>
      intro l hM h
      exact St.imm_shut (A := bytesIP x.2.1 x.2.2) (hM x (by simp)) (ih l (fun y hy => hM y (by simp [hy])) h)
  exact (key M _ hM h).perm List.perm_middle
theorem size_nil (w : World) : Calls Try.prog 60 #[.pointer none] w fun e w' => e = .returned (.int .i64 0) ∧ w = w' := by
  go_enter Try.func60, Try.ntmps60
  go_wp2
  go_ret
  exact ⟨rfl, rfl⟩
theorem wrap_add (a b : Int) : IntKind.i64.wrap (IntKind.i64.wrap a + b) = IntKind.i64.wrap (a + b) := by simp only [IntKind.wrap_i64]; omega
theorem wrap_add2 (a b : Int) : IntKind.i64.wrap (a + IntKind.i64.wrap b) = IntKind.i64.wrap (a + b) := by simp only [IntKind.wrap_i64]; omega
theorem attrSize_perm {a b : List (ByteArray × List Int)} (p : a.Perm b) : attrSize a = attrSize b := by
  induction p with
  | nil => rfl
  | cons x _ ih => simp only [attrSize, List.map_cons, List.sum_cons] at ih ⊢; rw [ih]
  | swap x y l => simp only [attrSize, List.map_cons, List.sum_cons]; omega
  | trans _ _ i j => exact i.trans j
theorem int_wrap3 {A B C : Int} (h : C = A + B) : Value.int .i64 (wrap64 (wrap64 A + wrap64 B)) = .int .i64 (IntKind.i64.wrap C) := by
  have : wrap64 (wrap64 A + wrap64 B) = IntKind.i64.wrap C := by
    rw [IntKind.wrap_i64]; unfold wrap64; omega
  rw [this]
set_option maxHeartbeats 1000000 in
theorem size_spec {v : Value} {t : TS} (h : St W I w (thingHP v t :: l)) (ht : t.b.length ≤ 1000000) :
    Calls Try.prog 60 #[v] w fun e w' => e = .returned (.int .i64 (IntKind.i64.wrap t.size)) ∧ St W I w' (thingHP v t :: l) := by
  obtain ⟨b, m, vb, rfl, hs⟩ := h.thing_open
  clear h
  have h := hs
  clear hs
  have hlt := h.lt
  have c0 := cells_of h.heap 0
  have c1 := cells_of h.heap 1
  simp at c0 c1
  have hlen : Try.prog.underlying 31 = some (.slice 5) := Try.underlying31
  obtain ⟨A, c, hvb⟩ : ∃ A c, vb = .slice A t.b.length c := by
    obtain ⟨_, p⟩ := (h.pull 1 _ rfl).row_open
    rcases p with ⟨e, e2, _⟩ | ⟨g, cap, cur, e, _⟩
    · exact ⟨none, 0, by rw [e, e2]⟩
    · exact ⟨_, cap, e⟩
  subst hvb
  obtain ⟨M, hp, hM, h⟩ := (h.pull 2 _ rfl).attr_open
  have hrange := h.range (P := Try.prog) (T := nameKT) Try.underlying98
  obtain ⟨w1, hrun, hsz, h1⟩ := hrange
  have HH := Lib.hid h1
  have HM := Lib.hid hM
  have HP' := Lib.hid hp
  clear h h1 hM hp hlen
  go_enter Try.func60, Try.ntmps60
  go_wp2_with fail
  go_loopw [3] (fun v3 wr => ∃ lm done : List (ByteArray × Value × List Int), (lm ++ done).Perm M ∧ v3 = .int .i64 (IntKind.i64.wrap (t.b.length + attrSize (done.map dat3))) ∧
    St W I wr (HP.iter nameKT m w.heap.size (M.map fst3) (lm.map fst3) :: HP.pt b (.cells #[.slice A t.b.length c, .map (some m)] 100) :: bytesHP (.slice A t.b.length c) t.b :: l)) (fun _ wr => wr.rangeLeft m w.heap.size)
  case atStart => exact ⟨M, [], by simp, by simp [attrSize, IntKind.wrap_i64]; omega, HH.out⟩
  case round =>
    obtain ⟨lm, done, hpd, rfl, hst⟩ := hrel
    rcases hst.nextM 0 with ⟨rfl, hrun⟩ | ⟨a, v, x, lm', w2, hpm, hrun, hsz2, hent, hst2⟩
    · have HS := Lib.hid hst
      have HQ := Lib.hid hpd
      clear hst hpd
      go_wp2_with fail
      go_ret
      have e1 : attrSize (done.map dat3) = attrSize t.attr := attrSize_perm ((HQ.out.map dat3).trans HP'.out)
      refine ⟨ret_int (by rw [e1]; rfl), ?_⟩
      refine St.thing_shut (m := m) (vb := .slice A t.b.length c) ?_
      have h5 : St W I wr (HP.map nameKT m (M.map fst3) :: HP.pt b (.cells #[.slice A t.b.length c, .map (some m)] 100) :: bytesHP (.slice A t.b.length c) t.b :: l) := HS.out.iter_shut_map
      exact (h5.attr_shut HP'.out HM.out).perm ((List.Perm.swap _ _ _).trans ((List.Perm.swap _ _ _).cons _))
    · have hx : (a, v, x) ∈ M := hpd.mem_iff.1 (List.mem_append_left _ (hpm.mem_iff.2 (by simp)))
      obtain ⟨A1, c2, hv, _, hc2, hm2, _⟩ := HM.out _ hx
      simp only at hv
      subst hv
      have hxl : x.length ≤ 9223372036854775807 := by
        have e1 : x.length ≤ c2 := hc2
        unfold maxLen at hm2; omega
      clear hc2 hm2 hsz2
      simp only [nameKT] at hrun hent
      have HS := Lib.hid hst2
      have HQ := Lib.hid hpd
      have HR := Lib.hid hst
      have HL := Lib.hid hpm
      clear hst hpd hst2 hpm
      go_wp2_with fail
      go_roundw
      case rel =>
        refine ⟨lm', done ++ [(a, Value.slice A1 x.length c2, x)], ?_, ?_, HS.out⟩
        · refine List.Perm.trans ?_ HQ.out
          rw [← List.append_assoc]
          exact List.perm_append_comm.trans (HL.out.symm.append_right done)
        · refine int_wrap3 ?_
          simp only [List.map_append, List.map_cons, List.map_nil, attrSize, List.sum_append, List.sum_cons, List.sum_nil, dat3]
          omega
      case measure =>
        rw [HS.out.iter_left, HR.out.iter_left]
        simp [HL.out.length_eq]
end
end Go.Proofs.Ytnokhjhhadnckaa
