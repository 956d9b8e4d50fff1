/- A key taken out of a row of keys. -/
import Derived.Test.YtnokhjhhadnckaaSearch
import Derived.Test.YtnokhjhhadnckaaCells
set_option linter.unusedSimpArgs false
set_option linter.unusedVariables false
set_option linter.unusedSectionVars false
namespace Go.Proofs.Ytnokhjhhadnckaa
open Go.RowKit
section
variable {W w : World} {I : Hp} {l : List HP}
theorem kflat_take (ks : List K4) (i : Nat) : (kflat ks).take (i * 4) = kflat (ks.take i) := by
  induction ks generalizing i with
  | nil => simp [kflat]
  | cons t ks ih =>
    cases i with
    | zero => simp [kflat]
    | succ i =>
      have := ih i
      simp only [kflat, List.flatMap_cons, List.take_succ_cons] at this ⊢
      rw [List.take_append, show t.vals.length = 4 from rfl, List.take_of_length_le (by show 4 ≤ _; omega), show (i + 1) * 4 - 4 = i * 4 by omega, this]
theorem kflat_drop (ks : List K4) (i : Nat) : (kflat ks).drop (i * 4) = kflat (ks.drop i) := by
  induction ks generalizing i with
  | nil => simp [kflat]
  | cons t ks ih =>
    cases i with
    | zero => simp [kflat]
    | succ i =>
      have := ih i
      simp only [kflat, List.flatMap_cons, List.drop_succ_cons] at this ⊢
      rw [List.drop_append, show t.vals.length = 4 from rfl, List.drop_of_length_le (by show 4 ≤ _; omega), show (i + 1) * 4 - 4 = i * 4 by omega, List.nil_append, this]
theorem kflat_append (a b : List K4) : kflat (a ++ b) = kflat a ++ kflat b := by simp [kflat]
theorem keyB_info : (Try.prog.info? 27).map (fun i => (i.zero, i.size, i.bytes)) = some (some (.agg #[.int .i64 0, .int .i64 0, .int .i64 0, .int .i64 0]), 4, 32) := by kernel_rfl
/-- The elements behind i + 1 are laid on those from i on. -/
theorem delete_shift {g n c i : Nat} {ks : List K4} (h : St W I w (HP.row 27 4 (.slice (some ⟨g, 0, none⟩) n c) n (kflat ks) :: l)) (hk : ks.length = n) (hi : i < n) (A : Addr) (hA : n - (i + 1) = 0 ∨ A = ⟨g, (i + 1) * 4, none⟩) (cx : Nat) (ty : TypeId) :
    ∃ w' cur, (Builtin.append_ #[40, 40] ty #[.slice (some ⟨g, 0, none⟩) i c, .slice (some A) (n - (i + 1)) cx]).run Try.prog w = .ok (.slice (some ⟨g, 0, none⟩) (n - 1) c) w' ∧ w'.heap.size = w.heap.size ∧
      n ≤ c ∧ c ≤ maxLen ∧ cur.size = c * 4 ∧ cur.toList.take ((n - 1) * 4) = kflat (ks.eraseIdx i) ∧ St W I w' (HP.pt g (.cells cur 27 (0, 0)) :: l) := by
  obtain ⟨hl, p⟩ := h.row_open
  rcases p with ⟨e1, _⟩ | ⟨g', cap', cur, e1, p3, p4, p5, p6, s⟩
  · cases e1
  · simp only [Value.slice.injEq, Option.some.injEq, Addr.mk.injEq, and_true, true_and] at e1
    obtain ⟨rfl, rfl⟩ := e1
    obtain ⟨i0, hi0, hz0, hz1, hz2⟩ := info_parts keyB_info
    have hown := h.row_owns
    have hnl : (kflat (ks.drop (i + 1))).length = (n - (i + 1)) * 4 := by rw [kflat_len, List.length_drop, hk]
    have hnews : ∀ j u, (kflat (ks.drop (i + 1)))[j]? = some u → w.cell? (A.add j) = some u := fun j u hu => by
      have hj := (List.getElem?_eq_some_iff.1 hu).1
      rcases hA with e | rfl
      · rw [hnl, e] at hj; omega
      · rw [← kflat_drop, List.getElem?_drop] at hu
        have := hown.cells (g := g) rfl _ _ hu
        rw [add_plain] at this ⊢
        rwa [Nat.zero_add] at this
    have hr := run_append_room (P := Try.prog) w 40 ty 27 i0 Try.underlying40 hi0 g i c cur s.heap A (n - (i + 1)) cx (kflat (ks.drop (i + 1))) (by rw [hz1]; exact hnl) hnews (fun u hu => keys_one _ u hu) (by omega) (by rw [hz1, hnl, p5]; omega)
    rw [show i + (n - (i + 1)) = n - 1 by omega, hz1] at hr
    have hcl : cur.toList.length = c * 4 := by simpa using p5
    refine ⟨_, _, hr, by simp [World.setRow], p3, p4, ?_, ?_, setRow_is s⟩
    · simp only [List.size_toArray, List.length_append, List.length_take, List.length_drop, hnl]
      omega
    · have e1 : cur.toList.take (i * 4) = kflat (ks.take i) := by
        rw [← kflat_take, ← p6, List.take_take, show min (i * 4) (n * 4) = i * 4 by omega]
      rw [e1, List.eraseIdx_eq_take_drop_succ, kflat_append]
      have e2 : (kflat (ks.take i) ++ kflat (ks.drop (i + 1))).length = (n - 1) * 4 := by rw [List.length_append, hnl, kflat_len, List.length_take, hk]; omega
      rw [← e2]
      exact List.take_left
def zero4 : List Value := [.int .i64 0, .int .i64 0, .int .i64 0, .int .i64 0]
/-- The last one's cells are cleared. -/
theorem delete_clear {g n c : Nat} {ks : List K4} {cur : Array Value} (h : St W I w (HP.pt g (.cells cur 27 (0, 0)) :: l)) (hn : 0 < n) (h1 : n ≤ c) (h2 : c ≤ maxLen) (h3 : cur.size = c * 4) (h4 : cur.toList.take ((n - 1) * 4) = kflat ks) (hk : ks.length = n - 1) (cc : Nat) (ty : TypeId) :
    ∃ w', (Builtin.clear_ #[40] ty #[.slice (some ⟨g, (n - 1) * 4, none⟩) 1 cc]).run Try.prog w = .ok (.tuple #[]) w' ∧ w'.heap.size = w.heap.size ∧ St W I w' (keysHP (.slice (some ⟨g, 0, none⟩) (n - 1) c) ks :: l) := by
  have hst := run_storeCells_at Try.prog g ((n - 1) * 4) 27 zero4 0 cur w h.heap (by show _ + 0 + 4 ≤ _; omega) (by intro u hu; simp only [zero4, List.mem_cons, List.not_mem_nil, or_false] at hu; rcases hu with rfl | rfl | rfl | rfl <;> rfl)
  have hz : (zeroValue 27).run Try.prog w = .ok (.agg #[.int .i64 0, .int .i64 0, .int .i64 0, .int .i64 0]) w := by kernel_rfl
  have hr : (Builtin.clear_ #[40] ty #[.slice (some ⟨g, (n - 1) * 4, none⟩) 1 cc]).run Try.prog w = .ok (.tuple #[]) (w.setRow g (cur.toList.take ((n - 1) * 4 + 0) ++ zero4 ++ cur.toList.drop ((n - 1) * 4 + 0 + 4)).toArray) := by
    have hzc : (Builtin.zeroCells (Value.agg #[.int .i64 0, .int .i64 0, .int .i64 0, .int .i64 0]).cells 1).toList = zero4 := by kernel_rfl
    simp only [Builtin.clear_]
    simp [run_underlying Try.underlying40, hz, hzc, Result.andThen]
    have hst2 := hst
    simp at hst2
    rw [hst2]
    rfl
  have hcl : cur.toList.length = c * 4 := by simpa using h3
  refine ⟨_, hr, by simp [World.setRow], ?_⟩
  have s := setRow_is (cs := (cur.toList.take ((n - 1) * 4 + 0) ++ zero4 ++ cur.toList.drop ((n - 1) * 4 + 0 + 4)).toArray) h
  have hs2 : St W I _ (HP.row 27 4 (.slice (some ⟨g, 0, none⟩) (n - 1) c) (n - 1) (kflat ks) :: l) := s.row_shut (by rw [kflat_len, hk]) (by omega) h2 (by simp only [List.size_toArray, List.length_append, List.length_take, List.length_drop, zero4, List.length_cons, List.length_nil]; omega) (by
    rw [List.append_assoc]
    have e1 : (cur.toList.take ((n - 1) * 4 + 0)).length = (n - 1) * 4 := by rw [List.length_take]; omega
    rw [List.take_append, e1, Nat.sub_self, List.take_zero, List.append_nil, List.take_of_length_le (by omega), Nat.add_zero, h4])
  unfold keysHP
  rw [hk]
  exact hs2
set_option maxRecDepth 4000 in
set_option maxHeartbeats 2000000 in
theorem delete_spec {v : Value} {ks : List K4} {i : Nat} (h : St W I w (keysHP v ks :: l)) (hn : ks.length ≤ 1000000) (hi : i < ks.length) :
    Calls Try.prog 97 #[v, .int .i64 i, .int .i64 ((i : Int) + 1)] w fun e w' => ∃ v', e = .returned v' ∧ St W I w' (keysHP v' (ks.eraseIdx i) :: l) := by
  obtain ⟨n, hnn⟩ : ∃ n, n = ks.length := ⟨_, rfl⟩
  have hown := h.row_owns
  obtain ⟨g, c, rfl, hnc⟩ : ∃ g c, v = .slice (some ⟨g, 0, none⟩) ks.length c ∧ ks.length ≤ c := by
    rcases hown.2 with ⟨_, e2⟩ | ⟨g, cap, cur, e1, _, _, h1, _⟩
    · omega
    · exact ⟨g, cap, e1, h1⟩
  have hs : St W I w (HP.row 27 4 (.slice (some ⟨g, 0, none⟩) n c) n (kflat ks) :: l) := by rw [hnn]; exact h
  rw [← hnn] at hnc hi hn ⊢
  obtain ⟨q, rfl⟩ : ∃ q, n = q + 1 := ⟨n - 1, by omega⟩
  have HS := Lib.hid hs
  have HN := Lib.hid hnn
  clear h hown hs hnn
  have hne : ((i : Int) == (i : Int) + 1) = false := by simp; omega
  have hI1 : ((i : Int) + 1) ≤ ((q : Int) + 1) := by omega
  have hic : i < c := by omega
  have hicl : i ≤ c := by omega
  have hin1 : i ≤ q := by omega
  have h0i : (0 : Int) ≤ (i : Int) + 1 := by omega
  have hi0 : ¬ c = 0 := by omega
  have hqc : ¬ c = q := by omega
  by_cases hc : i + 1 = c
  · obtain rfl : i = q := by omega
    subst hc
    clear hne hI1 hic hicl hin1 h0i hi0 hqc
    have hne : ((i : Int) == (i : Int) + 1) = false := by simp; omega
    have h0i : (0 : Int) ≤ (i : Int) + 1 := by omega
    have hI1 : (i : Int) ≤ (i : Int) + 1 := by omega
    go_enter Try.func97, Try.ntmps97
    go_wp2_with fail
    obtain ⟨hl, p⟩ := HS.out.drew.row_open
    obtain ⟨g', cap', cur, e1, p3, p4, p5, p6, s⟩ : ∃ g' cap cur, Value.slice (some ⟨g, 0, none⟩) (i + 1) (i + 1) = .slice (some ⟨g', 0, none⟩) (i + 1) cap ∧ (i + 1) ≤ cap ∧ cap ≤ maxLen ∧ cur.size = cap * 4 ∧ cur.toList.take ((i + 1) * 4) = kflat ks ∧ St W I w.drew (HP.pt g' (.cells cur 27 (0, 0)) :: l) := by
      rcases p with ⟨e1, _⟩ | h1
      · cases e1
      · exact h1
    simp only [Value.slice.injEq, Option.some.injEq, Addr.mk.injEq, and_true, true_and] at e1
    obtain ⟨rfl, rfl⟩ := e1
    obtain ⟨w6, hr6, hs6, h6⟩ := delete_clear (ks := ks.eraseIdx i) s (by omega) p3 p4 p5 (by rw [Nat.add_sub_cancel, List.eraseIdx_eq_take_drop_succ, List.drop_of_length_le (by have := HN.out; omega), List.append_nil, ← kflat_take, ← p6, List.take_take, show min (i * 4) ((i + 1) * 4) = i * 4 by omega]) (by rw [List.length_eraseIdx, ← HN.out, if_pos hi]) 1 0
    rw [show i + 1 - 1 = i by omega] at hr6 h6
    have H6 := Lib.hid h6
    clear hl p p3 p4 p5 p6 s h6
    go_still_tail 6, (by kernel_rfl)
    change wpList _ _ _ _ _ w.drew
    generalize w.drew = w2 at *
    all_goals
      go_wp2_with fail
      go_ret
      exact ⟨_, rfl, H6.out⟩
  · have hcc : ¬ (c = i + 1) := fun e => hc e.symm
    go_enter Try.func97, Try.ntmps97
    go_wp2_with fail
    obtain ⟨w5, cur, hr5, hs5, h51, h52, h53, h54, h55⟩ := delete_shift HS.out.drew HN.out.symm hi ⟨g, (i + 1) * 4, none⟩ (.inr rfl) (c - (i + 1)) 40
    rw [show q + 1 - (i + 1) = q - i by omega, show q + 1 - 1 = q by omega] at hr5
    obtain ⟨w6, hr6, hs6, h6⟩ := delete_clear h55 (by omega) h51 h52 h53 h54 (by rw [List.length_eraseIdx, ← HN.out, if_pos hi]) (c - q) 0
    rw [show q + 1 - 1 = q by omega] at hr6 h6
    have H6 := Lib.hid h6
    have HR5 := Lib.hid hr5
    clear h55 hr5 h6 h51 h52 h53 h54
    go_region_law (refine step_append_run (by rfl) (.tmp 22) (.tmp 25) 40 40 (by rfl) (.slice (some ⟨g, 0, none⟩) i c) (.slice (some ⟨g, (i + 1) * 4, none⟩) (q - i) (c - (i + 1))) (by rfl) (by rfl) (.slice (some ⟨g, 0, none⟩) q c) w5 HR5.out ?_)
    all_goals
      go_wp2_with fail
      go_ret
      exact ⟨_, rfl, H6.out⟩
end
end Go.Proofs.Ytnokhjhhadnckaa
