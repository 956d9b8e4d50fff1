/- A key put into a row of keys. -/
import Derived.Test.YtnokhjhhadnckaaDelete
import Derived.Lib.Overlaps
set_option linter.unusedSimpArgs false
set_option linter.unusedVariables false
set_option linter.unusedSectionVars false
namespace Go.Proofs.Ytnokhjhhadnckaa
open Go.RowKit
def insK (i : Nat) (k : K4) (ks : List K4) : List K4 := ks.take i ++ k :: ks.drop i
section
variable {P : Program} {W w : World} {I : Hp} {l : List HP}
/-- A copy into a block that is owned. -/
theorem St.copy_run {g o dLen dCap n sLen sCap size : Nat} {a : Addr} {cur : Array Value} {t dT sT ty elem : TypeId} {cs : List Value} (h : St W I w (HP.pt g (.cells cur t (0, 0)) :: l))
    (hu : P.underlying dT = some (.slice elem)) (hs : (P.info? elem).map (·.size) = some size) (hmin : Nat.min sLen dLen = n) (hcl : cs.length = n * size)
    (hsrc : ∀ j v, cs[j]? = some v → w.cell? (a.add j) = some v) (hfit : o + cs.length ≤ cur.size) (h1 : ∀ v ∈ cs, v.oneCell' = true) :
    ∃ w', (Builtin.copy_ #[dT, sT] ty #[.slice (some ⟨g, o, none⟩) dLen dCap, .slice (some a) sLen sCap]).run P w = .ok (goInt n) w' ∧ w'.heap.size = w.heap.size ∧
      St W I w' (HP.pt g (.cells (cur.toList.take o ++ cs ++ cur.toList.drop (o + cs.length)).toArray t (0, 0)) :: l) := by
  have hl := run_firstCells_some (P := P) w size n a sLen sCap cs hcl hsrc
  have hst := run_storeCells_at P g o t cs 0 cur w h.heap (by simpa using hfit) h1
  refine ⟨_, ?_, ?_, setRow_is h⟩
  · cases hq : P.info? elem with
    | none => simp [hq] at hs
    | some i =>
      have hi : i.size = size := by simpa [hq] using hs
      simp [Builtin.copy_, run_underlying hu, Builtin.lenOf, sizeOf, typeInfo, hq, hi, hmin, hl, hst]
  · simp [World.setRow]
theorem wp_copy_run {o : Oper} {a : Act} {K : Act → World → Prop} {Q : Exit → Act → World → Prop} (s x : Operand) (t tn : TypeId)
    (ho : o.op = .call { callee := .builtin .copy, args := #[s, x], argTypes := #[t, tn] }) (vs vx : Value) (hs : a.eval s = vs) (hx : a.eval x = vx)
    (v' : Value) (w' : World) (hr : (Builtin.copy_ #[t, tn] o.type #[vs, vx]).run P w = .ok v' w') (h : K (a.put o.dst v') w') : o.wp P a w K Q := by
  unfold Oper.wp execOp
  simp only [ho, resolve, invoke, builtin, Sem.run_bind, Sem.run_pure, Result.andThen_ok, List.map_toArray, List.map_cons, List.map_nil, hs, hx, hr]
  exact h
theorem wpList_copy_run {ops : Array Oper} {rest : List Oper} {o : Oper} {a : Act} {Q : Exit → Act → World → Prop} (hgd : o.guard = none) (s x : Operand) (t tn : TypeId)
    (ho : o.op = .call { callee := .builtin .copy, args := #[s, x], argTypes := #[t, tn] }) (vs vx : Value) (hs : a.eval s = vs) (hx : a.eval x = vx)
    (v' : Value) (w' : World) (hr : (Builtin.copy_ #[t, tn] o.type #[vs, vx]).run P w = .ok v' w') (h : wpList P ops Q rest (a.put o.dst v') w') : wpList P ops Q (o :: rest) a w :=
  wpList_plain hgd fun _ hK => wp_copy_run s x t tn ho vs vx hs hx v' w' hr (hK _ _ h)
theorem splice_take {X ys R : List Value} {a b : Nat} (h : a + b ≤ X.length) : (X.take (a + b) ++ ys ++ R).take a = X.take a := by
  rw [List.append_assoc, List.take_append, List.take_take, List.length_take, show min a (a + b) = a by omega, show a - min (a + b) X.length = 0 by omega, List.take_zero, List.append_nil]
theorem splice_drop {X ys R : List Value} {a : Nat} (h : a ≤ X.length) : (X.take a ++ ys ++ R).drop a = ys ++ R := by
  rw [List.append_assoc, List.drop_append, List.length_take, show a - min a X.length = 0 by omega, List.drop_zero, List.drop_of_length_le (by rw [List.length_take]; omega), List.nil_append]
theorem room_list {X v ys R : List Value} {a : Nat} (hv : v.length = 4) (h : a + 4 ≤ X.length) :
    (((X.take (a + 4) ++ ys ++ R).take a ++ v ++ (X.take (a + 4) ++ ys ++ R).drop (a + v.length)).take (a + 4 + ys.length)) = X.take a ++ (v ++ ys) := by
  rw [hv, splice_take h, splice_drop (a := a + 4) h]
  have e : X.take a ++ v ++ (ys ++ R) = (X.take a ++ (v ++ ys)) ++ R := by simp [List.append_assoc]
  rw [e, List.take_left' (by simp only [List.length_append, List.length_take, hv]; omega)]
theorem kflat_insK (i : Nat) (k : K4) (ks : List K4) : kflat (insK i k ks) = kflat (ks.take i) ++ (k.vals ++ kflat (ks.drop i)) := by
  unfold insK
  rw [kflat_append]
  rfl
set_option maxRecDepth 4000 in
set_option maxHeartbeats 2000000 in
theorem insert_end {v : Value} {ks : List K4} {gv : Nat} {k0 k1 k2 k3 : Int} (h : St W I w (HP.pt gv (.cells #[.int .i64 k0, .int .i64 k1, .int .i64 k2, .int .i64 k3] 27) :: keysHP v ks :: l)) (hn : ks.length ≤ 1000000) :
    Calls Try.prog 98 #[v, .int .i64 ks.length, .slice (some ⟨gv, 0, none⟩) 1 1] w fun e w' => ∃ v', e = .returned v' ∧ St W I w' (keysHP v' (ks ++ [⟨k0, k1, k2, k3⟩]) :: l) := by
  obtain ⟨i0, hi0, hz0, hz1, hz2⟩ := info_parts keyB_info
  have hg := h.heap
  have h2 := h.pull 1 _ rfl
  have hown := h2.row_owns
  have hsrc : SrcAt w 4 (some ⟨gv, 0, none⟩) 1 [.int .i64 k0, .int .i64 k1, .int .i64 k2, .int .i64 k3] := ⟨rfl, fun _ => ⟨_, rfl, fun j u hu => by
    rw [add_plain, Nat.zero_add]
    have hj := (List.getElem?_eq_some_iff.1 hu).1
    have := cells_of hg j
    simp only [List.length_cons, List.length_nil] at hj
    rw [this]
    simpa using hu⟩, by simp [Value.oneCell']⟩
  obtain ⟨v', w', hr, ho', hgr, hv'⟩ := run_append_src (P := Try.prog) w 0 40 40 27 i0 _ 4 32 Try.underlying40 hi0 hz0 hz1 hz2 rfl (by decide) v ks.length _ hown (some ⟨gv, 0, none⟩) 1 1 _ hsrc (by intro h; cases h) (by unfold maxLen; omega) (by omega) (Nat.zero_le _)
  have h3 := (h2.row_grown ho' hgr hv').pull 1 _ rfl
  have h4 : St W I w' (keysHP v' (ks ++ [⟨k0, k1, k2, k3⟩]) :: l) := by
    have h5 := h3.drop
    have e : kflat (ks ++ [⟨k0, k1, k2, k3⟩]) = kflat ks ++ [.int .i64 k0, .int .i64 k1, .int .i64 k2, .int .i64 k3] := kflat_append _ _
    have e2 : (ks ++ [(⟨k0, k1, k2, k3⟩ : K4)]).length = ks.length + 1 := by simp
    unfold keysHP
    rw [e2]
    show St W I w' (HP.row _ 4 v' _ (kflat _) :: l)
    rw [e]
    exact h5
  obtain ⟨A, c, rfl, hA⟩ : ∃ A c, v = .slice A ks.length c ∧ ((A = none ∧ c = 0 ∧ ks.length = 0) ∨ ∃ g, A = some ⟨g, 0, none⟩ ∧ ks.length ≤ c) := by
    rcases hown.2 with ⟨e1, e2⟩ | ⟨g, cap, cur, e1, _, _, h1, _⟩
    · exact ⟨none, 0, by rw [e1, e2], .inl ⟨rfl, rfl, e2⟩⟩
    · exact ⟨_, _, e1, .inr ⟨g, rfl, h1⟩⟩
  obtain ⟨n, hnn⟩ : ∃ n, n = ks.length := ⟨_, rfl⟩
  rw [← hnn] at hr hA hn ⊢
  have H4 := Lib.hid h4
  have HR := Lib.hid hr
  clear h4 h3 ho' hgr hv' hsrc hown h2 hg h hz0 hz1 hz2 hi0 hnn hr
  rcases hA with ⟨rfl, rfl, rfl⟩ | ⟨g, rfl, hnc⟩
  · go_enter Try.func98, Try.ntmps98
    go_wp2_with (at_builtin; refine Lib.wpList_append_run _ rfl (.tmp 23) (.tmp 24) 40 40 rfl _ _ rfl rfl v' w' HR.out ?_)
    go_ret
    exact ⟨_, rfl, H4.out⟩
  · by_cases hcn : c = n
    · subst hcn
      go_enter Try.func98, Try.ntmps98
      go_wp2_with (at_builtin; refine Lib.wpList_append_run _ rfl (.tmp 23) (.tmp 24) 40 40 rfl _ _ rfl rfl v' w' HR.out ?_)
      go_ret
      exact ⟨_, rfl, H4.out⟩
    · go_enter Try.func98, Try.ntmps98
      go_wp2_with (at_builtin; refine Lib.wpList_append_run _ rfl (.tmp 23) (.tmp 24) 40 40 rfl _ _ rfl rfl v' w' HR.out ?_)
      go_ret
      exact ⟨_, rfl, H4.out⟩
set_option maxRecDepth 4000 in
set_option maxHeartbeats 2000000 in
theorem insert_room {v : Value} {ks : List K4} {i gv g c : Nat} {k0 k1 k2 k3 : Int} (h : St W I w (HP.pt gv (.cells #[.int .i64 k0, .int .i64 k1, .int .i64 k2, .int .i64 k3] 27) :: keysHP v ks :: l)) (hn : ks.length ≤ 1000000) (hi : i < ks.length) (hv : v = .slice (some ⟨g, 0, none⟩) ks.length c) (hc : ks.length < c) :
    Calls Try.prog 98 #[v, .int .i64 i, .slice (some ⟨gv, 0, none⟩) 1 1] w fun e w' => ∃ v', e = .returned v' ∧ St W I w' (keysHP v' (insK i ⟨k0, k1, k2, k3⟩ ks) :: l) := by
  subst hv
  obtain ⟨n, hnn⟩ : ∃ n, n = ks.length := ⟨_, rfl⟩
  rw [← hnn] at hn hi hc ⊢
  have hg := h.heap
  obtain ⟨hl, p⟩ := (h.pull 1 _ rfl).row_open
  obtain ⟨cur, p3, p4, p5, p6, s⟩ : ∃ cur, ks.length ≤ c ∧ c ≤ maxLen ∧ cur.size = c * 4 ∧ cur.toList.take (ks.length * 4) = kflat ks ∧ St W I w (HP.pt g (.cells cur 27 (0, 0)) :: HP.pt gv (.cells #[.int .i64 k0, .int .i64 k1, .int .i64 k2, .int .i64 k3] 27) :: l) := by
    rcases p with ⟨e1, _⟩ | ⟨g', cap', cur, e1, h2, h3, h4, h5, h6⟩
    · cases e1
    · simp only [Value.slice.injEq, Option.some.injEq, Addr.mk.injEq, and_true, true_and] at e1
      obtain ⟨rfl, rfl⟩ := e1
      exact ⟨cur, h2, h3, h4, h5, h6⟩
  have hne := s.ne
  have S := Lib.hid s
  have P6 := Lib.hid p6
  have HN := Lib.hid hnn
  obtain ⟨w1, hr1, hs1, s1⟩ := s.drew.copy_run (P := Try.prog) (g := g) (o := (i + 1) * 4) (dLen := n - i) (dCap := c - (i + 1)) (n := n - i) (sLen := n + 1 - i) (sCap := c - i) (size := 4) (a := ⟨g, i * 4, none⟩) (dT := 40) (sT := 40) (ty := 3) (cs := kflat (ks.drop i)) Try.underlying40 (by kernel_rfl) (by show min _ _ = _; omega) (by rw [kflat_len, List.length_drop, ← hnn])
    (by
      intro j v hj
      rw [add_plain]
      rw [← kflat_drop, ← p6, List.getElem?_drop, List.getElem?_take] at hj
      split at hj
      · have := cells_of s.drew.heap (i * 4 + j)
        rw [this]
        simpa using hj
      · cases hj) (by rw [kflat_len, List.length_drop, ← hnn, p5]; omega) (fun u hu => keys_one _ u hu)
  have hX : ks.length * 4 ≤ cur.toList.length := by simp [p5]; omega
  have hl1 : (cur.toList.take ((i + 1) * 4) ++ kflat (ks.drop i) ++ cur.toList.drop ((i + 1) * 4 + (kflat (ks.drop i)).length)).length = c * 4 := by
    simp only [List.length_append, List.length_take, List.length_drop, kflat_len, Array.length_toList, p5, ← hnn]; omega
  obtain ⟨w2, hr2, hs2, s2⟩ := s1.copy_run (P := Try.prog) (g := g) (o := i * 4) (dLen := n + 1 - i) (dCap := c - i) (n := 1) (sLen := 1) (sCap := 1) (size := 4) (a := ⟨gv, 0, none⟩) (dT := 40) (sT := 40) (ty := 3) (cs := [.int .i64 k0, .int .i64 k1, .int .i64 k2, .int .i64 k3]) Try.underlying40 (by kernel_rfl) (by show min _ _ = _; omega) rfl
    (by
      intro j v hj
      rw [add_plain, Nat.zero_add]
      have := cells_of (s1.pull 1 _ rfl).heap j
      rw [this]
      simpa using hj) (by rw [List.size_toArray, hl1]; simp; omega) (by simp [Value.oneCell'])
  have h3 : St W I w2 (keysHP (.slice (some ⟨g, 0, none⟩) (n + 1) c) (insK i ⟨k0, k1, k2, k3⟩ ks) :: l) := by
    have h4 := ((s2.pull 1 _ rfl).drop)
    simp only [List.eraseIdx_cons_succ, List.eraseIdx_cons_zero] at h4
    have e : (insK i ⟨k0, k1, k2, k3⟩ ks).length = n + 1 := by simp [insK]; omega
    unfold keysHP
    rw [e]
    refine h4.row_shut (xs := kflat (insK i ⟨k0, k1, k2, k3⟩ ks)) (by rw [kflat_len, e]) (by omega) p4 ?_ ?_
    · simp only [List.size_toArray, List.length_append, List.length_take, List.length_drop, hl1, List.length_cons, List.length_nil]
      omega
    · have e2 : cur.toList.take (i * 4) = kflat (ks.take i) := by
        rw [← kflat_take, ← p6, List.take_take, show min (i * 4) (ks.length * 4) = i * 4 by omega]
      have e3 := room_list (X := cur.toList) (v := [.int .i64 k0, .int .i64 k1, .int .i64 k2, .int .i64 k3]) (ys := kflat (ks.drop i)) (R := cur.toList.drop ((i + 1) * 4 + (kflat (ks.drop i)).length)) (a := i * 4) rfl (by omega)
      rw [e2, kflat_len, List.length_drop, ← hnn] at e3
      rw [kflat_insK, kflat_len, List.length_drop, ← hnn]
      rw [show (n + 1) * 4 = i * 4 + 4 + (n - i) * 4 by omega]
      rw [show (i + 1) * 4 = i * 4 + 4 by omega] at e3 ⊢
      exact e3
  have H3 := Lib.hid h3
  have HR1 := Lib.hid hr1
  have HR2 := Lib.hid hr2
  clear h3 hr1 hr2 hs1 hs2 s1 s2 hX hl1
  have hov : (callFunc 117 #[.slice (some ⟨gv, 0, none⟩) 1 1, .slice (some ⟨g, (i + 1) * 4, none⟩) (n - i) (c - (i + 1))]).run Try.prog w = .ok (.value (.bool false)) w := by
    have hgg := s.heap
    rw [run_callFunc_extern Try.func117 (by kernel_rfl) (by kernel_rfl) (by kernel_rfl) (e := Extern.SlicesOverlaps.overlaps #[40, 40] #[4]) (by kernel_rfl),
      Lib.run_overlaps_apart w 40 4 27 Try.underlying40 4 (fun w => by kernel_rfl) ⟨gv, 0, none⟩ ⟨g, (i + 1) * 4, none⟩ 1 1 (n - i) (c - (i + 1)) (Ne.symm hne) 27 27 4 (c * 4) (by simp [World.shape?, hg]) (by simp [World.shape?, hgg, p5]) (by omega) (by simp [World.frozen?, hg]) (by simp [World.frozen?, hg])]
    rfl
  clear h hl p p6 s p5 hnn p3
  have h1 : ((i : Int) == (n : Int)) = false := by simp; omega
  have h2 : ((n : Int) + 1) ≤ (c : Int) := by omega
  have h3 : (n : Int) ≤ (c : Int) := by omega
  have h4 : ¬ (i = n) := by omega
  have h5 : n + 1 ≤ c := by omega
  have h6 : i ≤ n := by omega
  have h7 : ¬ (c = i) := by omega
  have h8 : ¬ (c = i + 1) := by omega
  have h9 : ((i : Int) + 1) ≤ (n : Int) + 1 := by omega
  have h10 : ((i : Int)) ≤ (n : Int) + 1 := by omega
  have h11 : ((i : Int)) ≤ (n : Int) := by omega
  go_enter Try.func98, Try.ntmps98
  go_wp2_with fail
  have z1 : IntKind.i64.wrap ((i : Int) + 1) = (i : Int) + 1 := by rw [IntKind.wrap_i64]; omega
  have z2 : (0 : Int) ≤ (i : Int) + 1 := by omega
  have z3 : ((i : Int) + 1).toNat = i + 1 := by omega
  go_still_tail 8, (by kernel_rfl)
  change wpList _ _ _ _ _ w.drew
  refine wpList_copy_run rfl (.tmp 73) (.tmp 76) 40 40 rfl _ _ rfl rfl _ _ HR1.out ?_
  have hr2 := HR2.out
  clear z1 z2 z3
  go_wp2_with fail
  go_ret
  exact ⟨_, rfl, H3.out⟩
end
end Go.Proofs.Ytnokhjhhadnckaa
