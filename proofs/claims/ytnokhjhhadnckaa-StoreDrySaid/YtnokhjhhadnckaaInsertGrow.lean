/- A key put into a row of keys that is full. -/
import Derived.Test.YtnokhjhhadnckaaInsert
set_option linter.unusedSimpArgs false
set_option linter.unusedVariables false
set_option linter.unusedSectionVars false
namespace Go.Proofs.Ytnokhjhhadnckaa
open Go.RowKit
section
variable {W w : World} {I : Hp} {l : List HP}
theorem grow_list {X v ys Z : List Value} {a : Nat} (hv : v.length = 4) (ha : X.length = a) (h : 4 + ys.length ≤ Z.length) :
    ((((X ++ Z).take a ++ v ++ (X ++ Z).drop (a + v.length)).take (a + 4) ++ ys ++ ((X ++ Z).take a ++ v ++ (X ++ Z).drop (a + v.length)).drop (a + 4 + ys.length)).take (a + 4 + ys.length)) = X ++ (v ++ ys) := by
  have e1 : (X ++ Z).take a = X := by rw [← ha]; exact List.take_left
  rw [e1]
  have e2 : (X ++ v ++ (X ++ Z).drop (a + v.length)).take (a + 4) = X ++ v := by
    rw [List.take_left' (by rw [List.length_append, ha, hv])]
  rw [e2, List.take_left' (by simp only [List.length_append, hv, ha]), List.append_assoc]
set_option maxRecDepth 4000 in
set_option maxHeartbeats 2000000 in
theorem insert_grow {v : Value} {ks : List K4} {i gv g : Nat} {k0 k1 k2 k3 : Int} (h : St W I w (HP.pt gv (.cells #[.int .i64 k0, .int .i64 k1, .int .i64 k2, .int .i64 k3] 27) :: keysHP v ks :: l)) (hn : ks.length ≤ 1000000) (hi : i < ks.length) (hv : v = .slice (some ⟨g, 0, none⟩) ks.length ks.length) :
    Calls Try.prog 98 #[v, .int .i64 i, .slice (some ⟨gv, 0, none⟩) 1 1] w fun e w' => ∃ v', e = .returned v' ∧ St W I w' (keysHP v' (insK i ⟨k0, k1, k2, k3⟩ ks) :: l) := by
  obtain ⟨i0, hi0, hz0, hz1, hz2⟩ := info_parts keyB_info
  subst hv
  obtain ⟨n, hnn⟩ : ∃ n, n = ks.length := ⟨_, rfl⟩
  have hown := (h.pull 1 _ rfl).row_owns
  rw [← hnn] at hn hi ⊢
  have hold : ∀ j u, (kflat (ks.take i))[j]? = some u → w.cell? ((⟨g, 0, none⟩ : Addr).add j) = some u := fun j u hu => by
    rw [← kflat_take, List.getElem?_take] at hu
    split at hu
    · exact hown.cells (g := g) rfl j u hu
    · cases hu
  have hr := Lib.run_append_grow_zeros (P := Try.prog) w 40 3 40 27 i0 _ .i64 .i64 Try.underlying40 Try.underlying3 hi0 hz0 (some ⟨g, 0, none⟩) i n (kflat (ks.take i))
    (by rw [hz1]; exact run_firstCells_some w.drew 4 i _ i n _ (by rw [kflat_len, List.length_take]; omega) hold) (n + 1 - i) (by omega) (by omega) (by omega) (by omega) (by rw [hz2]; omega) (growslice_fits (by omega) (by rw [hz2]; omega))
  rw [show i + (n + 1 - i) = n + 1 by omega] at hr
  have hge := grownCap_ge w (n + 1) n 27
  have hcm : grownCap w (n + 1) n 27 ≤ maxLen := grownCap_le_maxLen w (n + 1) n 27 (by unfold maxLen; omega)
  generalize grownCap w (n + 1) n 27 = c at hr hge hcm
  obtain ⟨Z, hZ⟩ : ∃ Z : Array Value, Z = Builtin.zeroCells (Value.agg #[.int .i64 0, .int .i64 0, .int .i64 0, .int .i64 0]).cells (n + 1 - i) ++ Builtin.zeroCells (Value.agg #[.int .i64 0, .int .i64 0, .int .i64 0, .int .i64 0]).cells (c - (n + 1)) := ⟨_, rfl⟩
  have hZs : Z.size = (c - i) * 4 := by
    rw [hZ, Array.size_append, size_zeroCells, size_zeroCells]
    show (n + 1 - i) * 4 + (c - (n + 1)) * 4 = _
    omega
  rw [Array.append_assoc, ← hZ] at hr
  have s0 : St W I (w.drew.alloc (.cells ((kflat (ks.take i)).toArray ++ Z) 27)) (HP.pt w.heap.size (.cells ((kflat (ks.take i)).toArray ++ Z) 27 (0, 0)) :: _) := h.drew.alloc _
  have hlt : ∀ b o, w.heap[b]? = some o → (w.drew.alloc (.cells ((kflat (ks.take i)).toArray ++ Z) 27)).heap[b]? = some o := fun b o hb => (Below.heap_alloc w.drew _ _ (Array.getElem?_eq_some_iff.1 hb).1).trans hb
  have hX : (kflat (ks.take i)).length = i * 4 := by rw [kflat_len, List.length_take]; omega
  obtain ⟨w1, hr1, hs1, s1⟩ := s0.copy_run (P := Try.prog) (g := w.heap.size) (o := i * 4) (dLen := n + 1 - i) (dCap := c - i) (n := 1) (sLen := 1) (sCap := 1) (size := 4) (a := ⟨gv, 0, none⟩) (dT := 40) (sT := 40) (ty := 3) (cs := [.int .i64 k0, .int .i64 k1, .int .i64 k2, .int .i64 k3]) Try.underlying40 (by kernel_rfl) (by show min _ _ = _; omega) rfl
    (by
      intro j v hj
      rw [add_plain, Nat.zero_add]
      have := cells_of (hlt _ _ h.heap) j
      rw [this]
      simpa using hj) (by simp [hZs, hX]; omega) (by simp [Value.oneCell'])
  have hrow := s1.pull 2 _ rfl
  rw [← hnn] at hrow
  obtain ⟨w2, hr2, hs2, s2⟩ := s1.drew.copy_run (P := Try.prog) (g := w.heap.size) (o := (i + 1) * 4) (dLen := n - i) (dCap := c - (i + 1)) (n := n - i) (sLen := n - i) (sCap := n - i) (size := 4) (a := ⟨g, i * 4, none⟩) (dT := 40) (sT := 40) (ty := 3) (cs := kflat (ks.drop i)) Try.underlying40 (by kernel_rfl) (by show min _ _ = _; omega) (by rw [kflat_len, List.length_drop, ← hnn])
    (by
      intro j v hj
      rw [add_plain]
      rw [← kflat_drop, List.getElem?_drop] at hj
      have := hrow.drew.row_owns.cells (g := g) rfl _ _ hj
      rwa [add_plain, Nat.zero_add] at this) (by simp [hZs, hX, kflat_len]; omega) (fun u hu => keys_one _ u hu)
  have h3 : St W I w2 (keysHP (.slice (some ⟨w.heap.size, 0, none⟩) (n + 1) c) (insK i ⟨k0, k1, k2, k3⟩ ks) :: l) := by
    have h4 : St W I w2 (HP.pt w.heap.size _ :: l) := ((s2.pull 1 _ rfl).drop.pull 1 _ rfl).drop
    have e : (insK i ⟨k0, k1, k2, k3⟩ ks).length = n + 1 := by simp [insK]; omega
    unfold keysHP
    rw [e]
    refine h4.row_shut (xs := kflat (insK i ⟨k0, k1, k2, k3⟩ ks)) (by rw [kflat_len, e]) (by omega) hcm ?_ ?_
    · simp [hZs, hX, kflat_len]; omega
    · have e3 := grow_list (X := kflat (ks.take i)) (v := [.int .i64 k0, .int .i64 k1, .int .i64 k2, .int .i64 k3]) (ys := kflat (ks.drop i)) (Z := Z.toList) (a := i * 4) rfl hX (by simp [hZs, kflat_len]; omega)
      rw [kflat_insK]
      rw [kflat_len, List.length_drop, ← hnn] at e3 ⊢
      rw [show (n + 1) * 4 = i * 4 + 4 + (n - i) * 4 by omega, show (i + 1) * 4 = i * 4 + 4 by omega]
      have e4 : ((kflat (ks.take i)).toArray ++ Z).toList = kflat (ks.take i) ++ Z.toList := by simp
      rw [← e4] at e3
      exact e3
  rw [show ((n + 1 - i : Nat) : Int) = (n : Int) + 1 - (i : Int) by omega] at hr
  have H3 := Lib.hid h3
  have HR := Lib.hid hr
  have HR1 := Lib.hid hr1
  have HR2 := Lib.hid hr2
  generalize w.drew.alloc (.cells ((kflat (ks.take i)).toArray ++ Z) 27) = w0 at *
  clear h3 hr hr1 hr2 hs1 hs2 s1 s2 hX hrow hlt s0 hZs hZ hold hown h hi0 hz0 hz1 hz2 hnn
  have h1 : ((i : Int) == (n : Int)) = false := by simp; omega
  have h2 : ((n : Int) + 1) ≤ (c : Int) := by omega
  have h4 : ¬ (i = n) := by omega
  have h6 : i ≤ n := by omega
  have h7 : ¬ (c = i) := by omega
  have h8 : ¬ (c = i + 1) := by omega
  have h7' : ¬ (n = i) := by omega
  have h9 : ((i : Int) + 1) ≤ (n : Int) + 1 := by omega
  have h10 : ((i : Int)) ≤ (n : Int) + 1 := by omega
  have h11 : ((i : Int)) ≤ (n : Int) := by omega
  go_enter Try.func98, Try.ntmps98
  go_wp2_with (at_builtin; refine Lib.wpList_append_run _ rfl (.tmp 34) (.tmp 39) 40 3 rfl _ _ rfl rfl _ _ HR.out ?_; have hr1 := HR1.out)
  have z1 : IntKind.i64.wrap ((i : Int) + 1) = (i : Int) + 1 := by rw [IntKind.wrap_i64]; omega
  have z2 : (0 : Int) ≤ (i : Int) + 1 := by omega
  have z3 : ((i : Int) + 1).toNat = i + 1 := by omega
  clear hr1
  go_still_tail 8, (by kernel_rfl)
  change wpList _ _ _ _ _ w1.drew
  have e5 : n + 1 - (i + 1) = n - i := by omega
  first
    | refine wpList_copy_run rfl (.tmp 50) (.tmp 53) 40 40 rfl _ _ rfl rfl _ _ HR2.out ?_
    | (rw [← e5] at HR2; refine wpList_copy_run rfl (.tmp 50) (.tmp 53) 40 40 rfl _ _ rfl rfl _ _ HR2.out ?_)
  clear z1 z2 z3
  go_wp2_with fail
  go_ret
  exact ⟨_, rfl, H3.out⟩
/-- A key put into a row, wherever. -/
theorem insert_spec {v : Value} {ks : List K4} {i gv : Nat} (k : K4) (h : St W I w (HP.pt gv (.cells #[.int .i64 k.kind, .int .i64 k.img, .int .i64 k.num, .int .i64 k.snap] 27) :: keysHP v ks :: l)) (hn : ks.length ≤ 1000000) (hi : i ≤ ks.length) :
    Calls Try.prog 98 #[v, .int .i64 i, .slice (some ⟨gv, 0, none⟩) 1 1] w fun e w' => ∃ v', e = .returned v' ∧ St W I w' (keysHP v' (insK i k ks) :: l) := by
  obtain ⟨k0, k1, k2, k3⟩ := k
  by_cases hin : i = ks.length
  · subst hin
    have e : insK ks.length ⟨k0, k1, k2, k3⟩ ks = ks ++ [⟨k0, k1, k2, k3⟩] := by simp [insK]
    rw [e]
    exact insert_end h hn
  · rcases (h.pull 1 _ rfl).row_owns.2 with ⟨e1, e2⟩ | ⟨g, cap, cur, e1, _, _, h1, _⟩
    · omega
    · by_cases hc : cap = ks.length
      · subst hc; exact insert_grow h hn (by omega) e1
      · exact insert_room h hn (by omega) e1 (by omega)
end
end Go.Proofs.Ytnokhjhhadnckaa
