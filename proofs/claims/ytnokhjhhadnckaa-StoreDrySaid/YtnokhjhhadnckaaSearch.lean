/- A key's place among keys. -/
import Derived.Test.YtnokhjhhadnckaaOrder
import Derived.Test.YtnokhjhhadnckaaOwn
set_option linter.unusedSimpArgs false
set_option linter.unusedVariables false
set_option linter.unusedSectionVars false
namespace Go.Proofs.Ytnokhjhhadnckaa
open Go.RowKit
def kflat (l : List K4) : List Value := l.flatMap K4.vals
theorem kflat_len : ∀ l : List K4, (kflat l).length = l.length * 4
  | [] => rfl
  | t :: l => by
    have := kflat_len l
    simp only [kflat, List.flatMap_cons, List.length_append, List.length_cons] at this ⊢
    simp only [K4.vals, List.length_cons, List.length_nil]; omega
theorem kflat_get : ∀ (l : List K4) (i j : Nat), j < 4 → (kflat l)[i * 4 + j]? = (l[i]?).bind fun t => t.vals[j]?
  | [], i, j, _ => by simp [kflat]
  | t :: l, 0, j, h => by
    have hv : t.vals.length = 4 := rfl
    simp only [kflat, List.flatMap_cons, Nat.zero_mul, Nat.zero_add, List.getElem?_cons_zero, Option.bind_some]
    rw [List.getElem?_append_left (by omega)]
  | t :: l, i + 1, j, h => by
    have hv : t.vals.length = 4 := rfl
    have := kflat_get l i j h
    simp only [kflat, List.flatMap_cons, List.getElem?_cons_succ] at this ⊢
    rw [List.getElem?_append_right (by omega), hv, show (i + 1) * 4 + j - 4 = i * 4 + j by omega, this]
theorem add_plain (b off j : Nat) : (⟨b, off, none⟩ : Addr).add j = ⟨b, off + j, none⟩ := by
  unfold Addr.add
  split
  · subst j; rfl
  · rfl
theorem key_cell {w : World} {base : Nat} {e : TypeId} {g n c : Nat} {ks : List K4} (h : w.ownsRow base e 4 (.slice (some ⟨g, 0, none⟩) n c) n (kflat ks)) {k : Nat} {t : K4} (hk : ks[k]? = some t) (j : Nat) (hj : j < 4) : w.cell? ⟨g, k * 4 + j, none⟩ = t.vals[j]? := by
  have h1 := kflat_get ks k j hj
  rw [hk, Option.bind_some] at h1
  have hv : j < t.vals.length := hj
  rw [List.getElem?_eq_getElem hv] at h1 ⊢
  have := h.cells (g := g) rfl _ _ h1
  rwa [add_plain, Nat.zero_add] at this
theorem cmpI_neg {a b : Int} : cmpI a b < 0 ↔ a < b := by unfold cmpI; split <;> (try split) <;> omega
theorem cmpI_zero {a b : Int} : cmpI a b = 0 ↔ a = b := by unfold cmpI; split <;> (try split) <;> omega
theorem orI_cons (x : Int) (l : List Int) : orI (x :: l) = if x = 0 then orI l else x := by
  rw [orI]
  by_cases h : x = 0 <;> simp [h]
theorem cmpK_zero {a b : K4} : cmpK a b = 0 ↔ a = b := by
  obtain ⟨a0, a1, a2, a3⟩ := a
  obtain ⟨b0, b1, b2, b3⟩ := b
  simp only [cmpK, orI_cons, K4.mk.injEq]
  have e0 := @cmpI_zero a0 b0
  have e1 := @cmpI_zero a1 b1
  have e2 := @cmpI_zero a2 b2
  have e3 := @cmpI_zero a3 b3
  split
  · split
    · split
      · split
        · simp only [orI, true_iff]; exact ⟨e0.1 ‹_›, e1.1 ‹_›, e2.1 ‹_›, e3.1 ‹_›⟩
        · constructor
          · intro h; exact absurd h ‹_›
          · intro h; exact absurd (e3.2 h.2.2.2) ‹_›
      · constructor
        · intro h; exact absurd h ‹_›
        · intro h; exact absurd (e2.2 h.2.2.1) ‹_›
    · constructor
      · intro h; exact absurd h ‹_›
      · intro h; exact absurd (e1.2 h.2.1) ‹_›
  · constructor
    · intro h; exact absurd h ‹_›
    · intro h; exact absurd (e0.2 h.1) ‹_›
theorem cmpK_neg {a b : K4} : cmpK a b < 0 ↔ a.lt b = true := by
  obtain ⟨a0, a1, a2, a3⟩ := a
  obtain ⟨b0, b1, b2, b3⟩ := b
  simp only [cmpK, orI_cons, K4.lt, decide_eq_true_eq]
  have e0 := @cmpI_zero a0 b0
  have e1 := @cmpI_zero a1 b1
  have e2 := @cmpI_zero a2 b2
  have e3 := @cmpI_zero a3 b3
  have n0 := @cmpI_neg a0 b0
  have n1 := @cmpI_neg a1 b1
  have n2 := @cmpI_neg a2 b2
  have n3 := @cmpI_neg a3 b3
  generalize cmpI a0 b0 = c0 at *
  generalize cmpI a1 b1 = c1 at *
  generalize cmpI a2 b2 = c2 at *
  generalize cmpI a3 b3 = c3 at *
  split
  · split
    · split
      · split
        · simp only [orI]; omega
        · omega
      · omega
    · omega
  · omega
/-- The keys rise. -/
def Rising (ks : List K4) : Prop := ks.Pairwise fun a b => a.lt b = true
theorem lt_trans' {a b c : K4} (h : a.lt b = true) (k : b.lt c = true) : a.lt c = true := by
  simp only [K4.lt, decide_eq_true_eq] at *
  omega
theorem rising_get {ks : List K4} (h : Rising ks) {i j : Nat} {a b : K4} (hi : ks[i]? = some a) (hj : ks[j]? = some b) (hij : i < j) : a.lt b = true := by
  obtain ⟨h1, rfl⟩ := List.getElem?_eq_some_iff.1 hi
  obtain ⟨h2, rfl⟩ := List.getElem?_eq_some_iff.1 hj
  exact List.pairwise_iff_getElem.1 h i j h1 h2 hij
theorem below_mid {ks : List K4} (hr : Rising ks) {m : Nat} {t k : K4} (ht : ks[m]? = some t) (h : t.lt k = true) : ∀ q a, q < m + 1 → ks[q]? = some a → a.lt k = true := fun q a hq ha => by
  rcases Nat.lt_or_ge q m with h1 | h1
  · exact lt_trans' (rising_get hr ha ht h1) h
  · obtain rfl : q = m := by omega
    rw [ht] at ha; cases ha; exact h
theorem above_mid {ks : List K4} (hr : Rising ks) {m : Nat} {t k : K4} (ht : ks[m]? = some t) (h : t.lt k = false) : ∀ q a, m ≤ q → ks[q]? = some a → a.lt k = false := fun q a hq ha => by
  rw [Bool.eq_false_iff]
  intro h2
  rcases Nat.lt_or_ge m q with h1 | h1
  · rw [lt_trans' (rising_get hr ht ha h1) h2] at h; cases h
  · obtain rfl : m = q := by omega
    rw [ht] at ha; cases ha; rw [h] at h2; cases h2
/-- Where a key is, or would be. -/
structure Place (ks : List K4) (k : K4) (i : Nat) : Prop where
  le : i ≤ ks.length
  below : ∀ j a, j < i → ks[j]? = some a → a.lt k = true
  above : ∀ j a, i ≤ j → ks[j]? = some a → a.lt k = false
section
variable {W w : World} {I : Hp} {l : List HP}
set_option maxRecDepth 4000 in
set_option maxHeartbeats 2000000 in
theorem search_spec {v : Value} {ks : List K4} (k : K4) (h : St W I w (keysHP v ks :: l)) (hn : ks.length ≤ 1000000) (hr : Rising ks) :
    Calls Try.prog 96 #[v, k.val, .func (.func 57) #[] #[]] w fun e w' => Below w.heap.size w w' ∧ ∃ i : Nat, Place ks k i ∧ e = .returned (.tuple #[.int .i64 i, .bool (decide (ks[i]? = some k))]) := by
  have hown := h.row_owns
  obtain ⟨A, c, rfl⟩ := is_slice hown
  have HO := Lib.hid hown
  have HR := Lib.hid hr
  clear h hown hr
  obtain ⟨k0, k1, k2, k3⟩ := k
  unfold K4.val
  go_enter Try.func96, Try.ntmps96
  go_wp2_with fail
  go_loopw [9, 10] (fun v9 v10 wr => ∃ i j : Nat, v9 = .int .i64 i ∧ v10 = .int .i64 j ∧ i ≤ j ∧ j ≤ ks.length ∧ (∀ q a, q < i → ks[q]? = some a → a.lt ⟨k0, k1, k2, k3⟩ = true) ∧ (∀ q a, j ≤ q → ks[q]? = some a → a.lt ⟨k0, k1, k2, k3⟩ = false) ∧ Below (w.heap.size + 1) (w.alloc (.cells #[.int .i64 k0, .int .i64 k1, .int .i64 k2, .int .i64 k3] 27)) wr) (fun v9 v10 _ => (intOf v10).toNat - (intOf v9).toNat)
  case atStart => exact ⟨0, ks.length, rfl, rfl, by omega, by omega, by simp, (fun q a h h2 => by rw [List.getElem?_eq_none h] at h2; cases h2), Below.refl _ _⟩
  case round =>
    obtain ⟨i, j, rfl, rfl, hij, hj, hlo, hhi, hb⟩ := hrel
    have HL := Lib.hid hlo
    have HH := Lib.hid hhi
    have HB := Lib.hid hb
    clear hlo hhi hb
    by_cases hlt : i < j
    · obtain ⟨m, hm⟩ : ∃ m : Nat, m = (i + j) / 2 := ⟨_, rfl⟩
      have hmI : ((i : Int) + (j : Int)) / 2 = (m : Int) := by omega
      have hmn : m < ks.length := by omega
      have hmI2 : (m : Int) < (ks.length : Int) := by omega
      obtain ⟨g, rfl⟩ : ∃ g, A = some ⟨g, 0, none⟩ := by
        rcases HO.out.2 with ⟨_, e2⟩ | ⟨g, cap, cur, e1, _⟩
        · omega
        · cases e1; exact ⟨g, rfl⟩
      obtain ⟨t, ht⟩ : ∃ t, ks[m]? = some t := ⟨_, List.getElem?_eq_getElem hmn⟩
      have HT := Lib.hid ht
      have hgl : g < w.heap.size := (HO.out.lt g rfl).2
      have cw : ∀ o, wr.cell? ⟨g, o, none⟩ = w.cell? ⟨g, o, none⟩ := fun o => (HB.out.cell (p := ⟨g, o, none⟩) (by simp; omega)).trans (World.cell?_alloc_lt w _ _ hgl)
      have t0 := (cw _).trans (key_cell HO.out ht 0 (by omega))
      have t1 := (cw _).trans (key_cell HO.out ht 1 (by omega))
      have t2 := (cw _).trans (key_cell HO.out ht 2 (by omega))
      have t3 := (cw _).trans (key_cell HO.out ht 3 (by omega))
      have hk : wr.heap[w.heap.size]? = some (.cells #[.int .i64 k0, .int .i64 k1, .int .i64 k2, .int .i64 k3] 27) := (HB.out.block _ (by omega)).trans (heap_alloc_new _ _)
      have x0 := cells_of hk 0
      have x1 := cells_of hk 1
      have x2 := cells_of hk 2
      have x3 := cells_of hk 3
      simp [K4.vals] at t0 t1 t2 t3 x0 x1 x2 x3
      have HM := Lib.hid hm
      clear cw ht hk hm
      obtain ⟨s0, s1, s2, s3⟩ := t
      simp only at t0 t1 t2 t3
      go_wp2_with fail
      go_region_with (go_at_call 57
                      refine (order_any ⟨s0, s1, s2, s3⟩ ⟨k0, k1, k2, k3⟩ _).mono ?_
                      rintro e w4 ⟨rfl, hb4⟩)
      all_goals
        have hb5 := HB.out.drew.trans (hb4.mono (by have := HB.out.size; simp at this ⊢; omega))
        have HB5 := Lib.hid hb5
        clear hb4 hb5 t0 t1 t2 t3 x0 x1 x2 x3 hgl
        by_cases hc : cmpK ⟨s0, s1, s2, s3⟩ ⟨k0, k1, k2, k3⟩ < 0
        · have HC := Lib.hid hc
          go_wp2_with fail
          go_roundw
          case rel => exact ⟨m + 1, j, by go_num, rfl, by have := HM.out; omega, hj, below_mid HR.out HT.out (cmpK_neg.1 HC.out), HH.out, HB5.out⟩
          case measure => simp [intOf]; omega
        · have HC := Lib.hid hc
          go_wp2_with fail
          go_roundw
          case rel => exact ⟨i, m, rfl, by go_num, by have := HM.out; omega, by omega, HL.out, above_mid HR.out HT.out (by rw [Bool.eq_false_iff]; exact fun h => HC.out (cmpK_neg.2 h)), HB5.out⟩
          case measure => simp [intOf]; omega
    · obtain rfl : i = j := by omega
      have HPl := Lib.hid (show Place ks ⟨k0, k1, k2, k3⟩ i from ⟨hj, HL.out, HH.out⟩)
      have hbw : Below w.heap.size w wr := (below_alloc _ _).trans (HB.out.mono (by omega))
      have HBW := Lib.hid hbw
      by_cases hin : i < ks.length
      · have hinI : (i : Int) < (ks.length : Int) := by omega
        have hd : decide ((i : Int) < (ks.length : Int)) = true := by simpa using hin
        obtain ⟨g, rfl⟩ : ∃ g, A = some ⟨g, 0, none⟩ := by
          rcases HO.out.2 with ⟨_, e2⟩ | ⟨g, cap, cur, e1, _⟩
          · omega
          · cases e1; exact ⟨g, rfl⟩
        obtain ⟨t, ht⟩ : ∃ t, ks[i]? = some t := ⟨_, List.getElem?_eq_getElem hin⟩
        have HT := Lib.hid ht
        have hgl : g < w.heap.size := (HO.out.lt g rfl).2
        have cw : ∀ o, wr.cell? ⟨g, o, none⟩ = w.cell? ⟨g, o, none⟩ := fun o => hbw.cell (p := ⟨g, o, none⟩) hgl
        have t0 := (cw _).trans (key_cell HO.out ht 0 (by omega))
        have t1 := (cw _).trans (key_cell HO.out ht 1 (by omega))
        have t2 := (cw _).trans (key_cell HO.out ht 2 (by omega))
        have t3 := (cw _).trans (key_cell HO.out ht 3 (by omega))
        have hk : wr.heap[w.heap.size]? = some (.cells #[.int .i64 k0, .int .i64 k1, .int .i64 k2, .int .i64 k3] 27) := (HB.out.block _ (by omega)).trans (heap_alloc_new _ _)
        have x0 := cells_of hk 0
        have x1 := cells_of hk 1
        have x2 := cells_of hk 2
        have x3 := cells_of hk 3
        simp [K4.vals] at t0 t1 t2 t3 x0 x1 x2 x3
        clear cw ht hk hbw
        obtain ⟨s0, s1, s2, s3⟩ := t
        simp only at t0 t1 t2 t3
        go_wp2_with fail
        have hww : Below wr.heap.size wr wr := Below.refl _ _
        have hlt1 : w.heap.size < wr.heap.size := by have := HB.out.size; simp at this; omega
        have hlt2 : g < wr.heap.size := by omega
        clear hgl
        go_region_held3 (fun w' => w'.cell? ⟨g, i * 4, none⟩ = some (.int .i64 s0) ∧ w'.cell? ⟨g, i * 4 + 1, none⟩ = some (.int .i64 s1) ∧ w'.cell? ⟨g, i * 4 + 2, none⟩ = some (.int .i64 s2) ∧ w'.cell? ⟨g, i * 4 + 3, none⟩ = some (.int .i64 s3) ∧
            w'.cell? ⟨w.heap.size, 0, none⟩ = some (.int .i64 k0) ∧ w'.cell? ⟨w.heap.size, 1, none⟩ = some (.int .i64 k1) ∧ w'.cell? ⟨w.heap.size, 2, none⟩ = some (.int .i64 k2) ∧ w'.cell? ⟨w.heap.size, 3, none⟩ = some (.int .i64 k3))
          (first
            | go_keep
            | (go_split_ands
               refine ⟨?_, ?_, ?_, ?_, ?_, ?_, ?_, ?_⟩ <;> (rw [hb4.cell (by first | exact hlt1 | exact hlt2)]; assumption))
            | fail)
          (first
            | (go_at_call 57
               refine (order_any ⟨s0, s1, s2, s3⟩ ⟨k0, k1, k2, k3⟩ _).mono ?_
               rintro e w4 ⟨rfl, hb4⟩)
            | fail)
        all_goals
          have HB5 := Lib.hid (HBW.out.drew.trans (hb4.mono (by have := HBW.out.size; simp at this ⊢; omega)))
          clear hb4 t0 t1 t2 t3 x0 x1 x2 x3
          go_wp2_with fail
          go_ret2
          refine ⟨HB5.out, i, HPl.out, ?_⟩
          have e1 : (cmpK ⟨s0, s1, s2, s3⟩ ⟨k0, k1, k2, k3⟩ == 0) = decide (ks[i]? = some ⟨k0, k1, k2, k3⟩) := by
            rw [HT.out, Bool.eq_iff_iff, beq_iff_eq, cmpK_zero, decide_eq_true_eq, Option.some.injEq]
          rw [← e1]
          simp
      · have hd : decide ((i : Int) < (ks.length : Int)) = false := by simp; omega
        have hno : ks[i]? = none := List.getElem?_eq_none (by omega)
        clear hbw
        go_wp2_with fail
        go_quiet (fail)
        go_wp2
        go_ret2
        refine ⟨below_drewN HBW.out _, i, HPl.out, ?_⟩
        rw [hno]
        simp
end
end Go.Proofs.Ytnokhjhhadnckaa
