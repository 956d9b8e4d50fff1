/- slices.Clone at the types that the store uses. -/
import Derived.Test.YtnokhjhhadnckaaStoreRead
set_option linter.unusedSimpArgs false
set_option linter.unusedVariables false
set_option linter.unusedSectionVars false
namespace Go.Proofs.Ytnokhjhhadnckaa
open Go.RowKit
/-- A slice that reads as so many cells. -/
def SliceSrc (w : World) (size : Nat) (v : Value) (n : Nat) (xs : List Value) : Prop := ∃ A c, v = .slice A n c ∧ SrcAt w size A n xs ∧ (A = none → c = 0)
theorem SrcAt.below {w w' : World} {size : Nat} {A : Option Addr} {m : Nat} {xs : List Value} (h : SrcAt w size A m xs) (hb : Below w.heap.size w w') : SrcAt w' size A m xs :=
  ⟨h.len, fun hm => by
    obtain ⟨ad, e, hc⟩ := h.cells hm
    refine ⟨ad, e, fun j u hu => ?_⟩
    have := hc j u hu
    have hlt := World.block_lt_of_cell? w _ this
    exact (hb.cell hlt).trans this, h.one⟩
theorem SliceSrc.below {w w' : World} {size : Nat} {v : Value} {n : Nat} {xs : List Value} (h : SliceSrc w size v n xs) (hb : Below w.heap.size w w') : SliceSrc w' size v n xs := by
  obtain ⟨A, c, e, h, hA⟩ := h
  exact ⟨A, c, e, h.below hb, hA⟩
/-- What is owned can be read. -/
theorem SliceSrc.of_owns {w : World} {base : Nat} {e : TypeId} {size : Nat} {v : Value} {n : Nat} {xs : List Value} (h : w.ownsRow base e size v n xs) (h1 : ∀ u ∈ xs, u.oneCell' = true) : SliceSrc w size v n xs := by
  have h' := h
  obtain ⟨hl, p⟩ := h
  rcases p with ⟨rfl, rfl⟩ | ⟨g, cap, cur, rfl, hb, hg, hnc, hcm, hcs, ht⟩
  · exact ⟨none, 0, rfl, ⟨hl, fun h => absurd h (by omega), h1⟩, fun _ => rfl⟩
  · refine ⟨some ⟨g, 0, none⟩, cap, rfl, ⟨hl, fun _ => ⟨_, rfl, fun j u hu => h'.cells (g := g) rfl j u hu⟩, h1⟩, fun e => by cases e⟩
theorem RowI.src {I : Hp} {w : World} {size : Nat} {v : Value} {n : Nat} {xs : List Value} (h : RowI I size v n xs) (hI : I.sub w.hp) (h1 : ∀ u ∈ xs, u.oneCell' = true) (hs : 0 < size) : SliceSrc w size v n xs := by
  obtain ⟨A, c, rfl, h2, h3, h4, h5, h6⟩ := h
  refine ⟨A, c, rfl, ⟨h2, fun hn => ?_, h1⟩, h5⟩
  obtain ⟨b, off, cs, t, f, e1, e2, e3⟩ := h6 hn
  refine ⟨_, e1, fun j u hu => ?_⟩
  have hw : w.heap[b]? = some (.cells cs t f) := hI _ _ e2
  have plain : (⟨b, off, none⟩ : Addr).add j = ⟨b, off + j, none⟩ := by
    unfold Addr.add; split
    · subst j; rfl
    · rfl
  rw [plain]
  simp [World.cell?, hw, e3 j u hu]
theorem bytes_one (p : List Int) : ∀ u ∈ p.map byteV, u.oneCell' = true := by
  intro u hu
  obtain ⟨x, _, rfl⟩ := List.mem_map.1 hu
  rfl
theorem ints_one (p : List Int) : ∀ u ∈ p.map intV, u.oneCell' = true := by
  intro u hu
  obtain ⟨x, _, rfl⟩ := List.mem_map.1 hu
  rfl
theorem keys_one (p : List K4) : ∀ u ∈ p.flatMap K4.vals, u.oneCell' = true := by
  intro u hu
  obtain ⟨x, _, hx⟩ := List.mem_flatMap.1 hu
  simp only [K4.vals, List.mem_cons, List.not_mem_nil, or_false] at hx
  rcases hx with rfl | rfl | rfl | rfl <;> rfl
theorem info_parts {P : Program} {e : TypeId} {z : Value} {s b : Nat} (h : (P.info? e).map (fun i => (i.zero, i.size, i.bytes)) = some (some z, s, b)) : ∃ i, P.info? e = some i ∧ i.zero = some z ∧ i.size = s ∧ i.bytes = b := by
  cases hi : P.info? e with
  | none => rw [hi] at h; cases h
  | some i =>
    rw [hi] at h
    simp only [Option.map_some, Option.some.injEq, Prod.mk.injEq] at h
    exact ⟨i, rfl, h.1, h.2.1, h.2.2⟩
theorem cloneB_info : (Try.prog.info? 5).map (fun i => (i.zero, i.size, i.bytes)) = some (some (.int .u8 0), 1, 1) := by kernel_rfl
theorem cloneI_info : (Try.prog.info? 3).map (fun i => (i.zero, i.size, i.bytes)) = some (some (.int .i64 0), 1, 8) := by kernel_rfl
theorem cloneK_info : (Try.prog.info? 27).map (fun i => (i.zero, i.size, i.bytes)) = some (some (.agg #[.int .i64 0, .int .i64 0, .int .i64 0, .int .i64 0]), 4, 32) := by kernel_rfl
theorem cloneD_info : (Try.prog.info? 95).map (fun i => (i.zero, i.size, i.bytes)) = some (some (.agg #[.int .i64 0, .int .i64 0, .slice none 0 0, .string ⟨#[]⟩]), 4, 56) := by kernel_rfl
set_option maxHeartbeats 1000000
theorem cloneB_spec (v : Value) (n : Nat) (xs : List Value) (w : World) (hs : SliceSrc w 1 v n xs) (hn : n ≤ 1000000) :
    Calls Try.prog 61 #[v] w fun e w' => ∃ v', e = .returned v' ∧ w'.ownsRow w.heap.size 5 1 v' n xs ∧ Below w.heap.size w w' := by
  obtain ⟨A, c, rfl, hsrc, hA⟩ := hs
  cases A with
  | none =>
    have h0 : n = 0 := by
      rcases Nat.eq_zero_or_pos n with h | h
      · exact h
      · obtain ⟨_, e, _⟩ := hsrc.cells h; cases e
    subst h0
    have hx : xs = [] := List.eq_nil_of_length_eq_zero (by rw [hsrc.len, Nat.zero_mul])
    subst hx
    obtain rfl := hA rfl
    have hq := @Lib.run_eql_slice_nil Try.prog
    go_enter Try.func61, Try.ntmps61
    go_wp2
    go_ret
    exact ⟨_, rfl, World.ownsRow_nil _ _ _ _, Below.refl _ _⟩
  | some ad =>
    obtain ⟨i0, hi0, hz0, hz1, hz2⟩ := info_parts cloneB_info
    have hq := @Lib.run_eql_slice_nil Try.prog
    go_enter Try.func61, Try.ntmps61
    have hown := World.ownsRow_made (base := w.heap.size) (e := 5) (size := 1) w #[] 0 (Nat.le_refl _) (Nat.zero_le _) rfl
    go_wp2_with (at_builtin
                 refine wpList_append_src _ rfl (.tmp 5) (.tmp 6) _ rfl w.heap.size 5 i0 _ 1 1 Try.underlying31 hi0 hz0 hz1 hz2 rfl (by omega) _ 0 [] rfl hown (some ad) n c xs rfl
                   (hsrc.below (below_alloc _ _)) (fun h => by cases h) (by simp only [maxLen]; omega) (by omega) (by simp) ?_
                 intro v1 w1 hown1 hg1 hat1)
    go_ret
    refine ⟨_, rfl, by simpa using hown1, ((Below.refl _ _).alloc (Nat.le_refl _) _).grown hg1 (by simp) (fun k hk => ?_)⟩
    have hk' : some w.heap.size = some k := hk
    injection hk' with hk'
    omega
theorem cloneI_spec (v : Value) (n : Nat) (xs : List Value) (w : World) (hs : SliceSrc w 1 v n xs) (hn : n ≤ 1000000) :
    Calls Try.prog 74 #[v] w fun e w' => ∃ v', e = .returned v' ∧ w'.ownsRow w.heap.size 3 1 v' n xs ∧ Below w.heap.size w w' := by
  obtain ⟨A, c, rfl, hsrc, hA⟩ := hs
  cases A with
  | none =>
    have h0 : n = 0 := by
      rcases Nat.eq_zero_or_pos n with h | h
      · exact h
      · obtain ⟨_, e, _⟩ := hsrc.cells h; cases e
    subst h0
    have hx : xs = [] := List.eq_nil_of_length_eq_zero (by rw [hsrc.len, Nat.zero_mul])
    subst hx
    obtain rfl := hA rfl
    have hq := @Lib.run_eql_slice_nil Try.prog
    go_enter Try.func74, Try.ntmps74
    go_wp2
    go_ret
    exact ⟨_, rfl, World.ownsRow_nil _ _ _ _, Below.refl _ _⟩
  | some ad =>
    obtain ⟨i0, hi0, hz0, hz1, hz2⟩ := info_parts cloneI_info
    have hq := @Lib.run_eql_slice_nil Try.prog
    go_enter Try.func74, Try.ntmps74
    have hown := World.ownsRow_made (base := w.heap.size) (e := 3) (size := 1) w #[] 0 (Nat.le_refl _) (Nat.zero_le _) rfl
    go_wp2_with (at_builtin
                 refine wpList_append_src _ rfl (.tmp 5) (.tmp 6) _ rfl w.heap.size 3 i0 _ 1 8 Try.underlying34 hi0 hz0 hz1 hz2 rfl (by omega) _ 0 [] rfl hown (some ad) n c xs rfl
                   (hsrc.below (below_alloc _ _)) (fun h => by cases h) (by simp only [maxLen]; omega) (by omega) (by simp) ?_
                 intro v1 w1 hown1 hg1 hat1)
    go_ret
    refine ⟨_, rfl, by simpa using hown1, ((Below.refl _ _).alloc (Nat.le_refl _) _).grown hg1 (by simp) (fun k hk => ?_)⟩
    have hk' : some w.heap.size = some k := hk
    injection hk' with hk'
    omega
theorem cloneK_spec (v : Value) (n : Nat) (xs : List Value) (w : World) (hs : SliceSrc w 4 v n xs) (hn : n ≤ 1000000) :
    Calls Try.prog 62 #[v] w fun e w' => ∃ v', e = .returned v' ∧ w'.ownsRow w.heap.size 27 4 v' n xs ∧ Below w.heap.size w w' := by
  obtain ⟨A, c, rfl, hsrc, hA⟩ := hs
  cases A with
  | none =>
    have h0 : n = 0 := by
      rcases Nat.eq_zero_or_pos n with h | h
      · exact h
      · obtain ⟨_, e, _⟩ := hsrc.cells h; cases e
    subst h0
    have hx : xs = [] := List.eq_nil_of_length_eq_zero (by rw [hsrc.len, Nat.zero_mul])
    subst hx
    obtain rfl := hA rfl
    have hq := @Lib.run_eql_slice_nil Try.prog
    go_enter Try.func62, Try.ntmps62
    go_wp2
    go_ret
    exact ⟨_, rfl, World.ownsRow_nil _ _ _ _, Below.refl _ _⟩
  | some ad =>
    obtain ⟨i0, hi0, hz0, hz1, hz2⟩ := info_parts cloneK_info
    have hq := @Lib.run_eql_slice_nil Try.prog
    go_enter Try.func62, Try.ntmps62
    have hown := World.ownsRow_made (base := w.heap.size) (e := 27) (size := 4) w #[] 0 (Nat.le_refl _) (Nat.zero_le _) rfl
    go_wp2_with (at_builtin
                 refine wpList_append_src _ rfl (.tmp 5) (.tmp 6) _ rfl w.heap.size 27 i0 _ 4 32 Try.underlying40 hi0 hz0 hz1 hz2 rfl (by omega) _ 0 [] rfl hown (some ad) n c xs rfl
                   (hsrc.below (below_alloc _ _)) (fun h => by cases h) (by simp only [maxLen]; omega) (by omega) (by simp) ?_
                 intro v1 w1 hown1 hg1 hat1)
    go_ret
    refine ⟨_, rfl, by simpa using hown1, ((Below.refl _ _).alloc (Nat.le_refl _) _).grown hg1 (by simp) (fun k hk => ?_)⟩
    have hk' : some w.heap.size = some k := hk
    injection hk' with hk'
    omega
theorem cloneD_spec (v : Value) (n : Nat) (xs : List Value) (w : World) (hs : SliceSrc w 4 v n xs) (hn : n ≤ 1000000) :
    Calls Try.prog 75 #[v] w fun e w' => ∃ v', e = .returned v' ∧ w'.ownsRow w.heap.size 95 4 v' n xs ∧ Below w.heap.size w w' := by
  obtain ⟨A, c, rfl, hsrc, hA⟩ := hs
  cases A with
  | none =>
    have h0 : n = 0 := by
      rcases Nat.eq_zero_or_pos n with h | h
      · exact h
      · obtain ⟨_, e, _⟩ := hsrc.cells h; cases e
    subst h0
    have hx : xs = [] := List.eq_nil_of_length_eq_zero (by rw [hsrc.len, Nat.zero_mul])
    subst hx
    obtain rfl := hA rfl
    have hq := @Lib.run_eql_slice_nil Try.prog
    go_enter Try.func75, Try.ntmps75
    go_wp2
    go_ret
    exact ⟨_, rfl, World.ownsRow_nil _ _ _ _, Below.refl _ _⟩
  | some ad =>
    obtain ⟨i0, hi0, hz0, hz1, hz2⟩ := info_parts cloneD_info
    have hq := @Lib.run_eql_slice_nil Try.prog
    go_enter Try.func75, Try.ntmps75
    have hown := World.ownsRow_made (base := w.heap.size) (e := 95) (size := 4) w #[] 0 (Nat.le_refl _) (Nat.zero_le _) rfl
    go_wp2_with (at_builtin
                 refine wpList_append_src _ rfl (.tmp 5) (.tmp 6) _ rfl w.heap.size 95 i0 _ 4 56 Try.underlying105 hi0 hz0 hz1 hz2 rfl (by omega) _ 0 [] rfl hown (some ad) n c xs rfl
                   (hsrc.below (below_alloc _ _)) (fun h => by cases h) (by simp only [maxLen]; omega) (by omega) (by simp) ?_
                 intro v1 w1 hown1 hg1 hat1)
    go_ret
    refine ⟨_, rfl, by simpa using hown1, ((Below.refl _ _).alloc (Nat.le_refl _) _).grown hg1 (by simp) (fun k hk => ?_)⟩
    have hk' : some w.heap.size = some k := hk
    injection hk' with hk'
    omega
end Go.Proofs.Ytnokhjhhadnckaa
