/- An object behind a deed. -/
import Derived.Test.YtnokhjhhadnckaaLay
import Derived.Test.YtnokhjhhadnckaaRegions
set_option linter.unusedSimpArgs false
set_option linter.unusedVariables false
set_option linter.unusedSectionVars false
namespace Go.Proofs.Ytnokhjhhadnckaa
open Go.RowKit
section
variable {W w : World} {I : Hp} {l : List HP} {v : Value}
/-- An object, or none. -/
def optHP (v : Value) : Option TS → HP
  | none => HP.pure (v = .pointer none)
  | some t => thingHP v t
def TS.small (t : TS) : Prop := t.b.length ≤ 20480 ∧ ∀ x ∈ t.attr, x.2.length ≤ 4096
def Dd.good (d : Dd) : Prop := 0 ≤ d.n ∧ d.n + d.p.length ≤ 20480 ∧ d.p.length ≤ 20480 ∧ (d.kind = 4 → d.p.length ≤ 4096)
theorem good_nat {d : Dd} (h : d.good) : ∃ n : Nat, d.n = n ∧ n + d.p.length ≤ 20480 := by
  obtain ⟨h1, h2, _⟩ := h
  exact ⟨d.n.toNat, by omega, by omega⟩
set_option maxRecDepth 4000
set_option maxHeartbeats 2000000
/-- made -/
theorem do_made (vt pv : Value) (d : Dd) (hk : d.kind = 0) (h : St W I w l) :
    Calls Try.prog 90 #[vt, .agg #[.int .i64 d.kind, .int .i64 d.n, pv, .string d.name]] w fun e w' => ∃ v', e = .returned v' ∧ St W I w' (thingHP v' ⟨[], []⟩ :: l) := by
  rw [hk]
  have H := Lib.hid h
  have hmm := @run_makeMap Try.prog
  clear h
  go_enter Try.func90, Try.ntmps90
  go_wp2
  go_ret
  refine ⟨_, rfl, ?_⟩
  have h1 := ((H.out.alloc (.cells #[.int .i64 0, .int .i64 d.n, pv, .string d.name] 95)).drop.alloc (.map #[] 0)).alloc (.cells #[.slice none 0 0, .map (some (w.alloc (.cells #[.int .i64 0, .int .i64 d.n, pv, .string d.name] 95)).heap.size)] 100)
  have e1 : (w.alloc (.cells #[.int .i64 0, .int .i64 d.n, pv, .string d.name] 95)).heap.size = w.heap.size + 1 := by simp
  have e2 : ((w.alloc (.cells #[.int .i64 0, .int .i64 d.n, pv, .string d.name] 95)).alloc (.map #[] 0)).heap.size = w.heap.size + 1 + 1 := by simp
  rw [e1, e2] at h1
  have h2 := (h1.pull 1 _ rfl).mapOf_made (T := nameKT) (own := attrOwn)
  have h3 : St _ _ _ (bytesHP (.slice none 0 0) [] :: _) := h2.row_nil 5 1
  exact (h3.perm (m := HP.pt (w.heap.size + 1 + 1) (.cells #[.slice none 0 0, .map (some (w.heap.size + 1))] 100) :: bytesHP (.slice none 0 0) [] :: HP.mapOf nameKT attrOwn (w.heap.size + 1) [] :: l) (by ((try simp only [List.eraseIdx_cons_succ, List.eraseIdx_cons_zero, List.cons_append, List.nil_append]); repeat (first | with_reducible exact List.Perm.refl _ | (apply perm_step; (· repeat (first | with_reducible exact find_here | with_reducible apply find_there))))))).thing_shut (t := ⟨[], []⟩)
/-- gone -/
theorem do_gone (vt pv : Value) (d : Dd) (hk : d.kind = 3) (w : World) :
    Calls Try.prog 90 #[vt, .agg #[.int .i64 d.kind, .int .i64 d.n, pv, .string d.name]] w fun e w' => e = .returned (.pointer none) ∧ Below w.heap.size w w' := by
  rw [hk]
  go_enter Try.func90, Try.ntmps90
  go_wp2
  go_ret
  exact ⟨rfl, below_alloc _ _⟩
theorem do_nil (pv : Value) (d : Dd) (h0 : (d.kind == 0) = false) (h3 : (d.kind == 3) = false) (w : World) :
    Calls Try.prog 90 #[.pointer none, .agg #[.int .i64 d.kind, .int .i64 d.n, pv, .string d.name]] w fun e w' => e = .returned (.pointer none) ∧ Below w.heap.size w w' := by
  go_enter Try.func90, Try.ntmps90
  go_wp2
  go_ret
  exact ⟨rfl, below_alloc _ _⟩
theorem do_wrote {t : TS} (pv : Value) (d : Dd) (hd : d.good) (ht : t.small) (hk : d.kind = 1) (h : St W I w (thingHP v t :: l)) (hp : BytesI I pv d.p) :
    Calls Try.prog 90 #[v, .agg #[.int .i64 d.kind, .int .i64 d.n, pv, .string d.name]] w fun e w' => e = .returned v ∧ St W I w' (thingHP v { t with b := layB t.b d.n.toNat d.p } :: l) := by
  rw [hk]
  obtain ⟨n, hn, hn2⟩ := good_nat hd
  rw [hn]
  have hv : ∃ b, v = .pointer (some ⟨b, 0, none⟩) := by
    obtain ⟨b, m, vb, e, _⟩ := h.thing_open
    exact ⟨b, e⟩
  obtain ⟨b, rfl⟩ := hv
  have h' := h.keep (below_alloc w (.cells #[.int .i64 1, .int .i64 n, pv, .string d.name] 95))
  have H := Lib.hid h'
  have HB := Lib.hid hp
  clear h h' hp
  go_enter Try.func90, Try.ntmps90
  go_wp2_with fail
  refine (lay_spec H.out HB.out (by omega) (by have := ht.1; omega)).mono ?_
  rintro e w1 ⟨rfl, h1⟩
  have H1 := Lib.hid h1
  clear h1
  go_wp2
  go_ret
  exact ⟨rfl, by simpa using H1.out⟩
theorem cut_end {t : TS} {b m q : Nat} {A0 A4 : Option Addr} {k0 k4 : Nat} (h : St W I w (HP.pt b (.cells #[.slice A0 t.b.length k0, .map (some m)] 100) ::
      ((HP.row 5 1 (.slice A4 q k4) q ((t.b.take q).map byteV) :: HP.pt b (.cells #[.slice A0 t.b.length k0, .map (some m)] 100) :: bytesHP (.slice A0 t.b.length k0) t.b :: HP.mapOf nameKT attrOwn m t.attr :: l).eraseIdx 1))) (hq : q ≤ t.b.length) :
    St W I (w.setCell ⟨b, 0, none⟩ (.slice A4 q k4)) (thingHP (.pointer (some ⟨b, 0, none⟩)) { t with b := t.b.take q } :: l) := by
  have h8 : St W I (w.setCell ⟨b, 0, none⟩ (.slice A4 q k4)) (HP.pt b (.cells #[.slice A4 q k4, .map (some m)] 100) :: HP.row 5 1 (.slice A4 q k4) q ((t.b.take q).map byteV) :: bytesHP (.slice A0 t.b.length k0) t.b :: HP.mapOf nameKT attrOwn m t.attr :: l) := h.setCell 0 _
  have e : HP.row 5 1 (.slice A4 q k4) q ((t.b.take q).map byteV) = bytesHP (.slice A4 q k4) (t.b.take q) := by
    unfold bytesHP
    rw [show (t.b.take q).length = q by rw [List.length_take]; omega]
  rw [e] at h8
  exact ((h8.perm (m := bytesHP (.slice A0 t.b.length k0) t.b :: HP.pt b (.cells #[.slice A4 q k4, .map (some m)] 100) :: bytesHP (.slice A4 q k4) (t.b.take q) :: HP.mapOf nameKT attrOwn m t.attr :: l) (by ((try simp only [List.eraseIdx_cons_succ, List.eraseIdx_cons_zero, List.cons_append, List.nil_append]); repeat (first | with_reducible exact List.Perm.refl _ | (apply perm_step; (· repeat (first | with_reducible exact find_here | with_reducible apply find_there))))))).drop).thing_shut (t := { t with b := t.b.take q })
theorem do_cut {t : TS} (pv : Value) (d : Dd) (hd : d.good) (ht : t.small) (hk : d.kind = 2) (h : St W I w (thingHP v t :: l)) :
    Calls Try.prog 90 #[v, .agg #[.int .i64 d.kind, .int .i64 d.n, pv, .string d.name]] w fun e w' => e = .returned v ∧ St W I w' (thingHP v { t with b := t.b.take (min d.n.toNat t.b.length) } :: l) := by
  rw [hk]
  obtain ⟨n, hn, hn2⟩ := good_nat hd
  rw [hn, Int.toNat_natCast]
  have htl : t.b.length ≤ 20480 := ht.1
  clear hd ht hk
  obtain ⟨b, m, vb, rfl, hs⟩ := h.thing_open
  clear h
  have h := hs.keep (below_alloc w (.cells #[.int .i64 2, .int .i64 n, pv, .string d.name] 95))
  have hlt := hs.lt
  have c0 := cells_of hs.heap 0
  have c0' : World.cell? (w.alloc (.cells #[.int .i64 2, .int .i64 n, pv, .string d.name] 95)) ⟨b, 0, none⟩ = some vb := cells_of h.heap 0
  have f0 := frozen_of_row h.heap 0
  have d1 : World.cell? (w.alloc (.cells #[.int .i64 2, .int .i64 n, pv, .string d.name] 95)) ⟨w.heap.size, 1, none⟩ = some (.int .i64 n) := cells_of (heap_alloc_new w _) 1
  simp at c0
  have hown := (h.pull 1 _ rfl).row_owns
  obtain ⟨A0, k0, rfl⟩ := is_slice hown
  have hkn : t.b.length ≤ k0 := by
    rcases hown.2 with ⟨e1, e2⟩ | ⟨g, cap, cur, e1, _, _, h1, _⟩
    · omega
    · cases e1; exact h1
  obtain ⟨q, hq⟩ : ∃ q : Nat, q = min n t.b.length := ⟨_, rfl⟩
  have hmin : min (n : Int) (t.b.length : Int) = (q : Int) := by omega
  rw [← hq]
  have hqn : q ≤ t.b.length := by omega
  have hsrc : SliceSrc (w.alloc (.cells #[.int .i64 2, .int .i64 n, pv, .string d.name] 95)) 1 (.slice A0 q k0) q ((t.b.take q).map byteV) := by
    obtain ⟨A, c, e1, h1, h2⟩ := SliceSrc.of_owns hown (bytes_one _)
    cases e1
    refine ⟨_, _, rfl, ⟨by simp; omega, fun hp => ?_, bytes_one _⟩, h2⟩
    obtain ⟨ad, e2, h3⟩ := h1.cells (by omega)
    refine ⟨ad, e2, fun j u hu => h3 j u ?_⟩
    rw [List.map_take, List.getElem?_take] at hu
    split at hu
    · exact hu
    · cases hu
  have hA : (A0 = none ∧ k0 = 0 ∧ q = 0 ∧ t.b.length = 0) ∨ (∃ g, A0 = some ⟨g, 0, none⟩ ∧ k0 = 0 ∧ q = 0 ∧ t.b.length = 0) ∨ ∃ g, A0 = some ⟨g, 0, none⟩ ∧ 0 < k0 := by
    rcases hown.2 with ⟨e1, e2⟩ | ⟨g, cap, cur, e1, _⟩
    · simp only [Value.slice.injEq] at e1
      exact .inl ⟨e1.1, e1.2.2, by omega, e2⟩
    · cases e1
      by_cases hz : k0 = 0
      · exact .inr (.inl ⟨g, rfl, hz, by omega, by omega⟩)
      · exact .inr (.inr ⟨g, rfl, by omega⟩)
  have H := Lib.hid h
  have HX := Lib.hid hsrc
  have HQ := Lib.hid hq
  clear h hs hsrc hown hq
  have hq20 : q ≤ 1000000 := by omega
  have hqk : q ≤ k0 := by omega
  have hqk2 : ((q : Nat) : Int) ≤ ((k0 : Nat) : Int) := by omega
  clear hqn hkn
  have hsplit : (t.b.length < n ∧ q = t.b.length) ∨ (¬ t.b.length < n ∧ n = q) := by omega
  rcases hA with ⟨rfl, rfl, rfl, htz⟩ | ⟨g, rfl, rfl, rfl, htz⟩ | ⟨g, rfl, hk0⟩
  · by_cases hn0 : n = 0
    · subst hn0
      simp only [Int.natCast_zero] at *
      clear hmin hqk2
      go_enter Try.func90, Try.ntmps90
      go_wp2_with fail
      clear c0 f0
      refine wp_region_calm [0] [1, 2, 3, 4, 5, 6, 7, 8, 9, 10, 11, 12, 13] [14, 15, 16, 17] (by kernel_rfl) (by kernel_rfl) ?_
      simp only [pickL, List.getElem?_cons_zero, List.getElem?_cons_succ]
      repeat (refine wpPlain_step _ (Or.inl ⟨by rfl, by intro w; go_simp; try with_reducible rfl⟩) ?_; (try simp only [Act.put, List.setIfInBounds_toArray, List.set_cons_zero, List.set_cons_succ]))
      refine wpPlain_nil ?_
      repeat still_step
      refine wpStill_nil ?_
      go_wp2_with fail
      refine (cloneB_spec _ _ _ _ (HX.out.below (Below.refl _ _).drew) hq20).mono ?_
      rintro e w4 ⟨v4, rfl, ho4, hb4⟩
      obtain ⟨A4, k4, rfl⟩ := is_slice ho4
      have h5 := H.out.drew.row_fresh hb4 ho4
      have h6 := h5.pull 1 _ rfl
      have c6 := cells_of h6.heap 0
      have f6 := frozen_of_row h6.heap 0
      have l6 := h6.lt
      simp at c6
      have H6 := Lib.hid h6
      clear h5 h6 hb4 ho4 HX d1 c0' hqk
      go_wp2_with fail
      refine NoPanic.normal ?_
      go_wp2_with fail
      go_ret
      refine ⟨rfl, ?_⟩
      exact cut_end H6.out (by omega)
    · have hs1 : 0 < n := by omega
      clear hn0
      clear hmin hqk2
      go_enter Try.func90, Try.ntmps90
      go_wp2_with fail
      clear c0 f0
      refine wp_region_calm [0] [1, 2, 3, 4, 5, 6, 7, 8, 9, 10, 11, 12, 13] [14, 15, 16, 17] (by kernel_rfl) (by kernel_rfl) ?_
      simp only [pickL, List.getElem?_cons_zero, List.getElem?_cons_succ]
      repeat (refine wpPlain_step _ (Or.inl ⟨by rfl, by intro w; go_simp; try with_reducible rfl⟩) ?_; (try simp only [Act.put, List.setIfInBounds_toArray, List.set_cons_zero, List.set_cons_succ]))
      refine wpPlain_nil ?_
      repeat still_step
      refine wpStill_nil ?_
      go_wp2_with fail
      refine (cloneB_spec _ _ _ _ (HX.out.below (Below.refl _ _).drew) hq20).mono ?_
      rintro e w4 ⟨v4, rfl, ho4, hb4⟩
      obtain ⟨A4, k4, rfl⟩ := is_slice ho4
      have h5 := H.out.drew.row_fresh hb4 ho4
      have h6 := h5.pull 1 _ rfl
      have c6 := cells_of h6.heap 0
      have f6 := frozen_of_row h6.heap 0
      have l6 := h6.lt
      simp at c6
      have H6 := Lib.hid h6
      clear h5 h6 hb4 ho4 HX d1 c0' hqk
      go_wp2_with fail
      refine NoPanic.normal ?_
      go_wp2_with fail
      go_ret
      refine ⟨rfl, ?_⟩
      exact cut_end H6.out (by omega)
  · by_cases hn0 : n = 0
    · subst hn0
      simp only [Int.natCast_zero] at *
      clear hmin hqk2
      go_enter Try.func90, Try.ntmps90
      go_wp2_with fail
      clear c0 f0
      refine wp_region_calm [0] [1, 2, 3, 4, 5, 6, 7, 8, 9, 10, 11, 12, 13] [14, 15, 16, 17] (by kernel_rfl) (by kernel_rfl) ?_
      simp only [pickL, List.getElem?_cons_zero, List.getElem?_cons_succ]
      repeat (refine wpPlain_step _ (Or.inl ⟨by rfl, by intro w; go_simp; try with_reducible rfl⟩) ?_; (try simp only [Act.put, List.setIfInBounds_toArray, List.set_cons_zero, List.set_cons_succ]))
      refine wpPlain_nil ?_
      repeat still_step
      refine wpStill_nil ?_
      go_wp2_with fail
      refine (cloneB_spec _ _ _ _ (HX.out.below (Below.refl _ _).drew) hq20).mono ?_
      rintro e w4 ⟨v4, rfl, ho4, hb4⟩
      obtain ⟨A4, k4, rfl⟩ := is_slice ho4
      have h5 := H.out.drew.row_fresh hb4 ho4
      have h6 := h5.pull 1 _ rfl
      have c6 := cells_of h6.heap 0
      have f6 := frozen_of_row h6.heap 0
      have l6 := h6.lt
      simp at c6
      have H6 := Lib.hid h6
      clear h5 h6 hb4 ho4 HX d1 c0' hqk
      go_wp2_with fail
      refine NoPanic.normal ?_
      go_wp2_with fail
      go_ret
      refine ⟨rfl, ?_⟩
      exact cut_end H6.out (by omega)
    · have hs1 : 0 < n := by omega
      clear hn0
      clear hmin hqk2
      go_enter Try.func90, Try.ntmps90
      go_wp2_with fail
      clear c0 f0
      refine wp_region_calm [0] [1, 2, 3, 4, 5, 6, 7, 8, 9, 10, 11, 12, 13] [14, 15, 16, 17] (by kernel_rfl) (by kernel_rfl) ?_
      simp only [pickL, List.getElem?_cons_zero, List.getElem?_cons_succ]
      repeat (refine wpPlain_step _ (Or.inl ⟨by rfl, by intro w; go_simp; try with_reducible rfl⟩) ?_; (try simp only [Act.put, List.setIfInBounds_toArray, List.set_cons_zero, List.set_cons_succ]))
      refine wpPlain_nil ?_
      repeat still_step
      refine wpStill_nil ?_
      go_wp2_with fail
      refine (cloneB_spec _ _ _ _ (HX.out.below (Below.refl _ _).drew) hq20).mono ?_
      rintro e w4 ⟨v4, rfl, ho4, hb4⟩
      obtain ⟨A4, k4, rfl⟩ := is_slice ho4
      have h5 := H.out.drew.row_fresh hb4 ho4
      have h6 := h5.pull 1 _ rfl
      have c6 := cells_of h6.heap 0
      have f6 := frozen_of_row h6.heap 0
      have l6 := h6.lt
      simp at c6
      have H6 := Lib.hid h6
      clear h5 h6 hb4 ho4 HX d1 c0' hqk
      go_wp2_with fail
      refine NoPanic.normal ?_
      go_wp2_with fail
      go_ret
      refine ⟨rfl, ?_⟩
      exact cut_end H6.out (by omega)
  · have hkz : ¬ k0 = 0 := by omega
    clear hk0
    rcases hsplit with ⟨hs1, rfl⟩ | ⟨hs1, rfl⟩
    all_goals
      clear hmin hqk2
      go_enter Try.func90, Try.ntmps90
      go_wp2_with fail
      clear c0 f0
      generalize w.alloc (.cells #[.int .i64 2, .int .i64 n, pv, .string d.name] 95) = w0 at *
      refine wp_region_calm [0] [1, 2, 3, 4, 5, 6, 7, 8, 9, 10, 11, 12, 13] [14, 15, 16, 17] (by kernel_rfl) (by kernel_rfl) ?_
      simp only [pickL, List.getElem?_cons_zero, List.getElem?_cons_succ]
      repeat (refine wpPlain_step _ (Or.inl ⟨by rfl, by intro w; go_simp; try with_reducible rfl⟩) ?_; (try simp only [Act.put, List.setIfInBounds_toArray, List.set_cons_zero, List.set_cons_succ]))
      refine wpPlain_nil ?_
      repeat still_step
      refine wpStill_nil ?_
      go_wp2_with fail
      refine (cloneB_spec _ _ _ _ (HX.out.below (Below.refl _ _).drew) hq20).mono ?_
      rintro e w4 ⟨v4, rfl, ho4, hb4⟩
      obtain ⟨A4, k4, rfl⟩ := is_slice ho4
      have h5 := H.out.drew.row_fresh hb4 ho4
      have h6 := h5.pull 1 _ rfl
      have c6 := cells_of h6.heap 0
      have f6 := frozen_of_row h6.heap 0
      have l6 := h6.lt
      simp at c6
      have H6 := Lib.hid h6
      clear h5 h6 hb4 ho4 HX d1 c0' hqk
      go_wp2_with fail
      refine NoPanic.normal ?_
      go_wp2_with fail
      go_ret
      refine ⟨rfl, ?_⟩
      exact cut_end H6.out (by omega)
end
end Go.Proofs.Ytnokhjhhadnckaa
