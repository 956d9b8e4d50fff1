/- StoreRots: the walk. -/
import Derived.Test.YtnokhjhhadnckaaArgs
import Derived.Test.YtnokhjhhadnckaaKnown3
import Derived.Test.YtnokhjhhadnckaaRotsPlain
import Derived.Test.YtnokhjhhadnckaaSame10
set_option linter.unusedSimpArgs false
set_option linter.unusedVariables false
set_option linter.unusedSectionVars false
namespace Go.Proofs.Ytnokhjhhadnckaa
open Go.RowKit
theorem byte_at {W w : World} {I : Hp} {l : List HP} {v : Value} {q : List Int} {j : Nat} (h : St W I w l) (hv : BytesI I v q) (hj : j < q.length) : ∃ b off, v = .slice (some ⟨b, off, none⟩) q.length (match v with | .slice _ _ c => c | _ => 0) ∧ w.cell? ⟨b, off + j, none⟩ = some (.int .u8 (q.getD j 0)) := by
  obtain ⟨A, c', rfl, h2, h3, h4, h5, h6⟩ := hv
  obtain ⟨b, off, cs, t, f, rfl, e2, e3⟩ := h6 (by omega)
  refine ⟨b, off, rfl, ?_⟩
  rw [cells_of (h.imm_heap e2)]
  exact e3 j _ (by simp [hj, byteV])
section
variable {W w : World} {I : Hp} {l : List HP} {p : Nat} {S : Str}
set_option maxRecDepth 4000
set_option maxHeartbeats 4000000
theorem rot_keeps {S : Str} {k : K4} {i x : Int} {m : Nat} (h : Keeps S m) : Keeps (rotS S k i x).2 m := by
  unfold rotS
  split
  · exact h
  · split
    · exact h
    · rename_i t ht
      split
      · exact h
      · refine ⟨⟨h.inv.rise, h.inv.many, ?_, ?_, h.inv.late, h.inv.lateN⟩, h.keep, h.fuse, h.lates⟩
        · intro y hy
          rcases List.mem_cons.1 hy with rfl | hy
          · have := h.inv.seen _ (get_mem ht)
            exact ⟨by simp only [xorAt_length]; exact this.1, this.2⟩
          · exact h.inv.seen y (List.mem_filter.1 hy).1
        · intro y hy
          simp only at hy
          split at hy
          · exact h.inv.dry y hy
          · rename_i d hd
            split at hy
            · rcases List.mem_cons.1 hy with rfl | hy
              · have := h.inv.dry _ (get_mem hd)
                exact ⟨by simp only [xorAt_length]; exact this.1, this.2⟩
              · exact h.inv.dry y (List.mem_filter.1 hy).1
            · exact h.inv.dry y hy
theorem rot_case {S : Str} {q : List Int} {at' x : Int} (h : RI S q) (hq : ∀ a ∈ q, isByte a) :
    ∃ ok S5 b1 ok2 S6, rotS S r2K at' x = (ok, S5) ∧ RI S5 b1 ∧ rotS S5 r2K at' x = (ok2, S6) ∧ RI S6 q ∧ b1.length = q.length ∧
      (∀ j : Nat, j < q.length → b1.getD j 0 = if (j : Int) = at' then xorB (q.getD j 0) x else q.getD j 0) ∧
      ((ok = true ∧ decide (0 ≤ at') = true ∧ decide (at' < (q.length : Int)) = true) ∨ (ok = false ∧ decide (0 ≤ at') = false) ∨ (ok = false ∧ decide (0 ≤ at') = true ∧ decide (at' < (q.length : Int)) = false)) := by
  by_cases hi : at' < 0 ∨ (q.length : Int) ≤ at'
  · have h1 := h.rot_not at' x hi
    refine ⟨false, S, q, false, S, h1, h, h1, h, rfl, fun j hj => ?_, ?_⟩
    · rw [if_neg (by omega)]
    · by_cases h0 : 0 ≤ at'
      · exact .inr (.inr ⟨rfl, by simpa using h0, by rw [decide_eq_false_iff_not]; omega⟩)
      · exact .inr (.inl ⟨rfl, by simpa using h0⟩)
  · obtain ⟨j, rfl⟩ : ∃ j : Nat, at' = j := ⟨at'.toNat, by omega⟩
    have hj : j < q.length := by omega
    obtain ⟨S5, h1, h2⟩ := h.rot j x hj
    obtain ⟨S6, h3, h4⟩ := h2.rot j x (by rw [xorAt_length]; exact hj)
    rw [xorAt_twice (fun a ha => hq a ha)] at h4
    refine ⟨true, S5, xorAt q j x, true, S6, h1, h2, h3, h4, xorAt_length _ _ _, fun i hi' => ?_, .inl ⟨rfl, by rw [decide_eq_true_eq]; omega, by rw [decide_eq_true_eq]; omega⟩⟩
    rw [xorAt_get q j i x hi']
    by_cases e : i = j
    · rw [if_pos e, if_pos (by omega)]
    · rw [if_neg e, if_neg (by omega)]
theorem row_ptr {g : Value} {b : List Value} {n : Nat} (h : St W I w (HP.row 5 1 g n b :: l)) (hb : 0 < n) : ∃ a c, g = .slice (some ⟨a, 0, none⟩) n c := by
  obtain ⟨_, ⟨_, e, _⟩ | ⟨g', cap, cur, e, _⟩⟩ := h.row_open
  · omega
  · exact ⟨g', cap, e⟩
theorem storeRots_walk (v : Value) (q : List Int) (at' x : Int) (W : World) (h : BytesI W.hp v q) (hq : ∀ a ∈ q, isByte a) (hl : q.length ≤ maxLen) :
    Calls Try.prog 5 #[v, .int .i64 at', .int .u8 x] W fun e w' => e = .returned (.bool true) ∧ Below W.heap.size W w' := by
  have HBY := Lib.hid h
  obtain ⟨A, c, rfl, _⟩ := h
  unfold maxLen at hl
  have hl1 : (q.length : Int) ≤ 9223372036854775807 := by omega
  by_cases h200 : 200 < q.length
  · have hd : decide (200 < (q.length : Int)) = true := by rw [decide_eq_true_eq]; omega
    clear h200
    go_enter Try.func5, Try.ntmps5
    go_wp2_with fail
    refine (known3_spec W).mono ?_
    rintro e w1 ⟨rfl, hb⟩
    have HB := Lib.hid hb
    clear hb
    go_wp2_with fail
    go_ret
    exact ⟨rfl, HB.out⟩
  · have hd : decide (200 < (q.length : Int)) = false := by rw [decide_eq_false_iff_not]; omega
    have hq200 : q.length ≤ 200 := by omega
    obtain ⟨S1, S2, ha1, hba, hri⟩ := rot_ready q hq200
    have hk0 : Keeps rot0 99998 := makeS_keeps (keeps_new 1000)
    have hk1 : Keeps S1 99996 := by
      have := appendS_keeps (k := r2K) (p := q) (hk0.fewer (show 99996 + 2 ≤ 99998 by omega))
      rwa [ha1] at this
    have hk2 : Keeps S2 99996 := by
      have := barrierS_keeps hk1
      rwa [hba] at this
    have HA1 := Lib.hid ha1
    have HBA := Lib.hid hba
    have HRI := Lib.hid hri
    have HK0 := Lib.hid hk0
    have HK1 := Lib.hid hk1
    have HK2 := Lib.hid hk2
    clear h200 ha1 hba hri hk0 hk1 hk2
    go_enter Try.func5, Try.ntmps5
    go_wp2_with fail
    refine (new_spec 1000 (St.init W)).mono ?_
    rintro e w1 ⟨p, rfl, h1⟩
    have H1 := Lib.hid ((h1.alloc (.cells #[.int .i64 2, .int .i64 0, .int .i64 0, .int .i64 0] 27)).pull 1 _ rfl)
    clear h1
    go_wp2_with fail
    have hc := make_spec r2K H1.out (keeps_new 1000)
    rw [rot0_make] at hc
    simp only [K4.val, r2K] at hc
    refine hc.mono ?_
    rintro e w2 ⟨I2, hs2, rfl, h2⟩
    have h2 : St W I2 w2 (storeHP p rot0 :: _) := h2
    have hxk := (h2.pull 1 _ rfl).heap
    have x0 := cells_of hxk 0
    have x1 := cells_of hxk 1
    have x2 := cells_of hxk 2
    have x3 := cells_of hxk 3
    simp at x0 x1 x2 x3
    have H2 := Lib.hid h2
    have HS2 := Lib.hid hs2
    clear hc h2 hs2 hxk
    go_wp2_with fail
    have hc := append_spec r2K _ q H2.out HK0.out (bytes_src H2.out ((bytesIP _ _).mono HS2.out HBY.out)) (by omega)
    rw [HA1.out] at hc
    simp only [K4.val, r2K] at hc
    refine hc.mono ?_
    rintro e w3 ⟨I3, hs3, rfl, h3⟩
    have H3 := Lib.hid h3
    have HS3 := Lib.hid (HS2.out.trans hs3)
    clear hc h3 hs3 x0 x1 x2 x3
    go_wp2_with fail
    have hc := barrier_spec H3.out HK1.out
    rw [HBA.out] at hc
    refine hc.mono ?_
    rintro e w4 ⟨I4, hs4, rfl, h4⟩
    have hxk := (h4.pull 1 _ rfl).heap
    have x0 := cells_of hxk 0
    have x1 := cells_of hxk 1
    have x2 := cells_of hxk 2
    have x3 := cells_of hxk 3
    simp at x0 x1 x2 x3
    have H4 := Lib.hid h4
    have HS4 := Lib.hid (HS3.out.trans hs4)
    clear hc h4 hs4 hxk
    go_wp2_with fail
    obtain ⟨ok, S5, b1, ok2, S6, hr5, hri5, hr6, hri6, hb1, hget, hcase⟩ := rot_case (at' := at') (x := x) HRI.out hq
    have hrot := rot_spec r2K at' x H4.out HK2.out
    have hk5 := rot_keeps (k := r2K) (i := at') (x := x) HK2.out
    rw [hr5] at hrot hk5
    have hk6 := rot_keeps (k := r2K) (i := at') (x := x) hk5
    rw [hr6] at hk6
    simp only [K4.val, r2K] at hrot
    have HK5 := Lib.hid hk5
    have HK6 := Lib.hid hk6
    have HRI5 := Lib.hid hri5
    have HRI6 := Lib.hid hri6
    have HR6 := Lib.hid hr6
    have HGET := Lib.hid hget
    refine hrot.mono ?_
    clear hrot hk5 hk6 hri5 hri6 hr5 hr6 hget x0 x1 x2 x3
    rintro e w5 ⟨rfl, h5⟩
    have hxk := (h5.pull 1 _ rfl).heap
    have x0 := cells_of hxk 0
    have x1 := cells_of hxk 1
    have x2 := cells_of hxk 2
    have x3 := cells_of hxk 3
    simp at x0 x1 x2 x3
    have H5 := Lib.hid h5
    clear hxk h5
    go_wp2_with fail
    have hc := read_spec r2K 0 1000 H5.out HK5.out.inv
    rw [HRI5.out.read (by omega)] at hc
    simp only [K4.val, r2K] at hc
    refine hc.mono ?_
    rintro e w6 ⟨hb6, v6, rfl, ho6⟩
    have h6 := H5.out.row_fresh hb6 ho6
    obtain ⟨A6, c6, rfl⟩ := is_slice ho6
    rw [hb1]
    rw [hb1] at h6 ho6
    have H6 := Lib.hid h6
    clear hc h6 ho6 hb6 x0 x1 x2 x3
    rcases hcase with ⟨rfl, hd1, hd2⟩ | ⟨rfl, hd1⟩ | ⟨rfl, hd1, hd2⟩
    all_goals
      go_wp2_with fail
      go_loop [12] (fun a12 => ∃ i : Nat, i ≤ q.length ∧ a12 = .int .i64 i) (fun a12 => q.length - (intOf a12).toNat)
      case atStart => exact ⟨0, Nat.zero_le _, rfl⟩
      case round =>
        obtain ⟨i, hi, rfl⟩ := hrel
        by_cases hlt : i < q.length
        · obtain ⟨b, off, e1, y1⟩ := byte_at (j := i) H6.out ((bytesIP _ _).mono HS4.out HBY.out) hlt
          simp only [Value.slice.injEq, and_true, true_and] at e1
          have e1 := e1
          subst e1
          obtain ⟨A7, c7, e3, hs6, _⟩ := SliceSrc.of_owns H6.out.row_owns (bytes_one b1)
          simp only [Value.slice.injEq, true_and] at e3
          obtain ⟨rfl, rfl⟩ := e3
          obtain ⟨g, o6, e4, _, hc6⟩ := src_at hs6 (by omega)
          subst e4
          have y2 : w6.cell? ⟨g, o6 + i, none⟩ = some (.int .u8 (b1.getD i 0)) := hc6 i _ (by
            rw [List.getElem?_map, List.getElem?_eq_getElem (by omega)]
            simp [byteV, List.getD, hb1, hlt])
          rw [HGET.out i hlt] at y2
          obtain ⟨a, ha⟩ : ∃ a, q.getD i 0 = a := ⟨_, rfl⟩
          rw [ha] at y1 y2
          clear hs6 hc6 ha
          by_cases hia : (i : Int) = at'
          · rw [if_pos hia] at y2
            unfold xorB at y2
            have hbe : ((i : Int) == at') = true := by rw [beq_iff_eq]; exact hia
            clear hia
            go_wp2_with fail
            go_round
            case rel => exact ⟨i + 1, by omega, by go_num⟩
            case measure => simp [intOf]; omega
          · rw [if_neg hia] at y2
            have hbe : ((i : Int) == at') = false := by rw [beq_eq_false_iff_ne]; exact hia
            clear hia
            go_wp2_with fail
            go_round
            case rel => exact ⟨i + 1, by omega, by go_num⟩
            case measure => simp [intOf]; omega
        · have hxk := (H6.out.pull 2 _ rfl).heap
          have x0 := cells_of hxk 0
          have x1 := cells_of hxk 1
          have x2 := cells_of hxk 2
          have x3 := cells_of hxk 3
          simp at x0 x1 x2 x3
          clear hxk hi
          go_wp2_with fail
          have hrot := rot_spec r2K at' x (H6.out.pull 1 _ rfl) HK5.out
          rw [HR6.out] at hrot
          simp only [K4.val, r2K] at hrot
          refine hrot.mono ?_
          rintro e w7 ⟨rfl, h7⟩
          have hxk := (h7.pull 2 _ rfl).heap
          have y0 := cells_of hxk 0
          have y1 := cells_of hxk 1
          have y2 := cells_of hxk 2
          have y3 := cells_of hxk 3
          simp at y0 y1 y2 y3
          have H7 := Lib.hid h7
          clear hrot hxk h7 x0 x1 x2 x3
          go_wp2_with fail
          have hc := read_spec r2K 0 1000 H7.out HK6.out.inv
          rw [HRI6.out.read (by omega)] at hc
          simp only [K4.val, r2K] at hc
          refine hc.mono ?_
          rintro e w8 ⟨hb8, v8, rfl, ho8⟩
          have h8 := H7.out.keep hb8
          have hst1 := src_string (SliceSrc.of_owns ho8 (bytes_one q))
          have hst2 := src_string (bytes_src h8 ((bytesIP _ _).mono HS4.out HBY.out))
          obtain ⟨A8, c8, rfl⟩ := is_slice ho8
          have H8 := Lib.hid h8
          clear hc h8 ho8 hb8 y0 y1 y2 y3
          go_wp2_with fail
          have hrot := rot_spec r3K 0 1 H8.out HK6.out
          rw [HRI6.out.rot3] at hrot
          simp only [K4.val, r3K] at hrot
          refine hrot.mono ?_
          rintro e w9 ⟨rfl, h9⟩
          have H9 := Lib.hid h9
          clear hrot h9 hst1 hst2
          go_wp2_with fail
          refine (wet_spec H9.out).mono ?_
          rintro e w10 ⟨rfl, rfl⟩
          rw [HRI6.out.wet]
          go_wp2_with fail
          refine (known3_spec w9).mono ?_
          rintro e w11 ⟨rfl, hb11⟩
          have HB := Lib.hid (H9.out.below.trans (hb11.mono H9.out.below.size))
          clear hb11
          go_wp2_with fail
          go_ret
          exact ⟨rfl, HB.out⟩
end
end Go.Proofs.Ytnokhjhhadnckaa
