/- (*Store).Rot. -/
import Derived.Test.YtnokhjhhadnckaaStoreOps
set_option linter.unusedSimpArgs false
set_option linter.unusedVariables false
set_option linter.unusedSectionVars false
namespace Go.Proofs.Ytnokhjhhadnckaa
open Go.RowKit
def xorB (a x : Int) : Int := bits .xor .u8 a x
def xorAt (b : List Int) (i : Nat) (x : Int) : List Int := b.set i (xorB (b.getD i 0) x)
def rotS (S : Str) (k : K4) (i : Int) (x : Int) : Bool × Str :=
  if S.on = false then (false, S) else
    match get k S.seen with
    | none => (false, S)
    | some t => if i < 0 ∨ (t.b.length : Int) ≤ i then (false, S) else
      (true, { S with
        seen := put k { t with b := xorAt t.b i.toNat x } S.seen
        dry := match get k S.dry with
          | none => S.dry
          | some d => if i < d.b.length then put k { d with b := xorAt d.b i.toNat x } S.dry else S.dry })
section
variable {W w : World} {I : Hp} {l : List HP} {p : Nat} {S : Str}
/-- A cell of a row of bytes is written. -/
theorem St.row_set {g n c : Nat} {b : List Int} (h : St W I w (bytesHP (.slice (some ⟨g, 0, none⟩) n c) b :: l)) (hn : n = b.length) (i : Nat) (x : Int) (hi : i < b.length) :
    w.cell? ⟨g, i, none⟩ = some (byteV (b.getD i 0)) ∧ w.frozen? ⟨g, i, none⟩ = false ∧ g < w.heap.size ∧ St W I (w.setCell ⟨g, i, none⟩ (byteV x)) (bytesHP (.slice (some ⟨g, 0, none⟩) n c) (b.set i x) :: l) := by
  subst hn
  obtain ⟨hl, ⟨e, _⟩ | ⟨g', cap, cur, e, h1, h2, h3, h4, h5⟩⟩ := h.row_open
  · simp at e
  · simp only [Value.slice.injEq, Option.some.injEq, Addr.mk.injEq, and_true, true_and] at e
    obtain ⟨rfl, rfl⟩ := e
    have hci : cur[i]? = some (byteV (b.getD i 0)) := by
      have h6 : (cur.toList.take (b.length * 1))[i]? = some (byteV (b.getD i 0)) := by
        rw [h4, List.getElem?_map, List.getElem?_eq_getElem hi]
        simp [List.getD, List.getElem?_eq_getElem hi]
      rw [List.getElem?_take_of_lt (by omega)] at h6
      simpa using h6
    refine ⟨(cells_of h5.heap i).trans hci, frozen_of_row h5.heap i, h5.lt, ?_⟩
    have h6 := h5.setCell i (byteV x)
    have h7 : St W I (w.setCell ⟨g, i, none⟩ (byteV x)) (HP.row 5 1 (.slice (some ⟨g, 0, none⟩) b.length c) b.length ((b.set i x).map byteV) :: l) := h6.row_shut (by simp) h1 h2 (by simpa using h3) (by
      rw [Array.toList_setIfInBounds, List.take_set, h4, List.map_set])
    unfold bytesHP
    rw [List.length_set]
    exact h7
theorem row_some {g : Value} {b : List Int} (h : St W I w (bytesHP g b :: l)) (hb : b ≠ []) : ∃ a c, g = .slice (some ⟨a, 0, none⟩) b.length c := by
  obtain ⟨_, ⟨_, e, _⟩ | ⟨g', cap, cur, e, _⟩⟩ := h.row_open
  · exact absurd (List.eq_nil_of_length_eq_zero e) hb
  · exact ⟨g', cap, e⟩
set_option maxRecDepth 4000
set_option maxHeartbeats 4000000
theorem rot_spec (k : K4) (i x : Int) {m : Nat} (h : St W I w (storeHP p S :: l)) (hk : Keeps S m) :
    Calls Try.prog 24 #[.pointer (some ⟨p, 0, none⟩), k.val, .int .i64 i, .int .u8 x] w fun e w' => e = .returned (.bool (rotS S k i x).1) ∧ St W I w' (storeHP p (rotS S k i x).2 :: l) := by
  obtain ⟨k0, k1, k2, k3⟩ := k
  simp only [K4.val]
  obtain ⟨B, h1⟩ := (h.alloc (.cells #[.int .i64 k0, .int .i64 k1, .int .i64 k2, .int .i64 k3] 27) |>.pull 1 _ rfl).store_open
  obtain ⟨w1, hw1⟩ : ∃ w1, w.alloc (.cells #[.int .i64 k0, .int .i64 k1, .int .i64 k2, .int .i64 k3] 27) = w1 := ⟨_, rfl⟩
  rw [hw1] at h1
  have HW1 := Lib.hid hw1
  obtain ⟨B0, h0⟩ := h.store_open
  have c4 := h0.blk 4
  have ltp := h0.lt
  have c5 := h1.blk 5
  have hxk := (h1.pull 6 _ rfl).heap
  have x0 := cells_of hxk 0
  have x1 := cells_of hxk 1
  have x2 := cells_of hxk 2
  have x3 := cells_of hxk 3
  simp [storeCells] at c4 c5 x0 x1 x2 x3
  have H := Lib.hid h
  have H1 := Lib.hid h1
  have HKI := Lib.hid hk
  cases ho : S.on with
  | false =>
    rw [ho] at c4
    have HDS := Lib.hid (show rotS S ⟨k0, k1, k2, k3⟩ i x = (false, S) by simp [rotS, ho])
    clear h h0 h1 hk hw1 hxk ho c5 x0 x1 x2 x3
    go_enter Try.func24, Try.ntmps24
    go_wp2_with fail
    go_ret
    rw [HDS.out]
    exact ⟨rfl, H.out.keep (below_alloc _ _)⟩
  | true =>
    rw [ho] at c4
    rcases (h1.pull 1 _ rfl).mapOf_look Try.underlying85 (z := .pointer none) (fun w => by kernel_rfl) ⟨k0, k1, k2, k3⟩ with ⟨hn, hl⟩ | ⟨v1, t, hn, hl, h2⟩
    · have hl' := fun nq => hl (w1.drewN nq) (below_drewN (Below.refl _ _) nq) true
      simp only [keyKT, K4.val, if_true] at hl'
      have HDS := Lib.hid (show rotS S ⟨k0, k1, k2, k3⟩ i x = (false, S) by simp [rotS, ho, hn])
      clear h h0 h1 hk hw1 hxk ho hl hn
      go_enter Try.func24, Try.ntmps24
      go_wp2_with fail
      rw [HW1.out]
      clear c4
      go_quiet (fail)
      go_wp2_with fail
      go_ret
      rw [HDS.out]
      exact ⟨rfl, St.store_shut (((H1.out.pull 6 _ rfl).drop).drewN nq)⟩
    · have hl' := fun nq => hl (w1.drewN nq) (below_drewN (Below.refl _ _) nq) true
      simp only [keyKT, K4.val, if_true] at hl'
      obtain ⟨bt, mt, vb, rfl, h3⟩ := h2.thing_open
      have b0 := cells_of h3.heap 0
      have ltb := h3.lt
      simp at b0
      obtain ⟨Ab, cb, rfl⟩ := is_slice (h3.pull 1 _ rfl).row_owns
      have hsm := hk.inv.seen _ (get_mem hn)
      have hbl : (t.b.length : Int) ≤ 20480 := by have := hsm.1; simp only at this; omega
      by_cases hc : i < 0 ∨ (t.b.length : Int) ≤ i
      · have HDS := Lib.hid (show rotS S ⟨k0, k1, k2, k3⟩ i x = (false, S) by simp [rotS, ho, hn, hc])
        clear h h0 h1 h2 h3 hk hw1 hxk ho hl hn hsm
        by_cases hi : i < 0
        · have hd : decide (i < 0) = true := by simpa using hi
          clear hc hi
          go_enter Try.func24, Try.ntmps24
          go_wp2_with fail
          rw [HW1.out]
          clear c4
          go_quiet (fail)
          go_wp2_with fail
          go_ret
          rw [HDS.out]
          exact ⟨rfl, St.store_shut (((H1.out.pull 6 _ rfl).drop).drewN nq)⟩
        · have hd : decide (i < 0) = false := by simpa using hi
          have hi2 : (t.b.length : Int) ≤ i := by omega
          have hd2 : decide ((t.b.length : Int) ≤ i) = true := by simpa using hi2
          clear hc
          go_enter Try.func24, Try.ntmps24
          go_wp2_with fail
          rw [HW1.out]
          clear c4
          go_quiet (fail)
          go_wp2_with fail
          go_ret
          rw [HDS.out]
          exact ⟨rfl, St.store_shut (((H1.out.pull 6 _ rfl).drop).drewN nq)⟩
      · obtain ⟨j, rfl⟩ : ∃ j : Nat, i = j := ⟨i.toNat, by omega⟩
        have hjl : j < t.b.length := by omega
        obtain ⟨g, cg, hg⟩ := row_some (h3.pull 1 _ rfl) (fun e => by rw [e] at hjl; simp at hjl)
        simp only [Value.slice.injEq, true_and] at hg
        obtain ⟨rfl, rfl⟩ := hg
        have hd : decide ((j : Int) < 0) = false := by rw [decide_eq_false_iff_not]; omega
        have hd2 : decide (t.b.length ≤ j) = false := by rw [decide_eq_false_iff_not]; omega
        have HN := Lib.hid hn
        have HO := Lib.hid ho
        have H3 := Lib.hid h3
        have HSM := Lib.hid hsm
        clear h h0 h1 h2 h3 hk hw1 hxk ho hl hn hsm hc
        go_enter Try.func24, Try.ntmps24
        go_wp2_with fail
        rw [HW1.out]
        clear c4
        go_quiet (fail)
        have h4 := H3.out.drewN nq
        obtain ⟨w2, hw2⟩ : ∃ w2, w1.drewN nq = w2 := ⟨_, rfl⟩
        rw [hw2] at h4 ⊢
        have b0 := cells_of h4.heap 0
        simp at b0
        obtain ⟨r1, r2, r3, h5⟩ := (h4.pull 1 _ rfl).row_set rfl j (xorB (t.b.getD j 0) x) hjl
        obtain ⟨a, ha⟩ : ∃ a, t.b.getD j 0 = a := ⟨_, rfl⟩
        have hst : xorAt t.b j x = t.b.set j (xorB a x) := by unfold xorAt; rw [ha]
        rw [ha] at r1 h5
        rw [← hst] at h5
        clear h4 hw2 x0 x1 x2 x3 c5 hl' ha
        unfold byteV at r1 h5
        unfold xorB at h5
        have hb5 := HN.out
        obtain ⟨w3, hw3⟩ : ∃ w3, w2.setCell ⟨g, j, none⟩ (.int .u8 (bits .xor .u8 a x)) = w3 := ⟨_, rfl⟩
        rw [hw3] at h5
        have HW3 := Lib.hid hw3
        have HST := Lib.hid hst
        clear hst hw3 hb5
        have c6 := (h5.pull 4 _ rfl).blk 6
        have hxk := (h5.pull 9 _ rfl).heap
        have x0 := cells_of hxk 0
        have x1 := cells_of hxk 1
        have x2 := cells_of hxk 2
        have x3 := cells_of hxk 3
        simp [storeCells] at c6 x0 x1 x2 x3
        have hxl : (xorAt t.b j x).length = t.b.length := by simp [xorAt]
        have h6 := (St.thing_shut (t := { t with b := xorAt t.b j x }) (h5.pull 1 _ rfl))
        have h7 : St W I w3 (storeBlk p S B :: HP.mapOf keyKT thingHP B.m1 (put ⟨k0, k1, k2, k3⟩ { t with b := xorAt t.b j x } S.seen) :: dryHP B S :: lateHP B S :: keyHP B S :: HP.imm (intsIP B.vk S.keep) :: HP.pt w.heap.size (.cells #[.int .i64 k0, .int .i64 k1, .int .i64 k2, .int .i64 k3] 27) :: l) := (h6.hole_back).pull 1 _ rfl
        rcases (h7.pull 2 _ rfl).mapOf_look Try.underlying85 (z := .pointer none) (fun w => by kernel_rfl) ⟨k0, k1, k2, k3⟩ with ⟨hdn, hdl⟩ | ⟨v2, d, hdn, hdl, h8⟩
        · have hl' := fun nq => hdl (w3.drewN nq) (below_drewN (Below.refl _ _) nq) true
          simp only [keyKT, K4.val, if_true] at hl'
          have HDS := Lib.hid (show rotS S ⟨k0, k1, k2, k3⟩ j x = (true, { S with seen := put ⟨k0, k1, k2, k3⟩ { t with b := xorAt t.b j x } S.seen }) by
            simp only [rotS, HO.out, HN.out, hdn]
            rw [if_neg (by decide), if_neg (by omega)]
            rfl)
          have H7 := Lib.hid h7
          clear h5 h6 h7 hdl hdn hxk hxl
          go_wp2_with fail
          rw [HW3.out]
          clear r1 r2 r3 b0
          go_quiet (fail)
          go_wp2_with fail
          go_ret
          rw [HDS.out]
          exact ⟨rfl, St.store_shut (B := B) (S := { S with seen := put ⟨k0, k1, k2, k3⟩ { t with b := xorAt t.b j x } S.seen }) (((H7.out.pull 6 _ rfl).drop).drewN nq)⟩
        · have hl' := fun nq => hdl (w3.drewN nq) (below_drewN (Below.refl _ _) nq) true
          simp only [keyKT, K4.val, if_true] at hl'
          obtain ⟨dt, dm, vd, rfl, h9⟩ := h8.thing_open
          have d0 := cells_of h9.heap 0
          simp at d0
          obtain ⟨Ad, cd, rfl⟩ := is_slice (h9.pull 1 _ rfl).row_owns
          have hsd := HKI.out.inv.dry _ (get_mem hdn)
          by_cases hjd : j < d.b.length
          · obtain ⟨gd, cgd, hgd⟩ := row_some (h9.pull 1 _ rfl) (fun e => by rw [e] at hjd; simp at hjd)
            simp only [Value.slice.injEq, true_and] at hgd
            obtain ⟨rfl, rfl⟩ := hgd
            have HDS := Lib.hid (show rotS S ⟨k0, k1, k2, k3⟩ j x = (true, { S with seen := put ⟨k0, k1, k2, k3⟩ { t with b := xorAt t.b j x } S.seen, dry := put ⟨k0, k1, k2, k3⟩ { d with b := xorAt d.b j x } S.dry }) by
              simp only [rotS, HO.out, HN.out, hdn]
              rw [if_neg (by decide), if_neg (by omega), if_pos (by omega)]
              rfl)
            have H9 := Lib.hid h9
            clear h5 h6 h7 h8 h9 hdl hdn hxk hxl hsd
            go_wp2_with fail
            rw [HW3.out]
            clear r1 r2 r3 b0
            go_quiet (fail)
            have h10 := H9.out.drewN nq
            obtain ⟨w4, hw4⟩ : ∃ w4, w3.drewN nq = w4 := ⟨_, rfl⟩
            rw [hw4] at h10 ⊢
            have d0 := cells_of h10.heap 0
            simp at d0
            obtain ⟨r1, r2, r3, h11⟩ := (h10.pull 1 _ rfl).row_set rfl j (xorB (d.b.getD j 0) x) hjd
            obtain ⟨a', ha⟩ : ∃ a, d.b.getD j 0 = a := ⟨_, rfl⟩
            have hst : xorAt d.b j x = d.b.set j (xorB a' x) := by unfold xorAt; rw [ha]
            rw [ha] at r1 h11
            rw [← hst] at h11
            unfold byteV at r1 h11
            unfold xorB at h11
            have H11 := Lib.hid h11
            clear h10 h11 hw4 hst ha x0 x1 x2 x3 c6 hl'
            go_wp2_with fail
            go_ret
            rw [HDS.out]
            have h12 := (St.thing_shut (t := { d with b := xorAt d.b j x }) (H11.out.pull 1 _ rfl)).hole_back
            exact ⟨rfl, St.store_shut (B := B) (S := { S with seen := put ⟨k0, k1, k2, k3⟩ { t with b := xorAt t.b j x } S.seen, dry := put ⟨k0, k1, k2, k3⟩ { d with b := xorAt d.b j x } S.dry }) (((h12.pull 6 _ rfl).drop).perm (m := storeBlk p S B :: HP.mapOf keyKT thingHP B.m1 (put ⟨k0, k1, k2, k3⟩ { t with b := xorAt t.b j x } S.seen) :: HP.mapOf keyKT thingHP B.m2 ((⟨k0, k1, k2, k3⟩, { d with b := xorAt d.b j x }) :: del ⟨k0, k1, k2, k3⟩ S.dry) :: lateHP B S :: keyHP B S :: HP.imm (intsIP B.vk S.keep) :: l) (by ((try simp only [List.eraseIdx_cons_succ, List.eraseIdx_cons_zero, List.cons_append, List.nil_append]); repeat (first | with_reducible exact List.Perm.refl _ | (apply perm_step; (· repeat (first | with_reducible exact find_here | with_reducible apply find_there)))))))⟩
          · have hd3 : decide (j < d.b.length) = false := by rw [decide_eq_false_iff_not]; omega
            have HDS := Lib.hid (show rotS S ⟨k0, k1, k2, k3⟩ j x = (true, { S with seen := put ⟨k0, k1, k2, k3⟩ { t with b := xorAt t.b j x } S.seen }) by
              simp only [rotS, HO.out, HN.out, hdn]
              rw [if_neg (by decide), if_neg (by omega), if_neg (by omega)]
              rfl)
            have H7 := Lib.hid h7
            clear h5 h6 h7 h8 h9 hdl hdn hxk hxl hsd
            go_wp2_with fail
            rw [HW3.out]
            clear r1 r2 r3 b0
            go_quiet (fail)
            go_wp2_with fail
            go_ret
            rw [HDS.out]
            exact ⟨rfl, St.store_shut (B := B) (S := { S with seen := put ⟨k0, k1, k2, k3⟩ { t with b := xorAt t.b j x } S.seen }) (((H7.out.pull 6 _ rfl).drop).drewN nq)⟩
end
end Go.Proofs.Ytnokhjhhadnckaa
