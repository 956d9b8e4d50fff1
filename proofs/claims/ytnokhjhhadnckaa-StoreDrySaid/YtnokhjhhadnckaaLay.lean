/- Bytes laid into an object. -/
import Derived.Test.YtnokhjhhadnckaaOwn
import Derived.Test.YtnokhjhhadnckaaZeros
import Derived.Laws.CopyOwn
import Derived.Deep.RegionLaw
set_option linter.unusedSimpArgs false
set_option linter.unusedVariables false
set_option linter.unusedSectionVars false
namespace Go.Proofs.Ytnokhjhhadnckaa
open Go.RowKit
section
variable {W w : World} {I : Hp} {l : List HP} {v : Value}
theorem u8_info : (Try.prog.info? 5).map (fun i => (i.zero, i.size, i.bytes)) = some (some (.int .u8 0), 1, 1) := by kernel_rfl
theorem setRow_is {w : World} {g : Nat} {cur cs : Array Value} {t : TypeId} {f : Nat × Nat} (h : St W I w (HP.pt g (.cells cur t f) :: l)) : St W I (w.setRow g cs) (HP.pt g (.cells cs t f) :: l) :=
  h.write rfl rfl rfl (setRow_heap w g cur cs t f h.heap) fun c _ hc => setRow_other w g c cs hc
theorem take_over {α : Type} {cur : List α} {n off : Nat} {cs : List α} (h : off + cs.length ≤ n) :
    (cur.take off ++ (cs ++ cur.drop (off + cs.length))).take n = (cur.take n).take off ++ (cs ++ (cur.take n).drop (off + cs.length)) ∨ cur.length < off := by
  by_cases hc : cur.length < off
  · exact .inr hc
  · left
    have e1 : (cur.take off).length = off := by rw [List.length_take]; omega
    rw [List.take_append, e1, List.take_take, List.take_take, List.take_append, List.drop_take, List.take_of_length_le (l := cs) (by omega)]
    rw [show min n off = off by omega, show min off n = off by omega, show n - off - cs.length = n - (off + cs.length) by omega]
/-- A copy into a row that is owned. -/
theorem row_copy {P : Program} {e : TypeId} {g n cap off : Nat} {xs cs : List Value} (h : St W I w (HP.row e 1 (.slice (some ⟨g, 0, none⟩) n cap) n xs :: l)) (hoff : off + cs.length ≤ n)
    {dT sT ty : TypeId} (hu : P.underlying dT = some (.slice e)) (hs : (P.info? e).map (·.size) = some 1) (hsrc : SliceSrc w 1 v cs.length cs) (dCap : Nat) :
    ∃ w', (Builtin.copy_ #[dT, sT] ty #[.slice (some ⟨g, off, none⟩) (n - off) dCap, v]).run P w = .ok (goInt cs.length) w' ∧ w'.heap.size = w.heap.size ∧
      St W I w' (HP.row e 1 (.slice (some ⟨g, 0, none⟩) n cap) n (xs.take off ++ (cs ++ xs.drop (off + cs.length))) :: l) := by
  obtain ⟨A, k, rfl, hsrc, _⟩ := hsrc
  obtain ⟨hl, p⟩ := h.row_open
  rcases p with ⟨e1, _⟩ | ⟨g', cap', cur, e1, p3, p4, p5, p6, s⟩
  · cases e1
  · simp only [Value.slice.injEq, Option.some.injEq, Addr.mk.injEq, and_true, true_and] at e1
    obtain ⟨rfl, rfl⟩ := e1
    have hcl : cur.toList.length = cap := by simpa using p5
    have hst : St W I (w.setRow g (cur.toList.take off ++ (cs ++ cur.toList.drop (off + cs.length))).toArray) (HP.row e 1 (.slice (some ⟨g, 0, none⟩) n cap) n (xs.take off ++ (cs ++ xs.drop (off + cs.length))) :: l) := by
      refine (setRow_is s).row_shut ?_ p3 p4 ?_ ?_
      · rw [← p6]
        simp only [List.length_append, List.length_take, List.length_drop]
        omega
      · simp only [List.size_toArray, List.length_append, List.length_take, List.length_drop]
        omega
      · simp only [Nat.mul_one] at p6 ⊢
        rcases take_over (cur := cur.toList) hoff with h1 | h1
        · rw [h1, p6]
        · omega
    have hmin : cs.length = Nat.min cs.length (n - off) := (Nat.min_eq_left (by omega)).symm
    rcases Nat.eq_zero_or_pos cs.length with h0 | h0
    · have hc : cs = [] := List.eq_nil_of_length_eq_zero h0
      subst hc
      refine ⟨w, run_copy_none w dT sT ty e _ _ _ _ _ _ hu hs (by simp), rfl, ?_⟩
      simpa using h
    · obtain ⟨ad, rfl, hc⟩ := hsrc.cells h0
      have hr := run_copy_row (P := P) w dT sT ty e g off (n - off) dCap ad cs.length k cur e cs hu hs s.heap hmin hc (by rw [p5]; omega) hsrc.one
      rw [List.append_assoc] at hr
      exact ⟨_, hr, by simp [World.setRow], hst⟩
theorem lay_map {b p : List Int} {off : Nat} (hz : ¬ p = []) (h : off + p.length ≤ b.length) : (b.map byteV).take off ++ (p.map byteV ++ (b.map byteV).drop (off + p.length)) = (layB b off p).map byteV := by
  unfold layB
  rw [if_neg hz, show off + p.length - b.length = 0 by omega]
  simp
theorem lay_map2 {b p : List Int} {off : Nat} (hz : ¬ p = []) (h : b.length ≤ off + p.length) : (b.map byteV ++ List.replicate (off + p.length - b.length) (Value.int .u8 0)).take off ++ (p.map byteV ++ (b.map byteV ++ List.replicate (off + p.length - b.length) (Value.int .u8 0)).drop (off + p.length)) = (layB b off p).map byteV := by
  unfold layB
  rw [if_neg hz]
  have e : (Value.int .u8 0) = byteV 0 := rfl
  rw [e, ← List.map_replicate, ← List.map_append, ← List.map_take, ← List.map_drop, ← List.map_append, ← List.map_append]
  congr 1
  rw [List.append_assoc, List.drop_of_length_le (l := b) h, List.drop_of_length_le (by simp; omega)]
theorem layB_length {b p : List Int} {off : Nat} : (layB b off p).length = if p = [] then b.length else max b.length (off + p.length) := by
  unfold layB
  split
  · rfl
  · simp only [List.length_append, List.length_take, List.length_replicate, List.length_drop]
    omega
set_option maxRecDepth 4000 in
set_option maxHeartbeats 2000000 in
theorem lay_spec {pv : Value} {t : TS} {p : List Int} {off : Nat} (h : St W I w (thingHP v t :: l)) (hp : BytesI I pv p) (ho : off + p.length ≤ 1000000) (ht : t.b.length ≤ 1000000) :
    Calls Try.prog 112 #[v, .int .i64 off, pv] w fun e w' => e = .returned (.tuple #[]) ∧ St W I w' (thingHP v { t with b := layB t.b off p } :: l) := by
  obtain ⟨b, m, vb, rfl, hs⟩ := h.thing_open
  clear h
  have h := hs
  clear hs
  have hlt := h.lt
  have c0 := cells_of h.heap 0
  simp at c0
  have hown := (h.pull 1 _ rfl).row_owns
  have hsrc := bytes_src h hp
  obtain ⟨A0, k0, rfl⟩ := is_slice hown
  have HB := Lib.hid hp
  obtain ⟨A1, k1, rfl, _⟩ := hp
  have H := Lib.hid h
  have HX := Lib.hid hsrc
  have HO := Lib.hid hown
  clear h hsrc hown
  by_cases hz : p = []
  · subst hz
    go_enter Try.func112, Try.ntmps112
    go_wp2
    exact bodyPost_ret (v := .tuple #[]) (by simp [results, Try.results112, go_sem]) rfl ⟨rfl, H.out.thing_shut (t := { t with b := layB t.b off [] })⟩
  · have hpos : 0 < p.length := by
      rcases Nat.eq_zero_or_pos p.length with h | h
      · exact absurd (List.eq_nil_of_length_eq_zero h) hz
      · exact h
    have hne : (((p.length : Nat) : Int) == 0) = false := by simp; omega
    have hlp : ∀ xs : List Value, xs.length = off + p.length → ∀ g cap : Nat, True := fun _ _ _ _ => trivial
    clear hlp
    by_cases hg : t.b.length < off + p.length
    · go_enter Try.func112, Try.ntmps112
      have f0 := frozen_of_row H.out.heap 0
      have hgd : decide (((t.b.length : Nat) : Int) < (off : Int) + (p.length : Int)) = true := by simp; omega
      have hw : IntKind.i64.wrap ((off : Int) + (p.length : Int) - (t.b.length : Int)) = ((off + p.length - t.b.length : Nat) : Int) := by rw [IntKind.wrap_i64]; omega
      obtain ⟨i0, hi0, hz0, hz1, hz2⟩ := info_parts u8_info
      have hmx : t.b.length + (off + p.length - t.b.length) ≤ maxLen := by simp only [maxLen]; omega
      go_wp2_with fail
      go_region_law (refine step_append_zeros w.drew (by rfl) (.tmp 25) (.tmp 32) 31 3 (by rfl) 0 5 i0 (.int .u8 0) .i64 .i64 Try.underlying31 Try.underlying3 hi0 hz0 hz1 hz2 rfl rfl (.slice A0 t.b.length k0) t.b.length (t.b.map byteV) (by rfl) (show w.drew.ownsRow 0 5 1 (.slice A0 t.b.length k0) t.b.length (t.b.map byteV) from HO.out) (off + p.length - t.b.length) (by rfl) hmx (by omega) (Nat.zero_le _) ?_
                     intro v5 w5 ho5 hg5 hv5
                     have hg6 : w.grownBy w5 (Value.ownBlock (.slice A0 t.b.length k0)) := ⟨hg5.os, hg5.tape, hg5.output, hg5.size, hg5.block⟩
                     have h6 := (H.out.pull 1 _ rfl).row_grown ho5 hg6 hv5
                     obtain ⟨A5, k5, rfl⟩ := is_slice ho5
                     have h7 := h6.pull 1 _ rfl
                     have c6 := cells_of h7.heap 0
                     have f6 := frozen_of_row h7.heap 0
                     have l6 := h7.lt
                     simp at c6
                     have H7 := Lib.hid h7
                     have HO5 := Lib.hid ho5
                     clear h6 h7 ho5 hg5 hg6 hv5)
      all_goals
        have e1 : t.b.length + (off + p.length - t.b.length) = off + p.length := by omega
        rw [e1] at H7 HO5
        rw [e1]
        obtain ⟨g5, rfl, hk5⟩ : ∃ g, A5 = some ⟨g, 0, none⟩ ∧ off + p.length ≤ k5 := by
          rcases HO5.out.2 with ⟨_, e2⟩ | ⟨g, cap, cur, e1, _, _, h1, _⟩
          · omega
          · cases e1; exact ⟨g, rfl, h1⟩
        have h8 : St W I (w5.setCell ⟨b, 0, none⟩ (.slice (some ⟨g5, 0, none⟩) (off + p.length) k5)) (HP.pt b (.cells #[.slice (some ⟨g5, 0, none⟩) (off + p.length) k5, .map (some m)] 100) :: HP.row 5 1 (.slice (some ⟨g5, 0, none⟩) (off + p.length) k5) (off + p.length) (t.b.map byteV ++ List.replicate (off + p.length - t.b.length) (.int .u8 0)) :: HP.mapOf nameKT attrOwn m t.attr :: l) := H7.out.setCell 0 _
        have hko : off < k5 := by omega
        have hX : SliceSrc (w5.setCell ⟨b, 0, none⟩ (.slice (some ⟨g5, 0, none⟩) (off + p.length) k5)) 1 (.slice A1 p.length k1) p.length (p.map byteV) := bytes_src h8 HB.out
        have c8 := cells_of h8.heap 0
        obtain ⟨w2, hrun, _, hst⟩ := row_copy (P := Try.prog) (cs := p.map byteV) (off := off) (h8.pull 1 _ rfl) (by simp) (dT := 31) (sT := 31) (ty := 3) Try.underlying31 (by kernel_rfl) (by simpa using hX) (k5 - off)
        have l8 := h8.lt
        simp only [List.length_map] at hrun hst
        rw [lay_map2 hz (Nat.le_of_lt hg)] at hst
        rw [show off + p.length - off = p.length by omega] at hrun
        have HST := Lib.hid hst
        clear hst h8 hX H7 HO5 c0 f0 f6 l6 c6
        generalize w5.setCell ⟨b, 0, none⟩ (.slice (some ⟨g5, 0, none⟩) (off + p.length) k5) = w6 at *
        simp at c8
        go_wp2_with fail
        go_end0
        refine ⟨rfl, ?_⟩
        have h9 := HST.out.perm (m := HP.pt b (.cells #[.slice (some ⟨g5, 0, none⟩) (off + p.length) k5, .map (some m)] 100) :: HP.row 5 1 (.slice (some ⟨g5, 0, none⟩) (off + p.length) k5) (off + p.length) ((layB t.b off p).map byteV) :: HP.mapOf nameKT attrOwn m t.attr :: l) (by ((try simp only [List.eraseIdx_cons_succ, List.eraseIdx_cons_zero, List.cons_append, List.nil_append]); repeat (first | with_reducible exact List.Perm.refl _ | (apply perm_step; (· repeat (first | with_reducible exact find_here | with_reducible apply find_there))))))
        have hlen : (layB t.b off p).length = off + p.length := by
          have := (h9.pull 1 _ rfl).row_len
          simpa using this
        rw [← hlen] at h9
        exact h9.thing_shut (t := { t with b := layB t.b off p })
    · have hgi : (((t.b.length : Nat) : Int) < (off : Int) + (p.length : Int)) = False := by simp; omega
      have hgd : decide (((t.b.length : Nat) : Int) < (off : Int) + (p.length : Int)) = false := by simp; omega
      obtain ⟨g, rfl, hk⟩ : ∃ g, A0 = some ⟨g, 0, none⟩ ∧ t.b.length ≤ k0 := by
        rcases HO.out.2 with ⟨_, e2⟩ | ⟨g, cap, cur, e1, _, _, h1, _⟩
        · omega
        · cases e1; exact ⟨g, rfl, h1⟩
      have hko : off < k0 := by omega
      obtain ⟨w2, hrun, _, hst⟩ := row_copy (P := Try.prog) (cs := p.map byteV) (off := off) (H.out.pull 1 _ rfl) (by simp; omega) (dT := 31) (sT := 31) (ty := 3) Try.underlying31 (by kernel_rfl) (by simpa using HX.out) (k0 - off)
      simp only [List.length_map] at hrun hst
      have HST := Lib.hid hst
      clear hst
      go_enter Try.func112, Try.ntmps112
      go_wp2_with fail
      go_end0
      refine ⟨rfl, ?_⟩
      rw [lay_map hz (Nat.le_of_not_lt hg)] at HST
      have h8 := HST.out.perm (m := HP.pt b (.cells #[.slice (some ⟨g, 0, none⟩) t.b.length k0, .map (some m)] 100) :: HP.row 5 1 (.slice (some ⟨g, 0, none⟩) t.b.length k0) t.b.length ((layB t.b off p).map byteV) :: HP.mapOf nameKT attrOwn m t.attr :: l) (by ((try simp only [List.eraseIdx_cons_succ, List.eraseIdx_cons_zero, List.cons_append, List.nil_append]); repeat (first | with_reducible exact List.Perm.refl _ | (apply perm_step; (· repeat (first | with_reducible exact find_here | with_reducible apply find_there))))))
      have hlen : (layB t.b off p).length = t.b.length := by
        have := (h8.pull 1 _ rfl).row_len
        simpa using this
      rw [← hlen] at h8
      exact h8.thing_shut (t := { t with b := layB t.b off p })
end
end Go.Proofs.Ytnokhjhhadnckaa
