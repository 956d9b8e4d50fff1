/- A copy of an object. -/
import Derived.Test.YtnokhjhhadnckaaSize
set_option linter.unusedSimpArgs false
set_option linter.unusedVariables false
set_option linter.unusedSectionVars false
namespace Go.Proofs.Ytnokhjhhadnckaa
open Go.RowKit
section
variable {W w : World} {I : Hp} {l : List HP}
theorem bytes_src (h : St W I w l) {v : Value} {p : List Int} (hb : BytesI I v p) : SliceSrc w 1 v p.length (p.map byteV) := RowI.src hb h.imm (bytes_one p) (by omega)
/-- A fresh row is from now on never written again. -/
theorem St.freeze_row {e : TypeId} {size : Nat} {v : Value} {n : Nat} {xs : List Value} (h : St W I w (HP.row e size v n xs :: l)) : ∃ I' : Hp, I.sub I' ∧ RowI I' size v n xs ∧ St W I' w l := by
  obtain ⟨hl, p⟩ := h.row_open
  rcases p with ⟨rfl, rfl, s⟩ | ⟨g, cap, cur, rfl, p3, p4, p5, p6, s⟩
  · exact ⟨I, Hp.sub.refl _, ⟨none, 0, rfl, hl, Nat.le_refl _, Nat.zero_le _, fun _ => rfl, fun h => absurd h (by omega)⟩, s⟩
  · obtain ⟨I', hs, hI, s⟩ := s.freeze
    refine ⟨I', hs, ⟨some ⟨g, 0, none⟩, cap, rfl, hl, p3, p4, (fun e => by cases e), fun _ => ⟨g, 0, cur, e, (0, 0), rfl, hI, fun i x hx => ?_⟩⟩, s⟩
    rw [← p6, List.getElem?_take] at hx
    split at hx
    · simpa using hx
    · cases hx
theorem own_at_call {w1 w2 : World} {p : List Int} {v' : Value} (h : St W I w1 l) (hb : Below w1.heap.size w1 w2) (ho : w2.ownsRow w1.heap.size 5 1 v' p.length (p.map byteV)) :
    ∃ I', I.sub I' ∧ BytesI I' v' p ∧ St W I' w2 l := by
  obtain ⟨I', h1, h2, h3⟩ := (h.row_fresh hb ho).freeze_row
  exact ⟨I', h1, h2, h3⟩
theorem slice_of_owns {w : World} {base : Nat} {e : TypeId} {size : Nat} {v : Value} {n : Nat} {xs : List Value} (h : w.ownsRow base e size v n xs) : ∃ A c, v = .slice A n c ∧ n ≤ c ∨ v = .slice A n c ∧ n = 0 := by
  rcases h.2 with ⟨rfl, rfl⟩ | ⟨g, cap, cur, rfl, _, _, h1, _⟩
  · exact ⟨none, 0, .inr ⟨rfl, rfl⟩⟩
  · exact ⟨_, cap, .inl ⟨rfl, h1⟩⟩
theorem is_slice {w : World} {base : Nat} {e : TypeId} {size : Nat} {v : Value} {n : Nat} {xs : List Value} (h : w.ownsRow base e size v n xs) : ∃ A c, v = .slice A n c := by
  obtain ⟨A, c, h | h⟩ := slice_of_owns h
  · exact ⟨A, c, h.1⟩
  · exact ⟨A, c, h.1⟩
theorem put_done {M lm done lm' : List (ByteArray × Value × List Int)} {a : ByteArray} {v : Value} {x : List Int} (hn : ((M.map fst3).map (·.1)).Nodup) (hd : (lm ++ done).Perm M) (hl : lm.Perm ((a, v, x) :: lm')) (u : Value) :
    (put a x (done.map dat3)).Perm ((done ++ [(a, u, x)]).map dat3) := by
  have h1 : ((((a, v, x) :: lm') ++ done).map fst3 |>.map (·.1)).Nodup := nodup_perm hn ((((hl.append_right done).symm.trans hd).map fst3).symm)
  have h2 : get a (done.map dat3) = none := get_none.2 fun p hp e => by
    have h3 := (List.nodup_cons.1 (show (a :: ((lm' ++ done).map fst3 |>.map (·.1))).Nodup from h1)).1
    obtain ⟨m, hm, rfl⟩ := List.mem_map.1 hp
    exact h3 (List.mem_map.2 ⟨fst3 m, List.mem_map.2 ⟨m, List.mem_append_right _ hm, rfl⟩, e⟩)
  unfold put
  rw [del_of_none h2, List.map_append]
  exact List.perm_append_comm (l₁ := [(a, x)])
theorem put_attr {m : Nat} {L : List (ByteArray × List Int)} {v : Value} {x : List Int} (hb : BytesI I v x) (h : St W I w (HP.mapOf nameKT attrOwn m L :: l)) {t e : TypeId} (ht : Try.prog.underlying t = some (.map 9 e)) (a : ByteArray) :
    ∃ w', (Instr.mapUpdate t (.map (some m)) (.string a) v).run Try.prog w = .ok () w' ∧ w'.heap.size = w.heap.size ∧ St W I w' (HP.mapOf nameKT attrOwn m (put a x L) :: l) :=
  St.mapOf_put (own := attrOwn) (v := v) (x := x) (St.imm_shut (A := bytesIP v x) hb h) ht a
set_option maxRecDepth 4000 in
set_option maxHeartbeats 2000000 in
theorem own_spec {v : Value} {t : TS} (h : St W I w (thingHP v t :: l)) (ht : t.b.length ≤ 1000000) (hta : ∀ x ∈ t.attr, x.2.length ≤ 1000000) :
    Calls Try.prog 54 #[v] w fun e w' => ∃ v' I', e = .returned v' ∧ I.sub I' ∧ St W I' w' (thingHP v' t :: thingHP v t :: l) := by
  obtain ⟨b, m, vb, rfl, hs⟩ := h.thing_open
  clear h
  have h := hs
  clear hs
  have hlt := h.lt
  have c0 := cells_of h.heap 0
  have c1 := cells_of h.heap 1
  simp at c0 c1
  have hown := (h.pull 1 _ rfl).row_owns
  have hsrc : SliceSrc w 1 vb t.b.length (t.b.map byteV) := SliceSrc.of_owns hown (bytes_one _)
  obtain ⟨A0, k0, rfl⟩ := is_slice hown
  have H := Lib.hid h
  clear h hown
  have hmm := @run_makeMap Try.prog
  go_enter Try.func54, Try.ntmps54
  go_wp2_with fail
  refine (cloneB_spec _ t.b.length (t.b.map byteV) w hsrc ht).mono ?_
  rintro e w1 ⟨v1, rfl, ho1, hb1⟩
  obtain ⟨A1, k1, rfl⟩ := is_slice ho1
  have h1 := H.out.row_fresh hb1 ho1
  have h2 := (h1.alloc (.map #[] 0)).alloc (.cells #[.slice A1 t.b.length k1, .map (some w1.heap.size)] 100)
  rw [show (w1.alloc (.map #[] 0)).heap.size = w1.heap.size + 1 by simp] at h2
  have hx1 := (hb1.cell (p := ⟨b, 1, none⟩) hlt).trans c1
  have hsz1 := hb1.size
  have hx2 : World.cell? ((w1.alloc (.map #[] 0)).alloc (.cells #[.slice A1 t.b.length k1, .map (some w1.heap.size)] 100)) ⟨b, 1, none⟩ = some (.map (some m)) := cells_of (h2.pull 3 _ rfl).heap 1
  obtain ⟨M, hp, hM, h3⟩ := (h2.pull 5 _ rfl).attr_open
  have hn := h3.map_nodup
  obtain ⟨w3, hrun, hsz, h4⟩ := h3.range (P := Try.prog) (T := nameKT) Try.underlying98
  have hr : ((w1.alloc (.map #[] 0)).alloc (.cells #[.slice A1 t.b.length k1, .map (some w1.heap.size)] 100)).heap.size = w1.heap.size + 1 + 1 := by simp
  rw [hr] at hrun h4
  have H4 := Lib.hid h4
  have HN := Lib.hid hn
  have HM := Lib.hid hM
  have HP' := Lib.hid hp
  clear h1 h2 h3 h4 hn hM hp ho1 hb1 hsrc c0 c1 H hr hsz
  go_wp2_with fail
  go_loopw [4] (fun _ wr => ∃ (lm done : List (ByteArray × Value × List Int)) (I1 : Hp), (lm ++ done).Perm M ∧ I.sub I1 ∧
    St W I1 wr (HP.iter nameKT m (w1.heap.size + 1 + 1) (M.map fst3) (lm.map fst3) :: HP.mapOf nameKT attrOwn w1.heap.size (done.map dat3) :: HP.pt (w1.heap.size + 1) (.cells #[.slice A1 t.b.length k1, .map (some w1.heap.size)] 100) :: bytesHP (.slice A1 t.b.length k1) t.b :: HP.pt b (.cells #[.slice A0 t.b.length k0, .map (some m)] 100) :: bytesHP (.slice A0 t.b.length k0) t.b :: l)) (fun _ wr => wr.rangeLeft m (w1.heap.size + 1 + 1))
  case atStart =>
    refine ⟨M, [], I, by simp, Hp.sub.refl _, ?_⟩
    have h5 := (H4.out.pull 2 _ rfl).mapOf_made (T := nameKT) (own := attrOwn)
    exact h5.pull 1 _ rfl
  case round =>
    obtain ⟨lm, done, I1, hpd, hI1, hst⟩ := hrel
    rcases hst.nextM 0 with ⟨rfl, hrun⟩ | ⟨a, v, x, lm', w2, hpm, hrun, hsz2, hent, hst2⟩
    · have HS := Lib.hid hst
      have HQ := Lib.hid hpd
      clear hst hpd
      go_wp2_with fail
      go_ret
      have hq : (done.map dat3).Perm t.attr := (HQ.out.map dat3).trans HP'.out
      refine ⟨_, I1, rfl, hI1, ?_⟩
      have h6 := (HS.out.iter_shut_map).attr_shut HP'.out (fun x hx => (bytesIP _ _).mono hI1 (HM.out x hx))
      have h7 := h6.perm (m := HP.pt b (.cells #[.slice A0 t.b.length k0, .map (some m)] 100) :: bytesHP (.slice A0 t.b.length k0) t.b :: HP.mapOf nameKT attrOwn m t.attr :: HP.mapOf nameKT attrOwn w1.heap.size (done.map dat3) :: HP.pt (w1.heap.size + 1) (.cells #[.slice A1 t.b.length k1, .map (some w1.heap.size)] 100) :: bytesHP (.slice A1 t.b.length k1) t.b :: l) (by ((try simp only [List.eraseIdx_cons_succ, List.eraseIdx_cons_zero, List.cons_append, List.nil_append]); repeat (first | with_reducible exact List.Perm.refl _ | (apply perm_step; (· repeat (first | with_reducible exact find_here | with_reducible apply find_there))))))
      have h8 := (h7.thing_shut.pull 1 _ rfl).mapOf_perm hq
      exact (h8.perm (m := HP.pt (w1.heap.size + 1) (.cells #[.slice A1 t.b.length k1, .map (some w1.heap.size)] 100) :: bytesHP (.slice A1 t.b.length k1) t.b :: HP.mapOf nameKT attrOwn w1.heap.size t.attr :: thingHP (.pointer (some ⟨b, 0, none⟩)) t :: l) (by ((try simp only [List.eraseIdx_cons_succ, List.eraseIdx_cons_zero, List.cons_append, List.nil_append]); repeat (first | with_reducible exact List.Perm.refl _ | (apply perm_step; (· repeat (first | with_reducible exact find_here | with_reducible apply find_there))))))).thing_shut
    · have hx : (a, v, x) ∈ M := hpd.mem_iff.1 (List.mem_append_left _ (hpm.mem_iff.2 (by simp)))
      have hxl : x.length ≤ 1000000 := hta (a, x) (HP'.out.mem_iff.1 (List.mem_map.2 ⟨_, hx, rfl⟩))
      have hbx : BytesI I1 v x := (bytesIP _ _).mono hI1 (HM.out _ hx)
      have hsv := bytes_src hst2 hbx
      obtain ⟨A2, k2, rfl, _⟩ := hbx
      simp only [nameKT] at hrun hent
      have cx : w2.cell? ⟨w1.heap.size + 1, 1, none⟩ = some (.map (some w1.heap.size)) := cells_of (hst2.pull 2 _ rfl).heap 1
      have hxlt := (hst2.pull 2 _ rfl).lt
      have HS := Lib.hid hst2
      have HQ := Lib.hid hpd
      have HR := Lib.hid hst
      have HL := Lib.hid hpm
      have HX := Lib.hid hsv
      clear hst hpd hst2 hpm hsv hx2 hx1 hsz1
      go_wp2_with fail
      go_region_with (go_at_call 61
                      refine (cloneB_spec _ _ _ _ (HX.out.below (Below.refl _ _).drew) hxl).mono ?_
                      rintro e w4 ⟨v4, rfl, ho4, hb4⟩
                      obtain ⟨A4, k4, rfl⟩ := is_slice ho4
                      obtain ⟨I2, hI2, hB2, h5⟩ := own_at_call HS.out.drew hb4 ho4
                      have H5 := Lib.hid h5
                      obtain ⟨w5, hrun5, hsz5, h6⟩ := put_attr hB2 (h5.pull 1 _ rfl) Try.underlying98 a
                      have cx4 := (hb4.cell (p := ⟨w1.heap.size + 1, 1, none⟩) (by simpa using hxlt)).trans cx
                      have H6 := Lib.hid h6
                      clear h5 h6 hb4 ho4 hB2)
      all_goals
        have h9 := H6.out.mapOf_perm (put_done HN.out HQ.out HL.out (Value.slice A2 x.length k2))
        have H9 := Lib.hid (h9.perm (m := HP.iter nameKT m (w1.heap.size + 1 + 1) (M.map fst3) (lm'.map fst3) :: HP.mapOf nameKT attrOwn w1.heap.size ((done ++ [(a, Value.slice A2 x.length k2, x)]).map dat3) :: HP.pt (w1.heap.size + 1) (.cells #[.slice A1 t.b.length k1, .map (some w1.heap.size)] 100) :: bytesHP (.slice A1 t.b.length k1) t.b :: HP.pt b (.cells #[.slice A0 t.b.length k0, .map (some m)] 100) :: bytesHP (.slice A0 t.b.length k0) t.b :: l) (by ((try simp only [List.eraseIdx_cons_succ, List.eraseIdx_cons_zero, List.cons_append, List.nil_append]); repeat (first | with_reducible exact List.Perm.refl _ | (apply perm_step; (· repeat (first | with_reducible exact find_here | with_reducible apply find_there)))))))
        clear h9
        go_roundw
        case rel =>
          refine ⟨_, _, _, _, _, _, _, _, _, _, _, _, _, _, ⟨lm', done ++ [(a, Value.slice A2 x.length k2, x)], I2, ?_, hI1.trans hI2, H9.out⟩, rfl⟩
          refine List.Perm.trans ?_ HQ.out
          rw [← List.append_assoc]
          exact List.perm_append_comm.trans (HL.out.symm.append_right done)
        case measure =>
          rw [H9.out.iter_left, HR.out.iter_left]
          simp [HL.out.length_eq]
end
end Go.Proofs.Ytnokhjhhadnckaa
