/- hectographref3: set, after, Now. hectographref3: after, Now. hectographref3: Now, weight. hectographref3: Body, Used, things, Left. hectographref3: New, Left, Power, Fuse, Read, Attr. hectographref3: Read, Attr. hectographref3: burn without a fuse; Barrier. hectographref3: what its store keeps from call to call. No program in sight. -/
import Derived.Test.YtagljjhfkhadpaaGreatRefOne
import Derived.Test.YtagljjhfkhadpaaGreatArgs2
/- hectographref3: set, after, Now. -/
set_option linter.unusedSimpArgs false
set_option linter.unusedVariables false
set_option linter.unusedSectionVars false
namespace Go.Proofs.YtagljjhfkhadpaaGreat
open Go.RowKit
/-- One struct behind an owned row. -/
theorem St.row_push {P : Program} {W w : World} {I : Hp} {l : List HP} {e sl ty : TypeId} {k b : Nat} {zv : Value} (hu : P.underlying sl = some (.slice e)) (hi : (P.info? e).map (fun i => (i.zero, i.size, i.bytes)) = some (some zv, k, b)) (hzv : zv.cells.size = k) (hk : 0 < k) (hb : b ≤ 200)
    {α : Type} {mk : α → List Value} (hmk : ∀ a, (mk a).length = k) {A : Option Addr} {c : Nat} {zs : List α} (h : St W I w (HP.row e k (.slice A zs.length c) zs.length (zs.flatMap mk) :: l)) (z : α) (hone : ∀ u ∈ mk z, u.oneCell' = true) (hn : zs.length ≤ 1000000) (cs : Array Value) (hcs : cs.toList = mk z) :
    ∃ A' c' w', (Builtin.append_ #[sl, sl] ty #[.slice A zs.length c, .slice (some ⟨w.heap.size, 0, none⟩) 1 1]).run P (w.alloc (.cells cs e)) = .ok (.slice A' (zs ++ [z]).length c') w' ∧
      St W I w' (HP.row e k (.slice A' (zs ++ [z]).length c') (zs ++ [z]).length ((zs ++ [z]).flatMap mk) :: l) := by
  have h1 := h.keep (below_alloc w (.cells cs e))
  obtain ⟨i0, hi0, hz0, hz1, hz2⟩ := info_parts hi
  have hsrc : SrcAt (w.alloc (.cells cs e)) k (some ⟨w.heap.size, 0, none⟩) 1 (mk z) := ⟨by rw [hmk, Nat.one_mul], fun _ => ⟨_, rfl, fun j u hu => by
    rw [add_plain, Nat.zero_add, cells_of (heap_alloc_new _ _) j, ← hu, ← hcs]
    simp⟩, hone⟩
  have hlb : (zs.length + 1) * b ≤ 140737488355328 := Nat.le_trans (Nat.mul_le_mul (show zs.length + 1 ≤ 1000001 by omega) hb) (by decide)
  obtain ⟨v', w', hr, ho', hgr, hv'⟩ := run_append_src (P := P) (w := w.alloc (.cells cs e)) 0 sl ty e i0 zv k b hu hi0 hz0 hz1 hz2 hzv hk (.slice A zs.length c) zs.length _ h1.row_owns (some ⟨w.heap.size, 0, none⟩) 1 1 (mk z) hsrc (by intro h; cases h) (by unfold maxLen; omega) hlb (Nat.zero_le _)
  obtain ⟨A', c', rfl⟩ := is_slice ho'
  refine ⟨A', c', w', ?_, ?_⟩
  · rw [hr]; simp
  · have := h1.row_grown ho' hgr hv'
    rw [List.flatMap_append, List.length_append]
    simpa using this
theorem attr_info : (Tryz.prog.info? 113).map (fun i => (i.zero, i.size, i.bytes)) = some (some (.agg #[.string ⟨#[]⟩, .slice none 0 0]), 2, 40) := by kernel_rfl
theorem az_one {z : AZ} {p : List Int} {I : Hp} (h : BytesI I z.2 p) : ∀ u ∈ AZ.cells z, u.oneCell' = true := fun u hu => by
  obtain ⟨A, c, e, _⟩ := h
  simp only [AZ.cells, List.mem_cons, List.mem_nil_iff, or_false] at hu
  rcases hu with rfl | rfl
  · rfl
  · rw [e]; rfl
section
variable {W w : World} {I : Hp} {l : List HP} {q : Nat} {R : RS}
theorem attr_push {A : Option Addr} {c : Nat} {zo : List AZ} (h : St W I w (HP.row 113 2 (.slice A zo.length c) zo.length (zo.flatMap AZ.cells) :: l)) (nm : ByteArray) (x : List Int) (B : Option Addr) (n d : Nat) (hb : BytesI I (.slice B n d) x) (hn : zo.length ≤ 1000000) :
    ∃ A' c' w', (Builtin.append_ #[90, 90] 90 #[.slice A zo.length c, .slice (some ⟨w.heap.size, 0, none⟩) 1 1]).run Tryz.prog (w.alloc (.cells #[.string nm, .slice B n d] 113)) = .ok (.slice A' (zo ++ [((nm, x), Value.slice B n d)]).length c') w' ∧
      St W I w' (HP.row 113 2 (.slice A' (zo ++ [((nm, x), Value.slice B n d)]).length c') (zo ++ [((nm, x), Value.slice B n d)]).length ((zo ++ [((nm, x), Value.slice B n d)]).flatMap AZ.cells) :: l) :=
  St.row_push Tryz.underlying90 attr_info rfl (by decide) (by decide) (mk := AZ.cells) (fun _ => rfl) h ((nm, x), Value.slice B n d) (az_one (I := I) (p := x) hb) hn _ rfl
set_option maxRecDepth 4000
set_option maxHeartbeats 4000000
theorem set3_spec (lv pv : Value) (L : List (ByteArray × List Int)) (nm : ByteArray) (p : List Int) (h : St W I w l) (hL : AttrsI I lv L) (hp : BytesI I pv p) (hn : L.length ≤ 500000) (hpl : p.length ≤ 1000000) :
    Calls Tryz.prog 77 #[lv, .string nm, pv] w fun e w' => ∃ I' v, I.sub I' ∧ e = .returned v ∧ AttrsI I' v (rset L nm p) ∧ St W I' w' l := by
  obtain ⟨zs, hzs, hrow, hzb⟩ := hL
  have hzl : zs.length = L.length := by rw [← hzs, List.length_map]
  have HROW := Lib.hid hrow
  have HZB := Lib.hid hzb
  have HZS := Lib.hid hzs
  have HP2 := Lib.hid hp
  have H := Lib.hid h
  obtain ⟨A0, c0, e1, _⟩ := hrow
  subst e1
  obtain ⟨B, d, e1, _⟩ := hp
  subst e1
  have hn1 : (L.length : Int) ≤ 500000 := by omega
  clear h hzb hzs
  go_enter Tryz.func77, Tryz.ntmps77
  go_wp2_with fail
  go_loopw [7, 8, 9] (fun a7 a8 a9 wr => ∃ (i : Nat) (s : List (ByteArray × List Int) × Bool) (zo : List AZ) (A : Option Addr) (c : Nat), a9 = .int .i64 i ∧ a8 = .bool s.2 ∧ a7 = .slice A zo.length c ∧ i ≤ L.length ∧ zo.length ≤ 2 * i ∧ (L.take i).foldl (setStep nm p) ([], false) = s ∧ zo.map (·.1) = s.1 ∧ (∀ z ∈ zo, BytesI I z.2 z.1.2) ∧
     St W I wr (HP.row 113 2 (.slice A zo.length c) zo.length (zo.flatMap AZ.cells) :: l)) (fun _ _ a9 _ => L.length - (intOf a9).toNat)
  case atStart => exact ⟨0, ([], false), [], none, 0, rfl, rfl, rfl, Nat.zero_le _, Nat.zero_le _, rfl, rfl, (fun z hz => by cases hz), H.out.row_nil _ _⟩
  case round =>
    obtain ⟨i, s, zo, A, c, rfl, rfl, rfl, hi, hzo, hf, hm, hb, hst⟩ := hrel
    by_cases hlt : i < L.length
    · obtain ⟨⟨⟨xn, xv⟩, xp⟩, hzi⟩ : ∃ z, zs[i]? = some z := ⟨_, List.getElem?_eq_getElem (by omega)⟩
      have hxb := HZB.out _ (List.mem_of_getElem? hzi)
      have hLi : L[i]? = some (xn, xv) := by rw [← HZS.out, List.getElem?_map, hzi]; rfl
      have hf2 : (L.take (i + 1)).foldl (setStep nm p) ([], false) = setStep nm p s (xn, xv) := by
        obtain ⟨hil, he⟩ := List.getElem?_eq_some_iff.1 hLi
        rw [List.take_succ_eq_append_getElem hil, List.foldl_append, hf, he]; rfl
      rw [← hzl] at HROW
      obtain ⟨b, off, e1, hc⟩ := rowk_cell (i := i) HROW.out (Hp.sub.refl _) hst (fun _ => rfl) hzi
      simp only [Value.slice.injEq, and_true] at e1
      subst e1
      have y0 := hc 0 (by omega)
      have y1 := hc 1 (by omega)
      simp only [AZ.cells, List.getElem?_cons_succ, List.getElem?_cons_zero, Nat.add_zero] at y0 y1
      simp only at hxb
      have HXB := Lib.hid hxb
      obtain ⟨Bx, dx, e1, _⟩ := hxb
      subst e1
      have hzo1 : zo.length ≤ 1000000 := by omega
      have hb' : ∀ z ∈ zo ++ [((xn, xv), Value.slice Bx xv.length dx)], BytesI I z.2 z.1.2 := fun z hz => by
        rcases List.mem_append.1 hz with hz | hz
        · exact hb z hz
        · rw [List.mem_singleton.1 hz]; exact HXB.out
      have hbn : ∀ z ∈ zo ++ [((nm, p), Value.slice B p.length d)], BytesI I z.2 z.1.2 := fun z hz => by
        rcases List.mem_append.1 hz with hz | hz
        · exact hb z hz
        · rw [List.mem_singleton.1 hz]; exact HP2.out
      have hbn' : ∀ z ∈ zo ++ [((nm, p), Value.slice B p.length d)] ++ [((xn, xv), Value.slice Bx xv.length dx)], BytesI I z.2 z.1.2 := fun z hz => by
        rcases List.mem_append.1 hz with hz | hz
        · exact hbn z hz
        · rw [List.mem_singleton.1 hz]; exact HXB.out
      obtain ⟨s1, s2⟩ := s
      simp only at hm ⊢
      have e_len : ∀ z : AZ, (zo ++ [z]).length = zo.length + 1 := fun z => by simp
      have e_len2 : ∀ z z' : AZ, (zo ++ [z] ++ [z']).length = zo.length + 1 + 1 := fun z z' => by simp
      have xpush : ∀ (zo' : List AZ) (A : Option Addr) (c : Nat) (wr : World), St W I wr (HP.row 113 2 (.slice A zo'.length c) zo'.length (zo'.flatMap AZ.cells) :: l) → zo'.length ≤ 1000000 → _ := fun zo' A c wr hst hz => attr_push hst xn xv Bx xv.length dx HXB.out hz
      have ypush : ∀ (zo' : List AZ) (A : Option Addr) (c : Nat) (wr : World), St W I wr (HP.row 113 2 (.slice A zo'.length c) zo'.length (zo'.flatMap AZ.cells) :: l) → zo'.length ≤ 1000000 → _ := fun zo' A c wr hst hz => attr_push hst nm p B p.length d HP2.out hz
      by_cases hplain : s2 = true ∨ nameGe xn nm = false
      · obtain ⟨A', c', w', hr, h2⟩ := xpush zo A c wr hst hzo1
        have hf3 : setStep nm p (s1, s2) (xn, xv) = (s1 ++ [(xn, xv)], s2) := by
          unfold setStep
          rw [if_neg]
          rintro ⟨q1, q2⟩
          rcases hplain with h | h
          · simp only at q1; rw [q1] at h; cases h
          · simp only at q2; rw [q2] at h; cases h
        rw [hf3] at hf2
        rw [e_len] at hr h2
        have HF := Lib.hid hf2
        have HM : Hid ((zo ++ [((xn, xv), Value.slice Bx xv.length dx)]).map (·.1) = s1 ++ [(xn, xv)]) := Lib.hid (by rw [List.map_append, hm]; rfl)
        have HB' := Lib.hid hb'
        have HR := Lib.hid hr
        have H2 := Lib.hid h2
        have HEL := Lib.hid (e_len ((xn, xv), Value.slice Bx xv.length dx))
        clear hf hf2 hf3 hm hb hb' hbn hbn' hst hr h2 hc hzi hLi xpush ypush e_len e_len2
        cases s2 with
        | true =>
          clear hplain
          go_wp2_with (at_builtin; refine Lib.wpList_append_run _ rfl (.tmp 43) (.tmp 48) 90 90 rfl _ _ rfl rfl _ _ HR.out ?_)
          go_roundw
          case rel => exact ⟨i + 1, (s1 ++ [(xn, xv)], true), _, A', c', by go_num, rfl, by rw [HEL.out], by omega, by rw [HEL.out]; omega, HF.out, HM.out, HB'.out, by rw [HEL.out]; exact H2.out⟩
          case measure => simp [intOf]; omega
        | false =>
          have hge : Op.bytesLess xn.toList nm.toList = true := by
            rcases hplain with h | h
            · cases h
            · simpa [nameGe] using h
          clear hplain
          go_wp2_with (at_builtin; refine Lib.wpList_append_run _ rfl (.tmp 43) (.tmp 48) 90 90 rfl _ _ rfl rfl _ _ HR.out ?_)
          go_roundw
          case rel => exact ⟨i + 1, (s1 ++ [(xn, xv)], false), _, A', c', by go_num, rfl, by rw [HEL.out], by omega, by rw [HEL.out]; omega, HF.out, HM.out, HB'.out, by rw [HEL.out]; exact H2.out⟩
          case measure => simp [intOf]; omega
      · have hs2 : s2 = false := by
          cases s2 with
          | true => exact absurd (Or.inl rfl) hplain
          | false => rfl
        subst hs2
        have hnge : nameGe xn nm = true := by
          cases h : nameGe xn nm with
          | true => rfl
          | false => exact absurd (Or.inr h) hplain
        have hge : Op.bytesLess xn.toList nm.toList = false := by simpa [nameGe] using hnge
        by_cases hpe : p = []
        · have hpl0 : p.length = 0 := by rw [hpe]; rfl
          by_cases hxe : xn.toList = nm.toList
          · have hf3 : setStep nm p (s1, false) (xn, xv) = (s1 ++ [], true) := by simp [setStep, hnge, hpe, hxe]
            rw [hf3] at hf2
            have HF := Lib.hid hf2
            have HM : Hid (zo.map (·.1) = s1 ++ []) := Lib.hid (by simp [hm])
            have HB' := Lib.hid hb
            have H2 := Lib.hid hst
            have hx0 : (xn.toList == nm.toList) = true := by simpa using hxe
            have hp0 : decide (0 < p.length) = false := by simp [hpl0]
            clear hf hf2 hf3 hm hb hb' hbn hbn' hc hzi hLi xpush ypush e_len e_len2 hxe hpe hpl0 hnge hplain hst
            go_wp2_with fail
            go_roundw
            case rel => exact ⟨i + 1, (s1 ++ [], true), zo, A, c, by go_num, rfl, rfl, by omega, by omega, HF.out, HM.out, HB'.out, H2.out⟩
            case measure => simp [intOf]; omega
          · have hf3 : setStep nm p (s1, false) (xn, xv) = (s1 ++ [(xn, xv)], true) := by simp [setStep, hnge, hpe, hxe]
            obtain ⟨A2, c2, w2, hr2, h2⟩ := xpush zo A c wr hst hzo1
            rw [e_len] at hr2 h2
            rw [hf3] at hf2
            have HF := Lib.hid hf2
            have HM : Hid ((zo ++ [((xn, xv), Value.slice Bx xv.length dx)]).map (·.1) = s1 ++ [(xn, xv)]) := Lib.hid (by simp [hm])
            have HB' := Lib.hid hb'
            have H2 := Lib.hid h2
            have HEL := Lib.hid (e_len ((xn, xv), Value.slice Bx xv.length dx))
            have HR2 := Lib.hid hr2
            have hx0 : (xn.toList == nm.toList) = false := by simpa using hxe
            have hp0 : decide (0 < p.length) = false := by simp [hpl0]
            clear hf hf2 hf3 hm hb hb' hbn hbn' hc hzi hLi xpush ypush e_len e_len2 hxe hpe hpl0 hnge hplain hr2 h2 hst
            go_wp2_with (first | (at_builtin; refine Lib.wpList_append_run _ rfl (.tmp 43) (.tmp 48) 90 90 rfl _ _ rfl rfl _ _ HR2.out ?_) | fail)
            go_roundw
            case rel => exact ⟨i + 1, (s1 ++ [(xn, xv)], true), _, A2, c2, by go_num, rfl, by rw [HEL.out], by omega, by rw [HEL.out]; omega, HF.out, HM.out, HB'.out, by rw [HEL.out]; exact H2.out⟩
            case measure => simp [intOf]; omega
        · have hpl0 : 0 < p.length := List.length_pos_iff.2 hpe
          by_cases hxe : xn.toList = nm.toList
          · have hf3 : setStep nm p (s1, false) (xn, xv) = (s1 ++ [(nm, p)], true) := by simp [setStep, hnge, hpe, hxe]
            obtain ⟨A1, c1, w1, hr1, h1⟩ := ypush zo A c wr hst hzo1
            obtain ⟨b', off', e1, hc'⟩ := rowk_cell (i := i) HROW.out (Hp.sub.refl _) h1 (fun _ => rfl) hzi
            simp only [Value.slice.injEq, and_true, Option.some.injEq, Addr.mk.injEq] at e1
            obtain ⟨rfl, rfl⟩ := e1
            have z0 := hc' 0 (by omega)
            simp only [AZ.cells, List.getElem?_cons_succ, List.getElem?_cons_zero, Nat.add_zero] at z0
            clear hc'
            rw [e_len] at hr1 h1
            rw [hf3] at hf2
            have HF := Lib.hid hf2
            have HM : Hid ((zo ++ [((nm, p), Value.slice B p.length d)]).map (·.1) = s1 ++ [(nm, p)]) := Lib.hid (by simp [hm])
            have HB' := Lib.hid hbn
            have H2 := Lib.hid h1
            have HEL := Lib.hid (e_len ((nm, p), Value.slice B p.length d))
            have HR1 := Lib.hid hr1
            have hx0 : (xn.toList == nm.toList) = true := by simpa using hxe
            have hp0 : decide (0 < p.length) = true := by simp [hpl0]
            have hpi : 0 < p.length := List.length_pos_iff.2 hpe
            clear hf hf2 hf3 hm hb hb' hbn hbn' hc hzi hLi xpush ypush e_len e_len2 hxe hpe hpl0 hnge hplain hr1 h1 hst
            go_wp2_with (first | (at_builtin; refine Lib.wpList_append_run _ rfl (.tmp 30) (.tmp 34) 90 90 rfl _ _ rfl rfl _ _ HR1.out ?_) | fail)
            go_roundw
            case rel => exact ⟨i + 1, (s1 ++ [(nm, p)], true), _, A1, c1, by go_num, rfl, by rw [HEL.out], by omega, by rw [HEL.out]; omega, HF.out, HM.out, HB'.out, by rw [HEL.out]; exact H2.out⟩
            case measure => simp [intOf]; omega
          · have hf3 : setStep nm p (s1, false) (xn, xv) = (s1 ++ [(nm, p)] ++ [(xn, xv)], true) := by simp [setStep, hnge, hpe, hxe]
            obtain ⟨A1, c1, w1, hr1, h1⟩ := ypush zo A c wr hst hzo1
            obtain ⟨b', off', e1, hc'⟩ := rowk_cell (i := i) HROW.out (Hp.sub.refl _) h1 (fun _ => rfl) hzi
            simp only [Value.slice.injEq, and_true, Option.some.injEq, Addr.mk.injEq] at e1
            obtain ⟨rfl, rfl⟩ := e1
            have z0 := hc' 0 (by omega)
            have z1 := hc' 1 (by omega)
            simp only [AZ.cells, List.getElem?_cons_succ, List.getElem?_cons_zero, Nat.add_zero] at z0 z1
            obtain ⟨A2, c2, w2, hr2, h2⟩ := xpush _ A1 c1 w1 h1 (by rw [e_len]; omega)
            rw [e_len2] at hr2 h2
            rw [e_len] at hr1 hr2
            rw [hf3] at hf2
            have HF := Lib.hid hf2
            have HM : Hid ((zo ++ [((nm, p), Value.slice B p.length d)] ++ [((xn, xv), Value.slice Bx xv.length dx)]).map (·.1) = s1 ++ [(nm, p)] ++ [(xn, xv)]) := Lib.hid (by simp [hm])
            have HB' := Lib.hid hbn'
            have H2 := Lib.hid h2
            have HEL := Lib.hid (e_len2 ((nm, p), Value.slice B p.length d) ((xn, xv), Value.slice Bx xv.length dx))
            have HR1 := Lib.hid hr1
            have HR2 := Lib.hid hr2
            have hx0 : (xn.toList == nm.toList) = false := by simpa using hxe
            have hp0 : decide (0 < p.length) = true := by simp [hpl0]
            have hpi : 0 < p.length := List.length_pos_iff.2 hpe
            clear hf hf2 hf3 hm hb hb' hbn hbn' hc hzi hLi xpush ypush e_len e_len2 hxe hpe hpl0 hnge hplain hr1 h1 hr2 h2 hst hc'
            go_wp2_with (first | (at_builtin; refine Lib.wpList_append_run _ rfl (.tmp 30) (.tmp 34) 90 90 rfl _ _ rfl rfl _ _ HR1.out ?_) | (at_builtin; refine Lib.wpList_append_run _ rfl (.tmp 43) (.tmp 48) 90 90 rfl _ _ rfl rfl _ _ HR2.out ?_) | fail)
            go_roundw
            case rel => exact ⟨i + 1, (s1 ++ [(nm, p)] ++ [(xn, xv)], true), _, A2, c2, by go_num, rfl, by rw [HEL.out], by omega, by rw [HEL.out]; omega, HF.out, HM.out, HB'.out, by rw [HEL.out]; exact H2.out⟩
            case measure => simp [intOf]; omega
    · obtain rfl : i = L.length := by omega
      rw [List.take_length] at hf
      have HF : Hid (rset L nm p = s.1 ++ (if s.2 = false ∧ p ≠ [] then [(nm, p)] else [])) := Lib.hid (by simp only [rset, hf])
      obtain ⟨s1, s2⟩ := s
      simp only at hm HF ⊢
      have fin : ∀ (zf : List AZ) (A : Option Addr) (c : Nat) (w' : World), zf.map (·.1) = rset L nm p → (∀ z ∈ zf, BytesI I z.2 z.1.2) → St W I w' (HP.row 113 2 (.slice A zf.length c) zf.length (zf.flatMap AZ.cells) :: l) →
          ∃ I', I.sub I' ∧ AttrsI I' (.slice A zf.length c) (rset L nm p) ∧ St W I' w' l := fun zf A c w' h1 h2 h3 => by
        obtain ⟨I', q1, q2, q3⟩ := h3.freeze_row
        have hl : (rset L nm p).length = zf.length := by rw [← h1, List.length_map]
        exact ⟨I', q1, ⟨zf, h1, by rw [hl]; exact q2, fun z hz => (bytesIP _ _).mono q1 (h2 z hz)⟩, q3⟩
      by_cases hcond : s2 = false ∧ p ≠ []
      · obtain ⟨rfl, hpe⟩ := hcond
        rw [if_pos ⟨rfl, hpe⟩] at HF
        have hpi : 0 < p.length := List.length_pos_iff.2 hpe
        obtain ⟨A1, c1, w1, hr1, h1⟩ := attr_push hst nm p B p.length d HP2.out (by omega)
        obtain ⟨I2, hs2, ha2, h2⟩ := fin _ A1 c1 w1 (by rw [HF.out]; simp [hm]) (fun z hz => by
          rcases List.mem_append.1 hz with hz | hz
          · exact hb z hz
          · rw [List.mem_singleton.1 hz]; exact HP2.out) h1
        have hp0 : decide (0 < p.length) = true := by simp [hpi]
        have el : (zo ++ [((nm, p), Value.slice B p.length d)]).length = zo.length + 1 := by simp
        rw [el] at hr1 ha2
        have HR1 := Lib.hid hr1
        have HS2 := Lib.hid hs2
        have HA2 := Lib.hid ha2
        have H2 := Lib.hid h2
        clear hpe hr1 h1 hs2 ha2 h2 fin hst hb hm hf el
        go_wp2_with (at_builtin; refine Lib.wpList_append_run _ rfl (.tmp 57) (.tmp 61) 90 90 rfl _ _ rfl rfl _ _ HR1.out ?_)
        go_ret
        exact ⟨I2, _, HS2.out, rfl, HA2.out, H2.out⟩
      · rw [if_neg hcond, List.append_nil] at HF
        obtain ⟨I2, hs2, ha2, h2⟩ := fin zo A c wr (by rw [HF.out]; exact hm) hb hst
        have HS2 := Lib.hid hs2
        have HA2 := Lib.hid ha2
        have H2 := Lib.hid h2
        clear hs2 ha2 h2 fin hst hb hm hf
        cases s2 with
        | true =>
          clear hcond
          go_wp2_with fail
          go_ret
          exact ⟨I2, _, HS2.out, rfl, HA2.out, H2.out⟩
        | false =>
          have hpl0 : p.length = 0 := by
            have : p = [] := Classical.byContradiction fun h => hcond ⟨rfl, h⟩
            rw [this]; rfl
          have hp0 : decide (0 < p.length) = false := by simp [hpl0]
          clear hcond hpl0
          go_wp2_with fail
          go_ret
          exact ⟨I2, _, HS2.out, rfl, HA2.out, H2.out⟩
end
end Go.Proofs.YtagljjhfkhadpaaGreat
/- hectographref3: after, Now. -/
namespace Go.Proofs.YtagljjhfkhadpaaGreat
open Go.RowKit
section
variable {W w : World} {I : Hp} {l : List HP} {q : Nat} {R : RS}
theorem attrs_nil (I : Hp) : AttrsI I (.slice none 0 0) [] := ⟨[], rfl, ⟨none, 0, rfl, rfl, Nat.le_refl _, by unfold maxLen; omega, fun _ => rfl, fun h => absurd h (by simp)⟩, fun z hz => by cases hz⟩
theorem deeds3_nil (I : Hp) : DeedsI I (.slice none 0 0) [] := ⟨[], rfl, ⟨none, 0, rfl, rfl, Nat.le_refl _, by unfold maxLen; omega, fun _ => rfl, fun h => absurd h (by simp)⟩, fun z hz => by cases hz⟩
theorem AttrsI.slice {v : Value} {L : List (ByteArray × List Int)} (h : AttrsI I v L) : ∃ A c, v = .slice A L.length c := by
  obtain ⟨_, _, ⟨A, c, e, _⟩, _⟩ := h
  exact ⟨A, c, e⟩
theorem DeedsI.slice {v : Value} {L : List RD} (h : DeedsI I v L) : ∃ A c, v = .slice A L.length c := by
  obtain ⟨_, _, ⟨A, c, e, _⟩, _⟩ := h
  exact ⟨A, c, e⟩
theorem BytesI.slice {v : Value} {L : List Int} (h : BytesI I v L) : ∃ A c, v = .slice A L.length c := by
  obtain ⟨A, c, e, _⟩ := h
  exact ⟨A, c, e⟩
theorem St.set3c {b : Nat} {c0 c1 c2 : Value} {t : TypeId} {f : Nat × Nat} (h : St W I w (HP.pt b (.cells #[c0, c1, c2] t f) :: l)) (v0 v1 v2 : Value) :
    St W I (((w.setCell ⟨b, 0, none⟩ v0).setCell ⟨b, 1, none⟩ v1).setCell ⟨b, 2, none⟩ v2) (HP.pt b (.cells #[v0, v1, v2] t f) :: l) := by
  have h1 := h.setCell 0 v0
  have h2 := h1.setCell 1 v1
  have h3 := h2.setCell 2 v2
  simp only [List.setIfInBounds_toArray, List.set_cons_zero, List.set_cons_succ] at h3
  exact h3
theorem St.alloc_at (h : St W I w l) (o : Obj) {g : Nat} (hg : g = w.heap.size) : St W I (w.alloc o) (HP.pt g o :: l) := by
  subst hg; exact h.alloc o
theorem St.cells3 {g : Nat} {c0 c1 c2 : Value} {t : TypeId} (h : St W I w (HP.pt g (.cells #[c0, c1, c2] t) :: l)) : w.cell? ⟨g, 0, none⟩ = some c0 ∧ w.cell? ⟨g, 1, none⟩ = some c1 ∧ w.cell? ⟨g, 2, none⟩ = some c2 := by
  have y := cells_of h.heap
  have y0 := y 0
  have y1 := y 1
  have y2 := y 2
  simp at y0 y1 y2
  exact ⟨y0, y1, y2⟩
set_option maxRecDepth 4000
set_option maxHeartbeats 4000000
theorem after_spec (dv av pv : Value) (b : RB) (d : RD) (h : St W I w l) (hb : BodyI I dv av b) (hp : BytesI I pv d.p) (h0 : 0 ≤ d.n) (h1 : b.data.length + d.n.toNat + d.p.length ≤ 1000000) (ha : b.attrs.length ≤ 500000) :
    Calls Tryz.prog 56 #[.agg #[.bool b.there, dv, av], .agg #[.int .i64 d.what, .int .i64 d.n, .string d.name, pv]] w fun e w' => ∃ I' dv' av', I.sub I' ∧ e = .returned (.agg #[.bool (rafter b d).there, dv', av']) ∧ BodyI I' dv' av' (rafter b d) ∧ St W I' w' l := by
  have HB := Lib.hid hb
  have HP2 := Lib.hid hp
  have H := Lib.hid h
  have HL1 := Lib.hid h1
  obtain ⟨Ad, cd, rfl⟩ := BytesI.slice hb.1
  obtain ⟨Aa, ca, rfl⟩ := AttrsI.slice hb.2
  obtain ⟨Ap, cp, rfl⟩ := BytesI.slice hp
  clear hb hp h h1
  by_cases w1 : d.what = 1
  · have hr : rafter b d = ⟨true, [], []⟩ := by simp [rafter, w1]
    have HR := Lib.hid hr
    clear hr
    rw [w1]
    go_enter Tryz.func56, Tryz.ntmps56
    go_wp2_with fail
    refine bodyPost_ret (v := .agg #[.bool true, .slice none 0 0, .slice none 0 0]) (by simp [results, Tryz.results56, go_sem]) rfl ?_
    rw [HR.out]
    exact ⟨I, _, _, Hp.sub.refl _, rfl, ⟨bytes_nil I, attrs_nil I⟩, ((H.out.keep (below_alloc _ _)).keep (below_alloc _ _)).keep (below_alloc _ _)⟩
  · by_cases w2 : d.what = 2
    · have hr : rafter b d = { b with data := layB b.data d.n.toNat d.p } := by simp [rafter, w2]
      have HR := Lib.hid hr
      obtain ⟨n, hn⟩ : ∃ n : Nat, d.n = n := ⟨d.n.toNat, by omega⟩
      have h2 := (((H.out.alloc (.cells #[.bool b.there, .slice Ad b.data.length cd, .slice Aa b.attrs.length ca] 92)).keep (below_alloc _ (.cells #[.int .i64 2, .int .i64 d.n, .string d.name, .slice Ap d.p.length cp] 71))).alloc_at (.cells #[.bool false, .slice none 0 0, .slice none 0 0] 92) (show w.heap.size + 1 + 1 = _ by simp))
      have hw := write_spec3 (.slice Ad b.data.length cd) (.slice Ap d.p.length cp) b.data d.p n h2 HB.out.1 HP2.out (by have := HL1.out; rw [hn] at this; omega)
      rw [← hn] at hw
      have HW := Lib.hid hw
      have HN := Lib.hid hn
      clear hr h2 hw hn w1
      rw [w2]
      go_enter Tryz.func56, Tryz.ntmps56
      go_wp2_with fail
      refine HW.out.mono ?_
      rintro e w3 ⟨I3, v3, hs3, rfl, hb3, h3⟩
      have HS3 := Lib.hid hs3
      have HB3 := Lib.hid hb3
      obtain ⟨A3, c3, rfl⟩ := BytesI.slice hb3
      clear hs3 hb3 HW
      obtain ⟨y0, y1, y2⟩ := (h3.pull 1 _ rfl).cells3
      obtain ⟨z0, z1, z2⟩ := h3.cells3
      have f := frozen_of_row (h3.pull 1 _ rfl).heap
      have f2 := frozen_of_row h3.heap
      have hne := h3.ne
      have h4 := (h3.pull 1 _ rfl).setCell 1 (.slice A3 (layB b.data n d.p).length c3)
      simp only [List.setIfInBounds_toArray, List.set_cons_zero, List.set_cons_succ] at h4
      have H4 := Lib.hid h4
      clear h3 h4
      go_wp2_with fail
      have h5 := St.set3c (H4.out.pull 1 _ rfl) (.bool b.there) (.slice A3 (layB b.data n d.p).length c3) (.slice Aa b.attrs.length ca)
      generalize (World.setCell _ _ _ : World) = w5 at h5 ⊢
      obtain ⟨x0, x1, x2⟩ := h5.cells3
      refine bodyPost_ret (v := .agg #[.bool b.there, (.slice A3 (layB b.data n d.p).length c3), (.slice Aa b.attrs.length ca)]) (by simp [results, Tryz.results56, go_sem, x0, x1, x2]) rfl ?_
      rw [HR.out]
      exact ⟨_, _, _, HS3.out, rfl, ⟨by show BytesI I3 _ (layB b.data d.n.toNat d.p); rw [HN.out]; exact HB3.out, HB.out.2.mono HS3.out⟩, h5.drop.drop⟩
    · by_cases w3 : d.what = 3
      · obtain ⟨m, hm⟩ : ∃ m, min d.n.toNat b.data.length = m := ⟨_, rfl⟩
        have hr : rafter b d = { b with data := b.data.take m } := by simp [rafter, w3, hm]
        have HR := Lib.hid hr
        have hml : m ≤ b.data.length := by omega
        have hmin : min d.n (b.data.length : Int) = (m : Int) := by omega
        have hcap : b.data.length ≤ cd := by
          obtain ⟨A', c', e, _, q, _⟩ := HB.out.1
          simp only [Value.slice.injEq, true_and] at e
          obtain ⟨_, rfl⟩ := e
          exact q
        have hmc : m ≤ cd := by omega
        have h2 := (((H.out.alloc (.cells #[.bool b.there, .slice Ad b.data.length cd, .slice Aa b.attrs.length ca] 92)).keep (below_alloc _ (.cells #[.int .i64 3, .int .i64 d.n, .string d.name, .slice Ap d.p.length cp] 71))).alloc_at (.cells #[.bool false, .slice none 0 0, .slice none 0 0] 92) (show w.heap.size + 1 + 1 = _ by simp))
        have h3 := St.lit_row h2 #[] [] 0 rfl rfl (by unfold maxLen; omega)
        have hsz : (((w.alloc (.cells #[.bool b.there, .slice Ad b.data.length cd, .slice Aa b.attrs.length ca] 92)).alloc (.cells #[.int .i64 3, .int .i64 d.n, .string d.name, .slice Ap d.p.length cp] 71)).alloc (.cells #[.bool false, .slice none 0 0, .slice none 0 0] 92)).heap.size = w.heap.size + 1 + 1 + 1 := by simp
        rw [hsz] at h3
        have hbt : BytesI I (.slice Ad m cd) (b.data.take m) := bytes_take HB.out.1 hml
        have hbl : (b.data.take m).length = m := by rw [List.length_take]; omega
        obtain ⟨v4, w4, hr4, h4⟩ := St.bytes_append 31 h3 (bytes_src h3 (v := .slice Ad m cd) hbt) (by rw [hbl]; have := HL1.out; omega)
        rw [Nat.zero_add, List.nil_append] at h4
        obtain ⟨A4, c4, rfl⟩ := is_slice h4.row_owns
        obtain ⟨I4, hs4, hb4, h4⟩ := h4.freeze_row
        rw [hbl] at hr4 hb4
        have HR4 := Lib.hid hr4
        have HS4 := Lib.hid hs4
        have HB4 := Lib.hid hb4
        have H4' := Lib.hid h4
        clear hr h2 h3 w1 w2 hm hsz hr4 hs4 hb4 h4 hbt
        rw [w3]
        go_enter Tryz.func56, Tryz.ntmps56
        obtain ⟨y0, y1, y2⟩ := (H4'.out.pull 1 _ rfl).cells3
        obtain ⟨z0, z1, z2⟩ := H4'.out.cells3
        have f := frozen_of_row (H4'.out.pull 1 _ rfl).heap
        have f2 := frozen_of_row H4'.out.heap
        have hne := H4'.out.ne
        have h4 := (H4'.out.pull 1 _ rfl).setCell 1 (.slice A4 m c4)
        simp only [List.setIfInBounds_toArray, List.set_cons_zero, List.set_cons_succ] at h4
        have H4 := Lib.hid h4
        clear h4
        go_wp2_with (at_builtin; refine Lib.wpList_append_run _ rfl (.tmp 30) (.tmp 39) 31 31 rfl _ _ rfl rfl _ _ HR4.out ?_)
        have h5 := St.set3c (H4.out.pull 1 _ rfl) (.bool b.there) (.slice A4 m c4) (.slice Aa b.attrs.length ca)
        generalize (World.setCell _ _ _ : World) = w5 at h5 ⊢
        obtain ⟨x0, x1, x2⟩ := h5.cells3
        refine bodyPost_ret (v := .agg #[.bool b.there, (.slice A4 m c4), (.slice Aa b.attrs.length ca)]) (by simp [results, Tryz.results56, go_sem, x0, x1, x2]) rfl ?_
        rw [HR.out]
        exact ⟨_, _, _, HS4.out, rfl, ⟨by show BytesI I4 _ (b.data.take m); unfold BytesI; rw [hbl]; exact HB4.out, HB.out.2.mono HS4.out⟩, h5.drop.drop⟩
      · by_cases w4 : d.what = 4
        · have hr : rafter b d = RB.no := by simp [rafter, w4]
          have HR := Lib.hid hr
          clear hr w1 w2 w3
          rw [w4]
          go_enter Tryz.func56, Tryz.ntmps56
          go_wp2_with fail
          refine bodyPost_ret (v := .agg #[.bool false, .slice none 0 0, .slice none 0 0]) (by simp [results, Tryz.results56, go_sem]) rfl ?_
          rw [HR.out]
          exact ⟨I, _, _, Hp.sub.refl _, rfl, ⟨bytes_nil I, attrs_nil I⟩, ((H.out.keep (below_alloc _ _)).keep (below_alloc _ _)).keep (below_alloc _ _)⟩
        · have hr : rafter b d = { b with attrs := rset b.attrs d.name d.p } := by simp [rafter, w1, w2, w3, w4]
          have HR := Lib.hid hr
          have d1 : (d.what == 1) = false := by simpa using w1
          have d2 : (d.what == 2) = false := by simpa using w2
          have d3 : (d.what == 3) = false := by simpa using w3
          have d4 : (d.what == 4) = false := by simpa using w4
          have h2 := (((H.out.alloc (.cells #[.bool b.there, .slice Ad b.data.length cd, .slice Aa b.attrs.length ca] 92)).keep (below_alloc _ (.cells #[.int .i64 d.what, .int .i64 d.n, .string d.name, .slice Ap d.p.length cp] 71))).alloc_at (.cells #[.bool false, .slice none 0 0, .slice none 0 0] 92) (show w.heap.size + 1 + 1 = _ by simp))
          have hw := set3_spec (.slice Aa b.attrs.length ca) (.slice Ap d.p.length cp) b.attrs d.name d.p h2 HB.out.2 HP2.out ha (by have := HL1.out; omega)
          have HW := Lib.hid hw
          clear hr h2 hw w1 w2 w3 w4
          go_enter Tryz.func56, Tryz.ntmps56
          go_wp2_with fail
          refine HW.out.mono ?_
          rintro e w3 ⟨I3, v3, hs3, rfl, hb3, h3⟩
          have HS3 := Lib.hid hs3
          have HB3 := Lib.hid hb3
          obtain ⟨A3, c3, rfl⟩ := AttrsI.slice hb3
          clear hs3 hb3 HW
          obtain ⟨y0, y1, y2⟩ := (h3.pull 1 _ rfl).cells3
          obtain ⟨z0, z1, z2⟩ := h3.cells3
          have f := frozen_of_row (h3.pull 1 _ rfl).heap
          have f2 := frozen_of_row h3.heap
          have hne := h3.ne
          have h4 := (h3.pull 1 _ rfl).setCell 2 (.slice A3 (rset b.attrs d.name d.p).length c3)
          simp only [List.setIfInBounds_toArray, List.set_cons_zero, List.set_cons_succ] at h4
          have H4 := Lib.hid h4
          clear h3 h4
          go_wp2_with fail
          have h5 := St.set3c (H4.out.pull 1 _ rfl) (.bool b.there) (.slice Ad b.data.length cd) (.slice A3 (rset b.attrs d.name d.p).length c3)
          generalize (World.setCell _ _ _ : World) = w5 at h5 ⊢
          obtain ⟨x0, x1, x2⟩ := h5.cells3
          refine bodyPost_ret (v := .agg #[.bool b.there, (.slice Ad b.data.length cd), (.slice A3 (rset b.attrs d.name d.p).length c3)]) (by simp [results, Tryz.results56, go_sem, x0, x1, x2]) rfl ?_
          rw [HR.out]
          exact ⟨_, _, _, HS3.out, rfl, ⟨(bytesIP _ _).mono HS3.out HB.out.1, HB3.out⟩, h5.drop.drop⟩
end
end Go.Proofs.YtagljjhfkhadpaaGreat
/- hectographref3: Now, weight. -/
namespace Go.Proofs.YtagljjhfkhadpaaGreat
open Go.RowKit
/-- A thing's value, as it is handed on. -/
def TZ.val (z : TZ) : Value := .agg #[.int .i64 z.t.key.kind, .int .i64 z.t.key.img, .int .i64 z.t.key.num, .int .i64 z.t.key.snap, .bool z.t.dry.there, z.dv, z.av, z.wv]
/-- A thing that Now may be asked of. -/
def RD.fits (d : RD) : Prop := 0 ≤ d.n ∧ d.n ≤ 40000 ∧ d.p.length ≤ 16384 ∧ d.name.size ≤ 20 ∧ (d.what = 2 → d.n ≤ 16384)
/-- Attributes that are no larger than they may be. -/
def smallA (l : List (ByteArray × List Int)) : Prop := ∀ x ∈ l, x.1.size ≤ 20 ∧ x.2.length ≤ 16384
structure RT.fits (t : RT) (m : Nat) : Prop where
  data : t.dry.data.length ≤ 40000
  size : t.dry.attrs.length + t.wet.length ≤ m
  small : smallA t.dry.attrs
  deeds : ∀ d ∈ t.wet, d.fits
/-- How a body grows. -/
structure Grown (m : Nat) (k : Nat) (b : RB) : Prop where
  data : b.data.length ≤ 40000
  attrs : b.attrs.length ≤ m + k
  small : smallA b.attrs
theorem foldl_setStep_len (nm : ByteArray) (v : List Int) : ∀ (l : List (ByteArray × List Int)) (s : List (ByteArray × List Int) × Bool), (l.foldl (setStep nm v) s).1.length + (if (l.foldl (setStep nm v) s).2 then 0 else 1) ≤ s.1.length + (if s.2 then 0 else 1) + l.length
  | [], s => by simp only [List.foldl_nil, List.length_nil, Nat.add_zero]; exact Nat.le_refl _
  | x :: l, s => by
    rw [List.foldl_cons]
    have h1 := foldl_setStep_len nm v l (setStep nm v s x)
    have h2 : (setStep nm v s x).1.length + (if (setStep nm v s x).2 then 0 else 1) ≤ s.1.length + (if s.2 then 0 else 1) + 1 := by
      obtain ⟨s1, s2⟩ := s
      unfold setStep
      by_cases hc : s2 = false ∧ nameGe x.1 nm = true
      · rw [if_pos hc]
        have hs2 : s2 = false := hc.1
        subst hs2
        simp only [List.length_append, if_true, Bool.false_eq_true, if_false]
        split <;> split <;> simp <;> omega
      · rw [if_neg hc]
        simp only [List.length_append, List.length_cons, List.length_nil]
        omega
    simp only [List.length_cons]
    omega
theorem rset_len (l : List (ByteArray × List Int)) (nm : ByteArray) (v : List Int) : (rset l nm v).length ≤ l.length + 1 := by
  have h := foldl_setStep_len nm v l ([], false)
  unfold rset
  simp only [List.length_append]
  simp only [List.length_nil, Bool.false_eq_true, if_false] at h
  split
  · rename_i hc
    rw [hc.1] at h
    simp only [Bool.false_eq_true, if_false] at h
    simp only [List.length_cons, List.length_nil]
    omega
  · simp only [List.length_nil]
    omega
theorem foldl_setStep_mem (nm : ByteArray) (v : List Int) : ∀ (l : List (ByteArray × List Int)) (s : List (ByteArray × List Int) × Bool) (x : ByteArray × List Int), x ∈ (l.foldl (setStep nm v) s).1 → x ∈ s.1 ∨ x ∈ l ∨ x = (nm, v)
  | [], s, x, h => .inl h
  | y :: l, s, x, h => by
    rw [List.foldl_cons] at h
    rcases foldl_setStep_mem nm v l _ x h with h | h | h
    · unfold setStep at h
      split at h
      · simp only [List.mem_append] at h
        rcases h with (h | h) | h
        · exact .inl h
        · split at h
          · cases h
          · exact .inr (.inr (List.mem_singleton.1 h))
        · split at h
          · cases h
          · exact .inr (.inl (by rw [List.mem_singleton.1 h]; exact List.mem_cons_self ..))
      · simp only [List.mem_append, List.mem_singleton] at h
        rcases h with h | h
        · exact .inl h
        · exact .inr (.inl (by rw [h]; exact List.mem_cons_self ..))
    · exact .inr (.inl (List.mem_cons_of_mem _ h))
    · exact .inr (.inr h)
theorem rset_mem {l : List (ByteArray × List Int)} {nm : ByteArray} {v : List Int} {x : ByteArray × List Int} (h : x ∈ rset l nm v) : x ∈ l ∨ x = (nm, v) := by
  unfold rset at h
  simp only [List.mem_append] at h
  rcases h with h | h
  · rcases foldl_setStep_mem nm v l _ x h with h | h | h
    · cases h
    · exact .inl h
    · exact .inr h
  · split at h
    · exact .inr (List.mem_singleton.1 h)
    · cases h
theorem grown_step {m k : Nat} {b : RB} {d : RD} (h : Grown m k b) (hd : d.fits) : Grown m (k + 1) (rafter b d) := by
  obtain ⟨h1, h2, h3⟩ := h
  obtain ⟨d1, d2, d3, d4, d5⟩ := hd
  have hno : smallA ([] : List (ByteArray × List Int)) := fun x hx => by cases hx
  unfold rafter
  split
  · exact ⟨by simp, by simp, hno⟩
  · split
    · have d6 := d5 (by assumption)
      refine ⟨?_, by simp only; omega, h3⟩
      show (layB b.data d.n.toNat d.p).length ≤ 40000
      rw [layB_length]
      split <;> omega
    · split
      · refine ⟨?_, by simp only; omega, h3⟩
        show (b.data.take _).length ≤ 40000
        rw [List.length_take]
        omega
      · split
        · exact ⟨by simp [RB.no], by simp [RB.no], hno⟩
        · refine ⟨h1, ?_, fun x hx => ?_⟩
          · have := rset_len b.attrs d.name d.p
            show (rset b.attrs d.name d.p).length ≤ m + (k + 1)
            omega
          · rcases rset_mem hx with hx | hx
            · exact h3 x hx
            · rw [hx]; exact ⟨d4, d3⟩
theorem grown_fold {m : Nat} : ∀ (ds : List RD) (b : RB) (k : Nat), Grown m k b → (∀ d ∈ ds, d.fits) → Grown m (k + ds.length) (ds.foldl rafter b)
  | [], _, _, h, _ => h
  | d :: ds, b, k, h, hd => by
    rw [List.foldl_cons, List.length_cons, show k + (ds.length + 1) = k + 1 + ds.length by omega]
    exact grown_fold ds _ _ (grown_step h (hd d (List.mem_cons_self ..))) fun x hx => hd x (List.mem_cons_of_mem _ hx)
/-- What a thing is now, and how large. -/
theorem now_grown {t : RT} {m : Nat} (h : t.fits m) : Grown t.dry.attrs.length t.wet.length (rnow t) := by
  have := grown_fold (m := t.dry.attrs.length) t.wet t.dry 0 ⟨h.data, by omega, h.small⟩ h.deeds
  rw [Nat.zero_add] at this
  exact this
section
variable {W w : World} {I : Hp} {l : List HP} {q : Nat} {R : RS}
set_option maxRecDepth 4000
set_option maxHeartbeats 4000000
theorem now_spec (z : TZ) (h : St W I w l) (hz : z.ok I) (hf : z.t.fits 100000) :
    Calls Tryz.prog 67 #[z.val] w fun e w' => ∃ I' dv' av', I.sub I' ∧ e = .returned (.agg #[.bool (rnow z.t).there, dv', av']) ∧ BodyI I' dv' av' (rnow z.t) ∧ St W I' w' l := by
  obtain ⟨t, dv, av, wv⟩ := z
  unfold TZ.val
  simp only
  obtain ⟨hb, hd⟩ := hz
  simp only at hb hd hf
  obtain ⟨Ad, cd, rfl⟩ := BytesI.slice hb.1
  obtain ⟨Aa, ca, rfl⟩ := AttrsI.slice hb.2
  obtain ⟨zs, hzs, hrow, hzb⟩ := hd
  have HROW := Lib.hid hrow
  obtain ⟨Aw, cw, e1, _⟩ := hrow
  subst e1
  have hzl : zs.length = t.wet.length := by rw [← hzs, List.length_map]
  obtain ⟨I1, hs1, hI1, h1⟩ := (h.alloc (.cells #[.int .i64 t.key.kind, .int .i64 t.key.img, .int .i64 t.key.num, .int .i64 t.key.snap, .bool t.dry.there, .slice Ad t.dry.data.length cd, .slice Aa t.dry.attrs.length ca, .slice Aw t.wet.length cw] 95)).freeze
  have h2 := (h1.alloc_at (.cells #[.bool false, .slice none 0 0, .slice none 0 0] 92) (show w.heap.size + 1 = _ by simp)).alloc_at (.cells #[.bool t.dry.there, .slice Ad t.dry.data.length cd, .slice Aa t.dry.attrs.length ca] 92) (show w.heap.size + 1 + 1 = _ by simp)
  have H2 := Lib.hid h2
  have HS1 := Lib.hid hs1
  have HI1 := Lib.hid hI1
  have HB := Lib.hid hb
  have HZB := Lib.hid hzb
  have HZS := Lib.hid hzs
  have HF := Lib.hid hf
  have hwl : t.wet.length ≤ 100000 := by have := hf.size; omega
  clear h h1 h2 hs1 hI1 hb hzb hzs hf
  go_enter Tryz.func67, Tryz.ntmps67
  go_wp2_with fail
  go_loopw [4] (fun a4 wr => ∃ (i : Nat) (I2 : Hp) (b : RB) (A1 : Option Addr) (c1 : Nat) (A2 : Option Addr) (c2 : Nat), a4 = .int .i64 i ∧ i ≤ t.wet.length ∧ (t.wet.take i).foldl rafter t.dry = b ∧ I1.sub I2 ∧ BodyI I2 (.slice A1 b.data.length c1) (.slice A2 b.attrs.length c2) b ∧
     St W I2 wr (HP.pt (w.heap.size + 1 + 1) (.cells #[.bool b.there, .slice A1 b.data.length c1, .slice A2 b.attrs.length c2] 92) :: HP.pt (w.heap.size + 1) (.cells #[.bool false, .slice none 0 0, .slice none 0 0] 92) :: l)) (fun a4 _ => t.wet.length - (intOf a4).toNat)
  case atStart => exact ⟨0, I1, t.dry, Ad, cd, Aa, ca, rfl, Nat.zero_le _, rfl, Hp.sub.refl _, HB.out.mono HS1.out, H2.out⟩
  case round =>
    obtain ⟨i, I2, b, A1, c1, A2, c2, rfl, hi, hbf, hs2, hbi, hst⟩ := hrel
    have y := cells_of (hst.imm_heap (hs2 _ _ HI1.out)) 7
    simp at y
    by_cases hlt : i < t.wet.length
    · obtain ⟨⟨d, pv⟩, hzi⟩ : ∃ z, zs[i]? = some z := ⟨_, List.getElem?_eq_getElem (by omega)⟩
      have hpb := HZB.out _ (List.mem_of_getElem? hzi)
      have hdi : t.wet[i]? = some d := by rw [← HZS.out, List.getElem?_map, hzi]; rfl
      have hdf := HF.out.deeds d (List.mem_of_getElem? hdi)
      have hbf2 : (t.wet.take (i + 1)).foldl rafter t.dry = rafter b d := by
        obtain ⟨hil, he⟩ := List.getElem?_eq_some_iff.1 hdi
        rw [List.take_succ_eq_append_getElem hil, List.foldl_append, hbf, he]; rfl
      have hgr : Grown t.dry.attrs.length i b := by
        have := grown_fold (m := t.dry.attrs.length) (t.wet.take i) t.dry 0 ⟨HF.out.data, by omega, HF.out.small⟩ fun x hx => HF.out.deeds x (List.mem_of_mem_take hx)
        rw [hbf, List.length_take, Nat.zero_add, Nat.min_eq_left hi] at this
        exact this
      rw [← hzl] at HROW
      obtain ⟨g, off, e1, hc⟩ := rowk_cell (i := i) HROW.out (HS1.out.trans hs2) hst (fun _ => rfl) hzi
      simp only [Value.slice.injEq, and_true] at e1
      subst e1
      have c0 := hc 0 (by omega)
      have c1' := hc 1 (by omega)
      have c2' := hc 2 (by omega)
      have c3' := hc 3 (by omega)
      simp only [DZ.cells, List.getElem?_cons_succ, List.getElem?_cons_zero, Nat.add_zero] at c0 c1' c2' c3'
      simp only at hpb
      have HPB := Lib.hid hpb
      obtain ⟨Ap, cp, rfl⟩ := BytesI.slice hpb
      obtain ⟨x0, x1, x2⟩ := hst.cells3
      have HST := Lib.hid hst
      have HAF := Lib.hid (after_spec (w := wr.drew) _ _ _ b d hst.drew hbi ((bytesIP _ _).mono (HS1.out.trans hs2) HPB.out) hdf.1 (by have := hgr.data; have := hdf.2.1; have := hdf.2.2.1; omega) (by have := hgr.attrs; have := HF.out.size; omega))
      have HBF2 := Lib.hid hbf2
      have HS2 := Lib.hid hs2
      clear hst hc hzi hdi hbf hbf2 hgr hdf hpb hs2 hbi
      go_wp2_with fail
      refine wp_region_calm [1, 3] [0, 2, 4, 5] [6, 7] (by kernel_rfl) (by kernel_rfl) ?_
      simp only [pickL, List.getElem?_cons_zero, List.getElem?_cons_succ]
      repeat (refine wpPlain_step _ (Or.inl ⟨by rfl, by intro w; go_simp; try with_reducible rfl⟩) ?_; (try simp only [Act.put, List.setIfInBounds_toArray, List.set_cons_zero, List.set_cons_succ]))
      refine wpPlain_nil ?_
      repeat still_step
      refine wpStill_nil ?_
      go_wp2_with fail
      refine HAF.out.mono ?_
      rintro e w3 ⟨I3, dv3, av3, hs3, rfl, hb3, h3⟩
      obtain ⟨A3, c3, rfl⟩ := BytesI.slice hb3.1
      obtain ⟨A4, c4, rfl⟩ := AttrsI.slice hb3.2
      obtain ⟨z0, z1, z2⟩ := h3.cells3
      have f := frozen_of_row h3.heap
      have h4 := St.set3c h3 (.bool (rafter b d).there) (.slice A3 (rafter b d).data.length c3) (.slice A4 (rafter b d).attrs.length c4)
      have H4 := Lib.hid h4
      have HS3 := Lib.hid (HS2.out.trans hs3)
      have HB3 := Lib.hid hb3
      clear h3 h4 hs3 hb3 HAF y c0 c1' c2' c3' x0 x1 x2
      go_wp2_with fail
      refine NoPanic.normal ?_
      go_wp2_with fail
      go_roundw
      case rel => exact ⟨i + 1, I3, rafter b d, A3, c3, A4, c4, by go_num, by omega, HBF2.out, HS3.out, HB3.out, H4.out⟩
      case measure => simp [intOf]; omega
    · obtain rfl : i = t.wet.length := by omega
      rw [List.take_length] at hbf
      have hbn : rnow t = b := hbf
      obtain ⟨x0, x1, x2⟩ := hst.cells3
      obtain ⟨z0, z1, z2⟩ := (hst.pull 1 _ rfl).cells3
      have f := frozen_of_row (hst.pull 1 _ rfl).heap
      have hne := hst.ne
      have HBN := Lib.hid hbn
      have HST := Lib.hid hst
      have HS2 := Lib.hid (HS1.out.trans hs2)
      have HBI := Lib.hid hbi
      clear hst hbf hbn hs2 hbi
      go_wp2_with fail
      have h5 := St.set3c (HST.out.pull 1 _ rfl) (.bool b.there) (.slice A1 b.data.length c1) (.slice A2 b.attrs.length c2)
      generalize (World.setCell _ _ _ : World) = w5 at h5 ⊢
      obtain ⟨x0, x1, x2⟩ := h5.cells3
      refine bodyPost_ret (v := .agg #[.bool b.there, .slice A1 b.data.length c1, .slice A2 b.attrs.length c2]) (by simp [results, Tryz.results67, go_sem, x0, x1, x2]) rfl ?_
      simp only [HBN.out]
      exact ⟨I2, _, _, HS2.out, rfl, HBI.out, h5.drop.drop⟩
theorem attrSize_snoc (l : List (ByteArray × List Int)) (x : ByteArray × List Int) : attrSize (l ++ [x]) = attrSize l + ((x.1.size : Int) + x.2.length) := by
  unfold attrSize
  rw [List.map_append, List.sum_append]
  simp
theorem attrSize_le : ∀ {l : List (ByteArray × List Int)}, smallA l → 0 ≤ attrSize l ∧ attrSize l ≤ 16404 * l.length
  | [], _ => by simp [attrSize]
  | x :: l, h => by
    have h1 := attrSize_le (l := l) fun y hy => h y (List.mem_cons_of_mem _ hy)
    have h2 := h x (List.mem_cons_self ..)
    have e : attrSize (x :: l) = ((x.1.size : Int) + x.2.length) + attrSize l := by unfold attrSize; simp
    rw [e, List.length_cons]
    omega
theorem weight_spec (dv av : Value) (b : RB) (h : St W I w l) (hb : BodyI I dv av b) (h1 : b.data.length ≤ 40000) (h2 : b.attrs.length ≤ 200000) (h3 : smallA b.attrs) :
    Calls Tryz.prog 64 #[.agg #[.bool b.there, dv, av]] w fun e w' => ∃ I', I.sub I' ∧ e = .returned (.int .i64 (rweight b)) ∧ St W I' w' l := by
  obtain ⟨Ad, cd, rfl⟩ := BytesI.slice hb.1
  obtain ⟨zs, hzs, hrow, hzb⟩ := hb.2
  have HROW := Lib.hid hrow
  obtain ⟨Aa, ca, e1, _⟩ := hrow
  subst e1
  have hzl : zs.length = b.attrs.length := by rw [← hzs, List.length_map]
  obtain ⟨I1, hs1, hI1, hst1⟩ := (h.alloc (.cells #[.bool b.there, .slice Ad b.data.length cd, .slice Aa b.attrs.length ca] 92)).freeze
  have H1 := Lib.hid hst1
  have HS1 := Lib.hid hs1
  have HI1 := Lib.hid hI1
  have HZB := Lib.hid hzb
  have HZS := Lib.hid hzs
  have HSM := Lib.hid h3
  clear h hst1 hs1 hI1 hb hzb hzs h3
  go_enter Tryz.func64, Tryz.ntmps64
  go_wp2_with fail
  go_loopw [3, 4] (fun a3 a4 wr => ∃ (i : Nat), a4 = .int .i64 i ∧ a3 = .int .i64 (b.data.length + attrSize (b.attrs.take i)) ∧ i ≤ b.attrs.length ∧ St W I1 wr l) (fun _ a4 _ => b.attrs.length - (intOf a4).toNat)
  case atStart => exact ⟨0, rfl, by simp [attrSize], Nat.zero_le _, H1.out⟩
  case round =>
    obtain ⟨i, rfl, rfl, hi, hst⟩ := hrel
    have y := cells_of (hst.imm_heap HI1.out) 2
    simp at y
    by_cases hlt : i < b.attrs.length
    · obtain ⟨⟨⟨xn, xv⟩, xp⟩, hzi⟩ : ∃ z, zs[i]? = some z := ⟨_, List.getElem?_eq_getElem (by omega)⟩
      have hxb := HZB.out _ (List.mem_of_getElem? hzi)
      have hai : b.attrs[i]? = some (xn, xv) := by rw [← HZS.out, List.getElem?_map, hzi]; rfl
      have hsx := HSM.out _ (List.mem_of_getElem? hai)
      have hsz := attrSize_le (l := b.attrs.take i) fun x hx => HSM.out x (List.mem_of_mem_take hx)
      have hnx : attrSize (b.attrs.take (i + 1)) = attrSize (b.attrs.take i) + ((xn.size : Int) + xv.length) := by
        obtain ⟨hil, he⟩ := List.getElem?_eq_some_iff.1 hai
        rw [List.take_succ_eq_append_getElem hil, he, attrSize_snoc]
      obtain ⟨s, hs⟩ : ∃ s, attrSize (b.attrs.take i) = s := ⟨_, rfl⟩
      rw [hs] at hsz hnx ⊢
      have htl : (b.attrs.take i).length ≤ 200000 := by rw [List.length_take]; omega
      simp only at hsx hxb
      have e1 : IntKind.i64.wrap ((b.data.length : Int) + s + (xn.size : Int)) = (b.data.length : Int) + s + (xn.size : Int) := by rw [IntKind.wrap_i64]; omega
      have e2 : IntKind.i64.wrap ((b.data.length : Int) + s + (xn.size : Int) + (xv.length : Int)) = (b.data.length : Int) + s + (xn.size : Int) + (xv.length : Int) := by rw [IntKind.wrap_i64]; omega
      obtain ⟨Ax, cx, rfl⟩ := BytesI.slice hxb
      rw [← hzl] at HROW
      obtain ⟨g, off, e3, hc⟩ := rowk_cell (i := i) HROW.out HS1.out hst (fun _ => rfl) hzi
      simp only [Value.slice.injEq, and_true] at e3
      subst e3
      have c0 := hc 0 (by omega)
      have c1 := hc 1 (by omega)
      simp only [AZ.cells, List.getElem?_cons_succ, List.getElem?_cons_zero, Nat.add_zero] at c0 c1
      have HST := Lib.hid hst
      have HNX := Lib.hid hnx
      clear hst hc hzi hai hs hsz hsx hnx htl hxb
      go_wp2_with fail
      go_quiet (fail)
      go_wp2_with fail
      go_roundw
      case rel => exact ⟨i + 1, by go_num, by rw [HNX.out, ← Int.add_assoc, ← Int.add_assoc], by omega, HST.out.drewN nq⟩
      case measure => simp [intOf]; omega
    · obtain rfl : i = b.attrs.length := by omega
      rw [List.take_length]
      have HST := Lib.hid hst
      clear hst
      go_wp2_with fail
      go_ret
      exact ⟨I1, HS1.out, rfl, HST.out⟩
end
end Go.Proofs.YtagljjhfkhadpaaGreat
/- hectographref3: Body, Used, things, Left. -/
namespace Go.Proofs.YtagljjhfkhadpaaGreat
open Go.RowKit
/-- The reference store is no larger than so much. -/
structure RInv (R : RS) (c : Nat) : Prop where
  len : R.l.length ≤ c
  fits : ∀ t ∈ R.l, t.fits c
  keep : R.keep.length ≤ 1000000
  n : R.n ≤ 9223372036854775807
  most : c ≤ 100000
  room : 0 ≤ R.room ∧ R.room ≤ 1048576
section
variable {W w : World} {I : Hp} {l : List HP} {q : Nat} {R : RS}
theorem St.ref_cells (h : St W I w (refHP q R :: l)) : ∃ A c vk, w.cell? ⟨q, 0, none⟩ = some (.int .i64 R.room) ∧ w.cell? ⟨q, 1, none⟩ = some (.int .i64 R.count) ∧ w.cell? ⟨q, 2, none⟩ = some (.slice A R.l.length c) ∧ w.cell? ⟨q, 3, none⟩ = some (.bool R.off) ∧ w.cell? ⟨q, 4, none⟩ = some (.bool R.fused) ∧
    w.cell? ⟨q, 5, none⟩ = some (.int .i64 R.n) ∧ w.cell? ⟨q, 6, none⟩ = some (.int .i64 R.torn) ∧ w.cell? ⟨q, 7, none⟩ = some vk ∧ IntsI I vk R.keep ∧ (∀ i, w.frozen? ⟨q, i, none⟩ = false) ∧ q < w.heap.size := by
  obtain ⟨zs, vl, vk, hzs, hz, hkk, hop⟩ := h.ref_open
  have hzl : zs.length = R.l.length := by rw [← hzs, List.length_map]
  obtain ⟨A, c, e1, _⟩ := (hop.pull 1 _ rfl).row_slice (mk := TZ.cells)
  have y := cells_of hop.heap
  have y0 := y 0
  have y1 := y 1
  have y2 := y 2
  have y3 := y 3
  have y4 := y 4
  have y5 := y 5
  have y6 := y 6
  have y7 := y 7
  simp [RS.cells] at y0 y1 y2 y3 y4 y5 y6 y7
  rw [e1, hzl] at y2
  exact ⟨A, c, vk, y0, y1, y2, y3, y4, y5, y6, y7, hkk, frozen_of_row hop.heap, hop.lt⟩
/-- A thing of the reference store: where its cells lie. -/
theorem St.ref_thing (h : St W I w (refHP q R :: l)) {i : Nat} {t : RT} (ht : R.l[i]? = some t) : ∃ (z : TZ) (g c : Nat) (A1 : Option Addr) (c1 : Nat) (A2 : Option Addr) (c2 : Nat) (A3 : Option Addr) (c3 : Nat), z.t = t ∧ z.ok I ∧ z.dv = .slice A1 t.dry.data.length c1 ∧ z.av = .slice A2 t.dry.attrs.length c2 ∧ z.wv = .slice A3 t.wet.length c3 ∧
    w.cell? ⟨q, 2, none⟩ = some (.slice (some ⟨g, 0, none⟩) R.l.length c) ∧ R.l.length ≤ c ∧ g < w.heap.size ∧ ∀ j, j < 8 → w.cell? ⟨g, i * 8 + j, none⟩ = z.cells[j]? := by
  obtain ⟨zs, vl, vk, hzs, hz, hkk, hop⟩ := h.ref_open
  have hzl : zs.length = R.l.length := by rw [← hzs, List.length_map]
  have hil : i < zs.length := by rw [hzl]; exact (List.getElem?_eq_some_iff.1 ht).1
  obtain ⟨z, hzi⟩ : ∃ z, zs[i]? = some z := ⟨_, List.getElem?_eq_getElem hil⟩
  have hzt : z.t = t := by
    have : R.l[i]? = some z.t := by rw [← hzs, List.getElem?_map, hzi]; rfl
    rw [ht] at this
    simpa using this.symm
  obtain ⟨g, c, e1, hgc, hgl, hc⟩ := St.row_elem (mk := TZ.cells) (hop.pull 1 _ rfl) (fun _ => rfl) hzi
  have y2 := cells_of hop.heap 2
  simp [RS.cells] at y2
  rw [e1, hzl] at y2
  have hok := hz z (List.mem_of_getElem? hzi)
  obtain ⟨A1, c1, e2⟩ := BytesI.slice hok.1.1
  obtain ⟨A2, c2, e3⟩ := AttrsI.slice hok.1.2
  obtain ⟨A3, c3, e4⟩ := DeedsI.slice hok.2
  rw [hzt] at e2 e3 e4
  exact ⟨z, g, c, A1, c1, A2, c2, A3, c3, hzt, hok, e2, e3, e4, y2, by omega, hgl, hc⟩
theorem rfind_hit : ∀ {L : List RT} {k : K4}, (rfind L k).2 = true → ∃ t, L[(rfind L k).1]? = some t ∧ t.key = k
  | [], k, h => by simp [rfind] at h
  | t :: L, k, h => by
    unfold rfind at h ⊢
    by_cases h1 : t.key = k
    · rw [if_pos h1]; exact ⟨t, rfl, h1⟩
    · rw [if_neg h1] at h ⊢
      cases h2 : k.lt t.key with
      | true => rw [h2] at h; simp at h
      | false =>
        rw [h2] at h
        simp only [Bool.false_eq_true, if_false] at h ⊢
        obtain ⟨t', e1, e2⟩ := rfind_hit h
        exact ⟨t', by rw [List.getElem?_cons_succ]; exact e1, e2⟩
theorem rfind_le : ∀ (L : List RT) (k : K4), (rfind L k).1 ≤ L.length
  | [], k => by simp [rfind]
  | t :: L, k => by
    unfold rfind
    split
    · simp
    · split
      · simp
      · simp only [List.length_cons]
        have := rfind_le L k
        omega
set_option maxRecDepth 4000
set_option maxHeartbeats 4000000
/-- A thing of the reference store, and what Now answers of it. -/
theorem St.ref_now (h : St W I w (refHP q R :: l)) {c : Nat} (hi : RInv R c) {i : Nat} {t : RT} (ht : R.l[i]? = some t) : ∃ (g cc : Nat) (A1 : Option Addr) (c1 : Nat) (A2 : Option Addr) (c2 : Nat) (A3 : Option Addr) (c3 : Nat), BodyI I (.slice A1 t.dry.data.length c1) (.slice A2 t.dry.attrs.length c2) t.dry ∧ DeedsI I (.slice A3 t.wet.length c3) t.wet ∧
    w.cell? ⟨q, 2, none⟩ = some (.slice (some ⟨g, 0, none⟩) R.l.length cc) ∧ R.l.length ≤ cc ∧ i < R.l.length ∧
    w.cell? ⟨g, i * 8, none⟩ = some (.int .i64 t.key.kind) ∧ w.cell? ⟨g, i * 8 + 1, none⟩ = some (.int .i64 t.key.img) ∧ w.cell? ⟨g, i * 8 + 2, none⟩ = some (.int .i64 t.key.num) ∧ w.cell? ⟨g, i * 8 + 3, none⟩ = some (.int .i64 t.key.snap) ∧ w.cell? ⟨g, i * 8 + 4, none⟩ = some (.bool t.dry.there) ∧
    w.cell? ⟨g, i * 8 + 5, none⟩ = some (.slice A1 t.dry.data.length c1) ∧ w.cell? ⟨g, i * 8 + 6, none⟩ = some (.slice A2 t.dry.attrs.length c2) ∧ w.cell? ⟨g, i * 8 + 7, none⟩ = some (.slice A3 t.wet.length c3) ∧
    (∀ (w2 : World) (I2 : Hp) (l2 : List HP), I.sub I2 → St W I2 w2 l2 → Calls Tryz.prog 67 #[.agg #[.int .i64 t.key.kind, .int .i64 t.key.img, .int .i64 t.key.num, .int .i64 t.key.snap, .bool t.dry.there, .slice A1 t.dry.data.length c1, .slice A2 t.dry.attrs.length c2, .slice A3 t.wet.length c3]] w2 fun e w' => ∃ I' dv' av', I2.sub I' ∧ e = .returned (.agg #[.bool (rnow t).there, dv', av']) ∧ BodyI I' dv' av' (rnow t) ∧ St W I' w' l2) := by
  obtain ⟨z, g, cc, A1, c1, A2, c2, A3, c3, rfl, hzok, e1, e2, e3, y2, hcc, hgl, hc⟩ := h.ref_thing ht
  have x0 := hc 0 (by omega)
  have x1 := hc 1 (by omega)
  have x2 := hc 2 (by omega)
  have x3 := hc 3 (by omega)
  have x4 := hc 4 (by omega)
  have x5 := hc 5 (by omega)
  have x6 := hc 6 (by omega)
  have x7 := hc 7 (by omega)
  simp only [TZ.cells, List.getElem?_cons_zero, List.getElem?_cons_succ, Nat.add_zero, e1, e2, e3] at x0 x1 x2 x3 x4 x5 x6 x7
  have hil : i < R.l.length := (List.getElem?_eq_some_iff.1 ht).1
  have hft := hi.fits _ (List.mem_of_getElem? ht)
  have hb := hzok.1
  have hd := hzok.2
  rw [e1, e2] at hb
  rw [e3] at hd
  refine ⟨g, cc, A1, c1, A2, c2, A3, c3, hb, hd, y2, hcc, hil, x0, x1, x2, x3, x4, x5, x6, x7, fun w2 I2 l2 hs hst => ?_⟩
  have hnw := now_spec z hst (TZ.ok_mono hs hzok) ⟨hft.data, by have := hft.size; have := hi.most; omega, hft.small, hft.deeds⟩
  unfold TZ.val at hnw
  rw [e1, e2, e3] at hnw
  exact hnw
theorem body_spec (k : K4) {c : Nat} (h : St W I w (refHP q R :: l)) (hi : RInv R c) :
    Calls Tryz.prog 62 #[.pointer (some ⟨q, 0, none⟩), k.val] w fun e w' => ∃ I' dv av, I.sub I' ∧ e = .returned (.agg #[.bool (rbody R k).there, dv, av]) ∧ BodyI I' dv av (rbody R k) ∧ St W I' w' (refHP q R :: l) := by
  have h1 := ((h.keep (below_alloc w (.cells #[.int .i64 k.kind, .int .i64 k.img, .int .i64 k.num, .int .i64 k.snap] 30))).alloc_at (.cells #[.bool false, .slice none 0 0, .slice none 0 0] 92) (show w.heap.size + 1 = _ by simp)).pull 1 _ rfl
  have hfd := find_spec k h1 (by have := hi.len; have := hi.most; omega)
  have HFD := Lib.hid hfd
  have HI := Lib.hid hi
  simp only [K4.val] at HFD ⊢
  clear h h1 hfd hi
  go_enter Tryz.func62, Tryz.ntmps62
  go_wp2_with fail
  refine HFD.out.mono ?_
  rintro e w3 ⟨I3, hs3, rfl, h3⟩
  have h3 : St W I3 w3 (refHP q R :: HP.pt (w.heap.size + 1) (.cells #[.bool false, .slice none 0 0, .slice none 0 0] 92) :: l) := h3
  clear HFD
  cases hok : (rfind R.l k).2 with
  | false =>
    have HB := Lib.hid (show rbody R k = RB.no by simp [rbody, hok])
    obtain ⟨y0, y1, y2⟩ := (h3.pull 1 _ rfl).cells3
    have f := frozen_of_row (h3.pull 1 _ rfl).heap
    have H3 := Lib.hid h3
    have HS3 := Lib.hid hs3
    clear h3 hs3
    go_wp2_with fail
    have h5 := St.set3c (H3.out.pull 1 _ rfl) (.bool false) (.slice none 0 0) (.slice none 0 0)
    generalize (World.setCell _ _ _ : World) = w5 at h5 ⊢
    obtain ⟨x0, x1, x2⟩ := h5.cells3
    refine bodyPost_ret (v := .agg #[.bool false, .slice none 0 0, .slice none 0 0]) (by simp [results, Tryz.results62, go_sem, x0, x1, x2]) rfl ?_
    rw [HB.out]
    exact ⟨I3, _, _, HS3.out, rfl, ⟨bytes_nil _, attrs_nil _⟩, h5.drop⟩
  | true =>
    obtain ⟨t, hti, htk⟩ := rfind_hit hok
    obtain ⟨i, hie⟩ : ∃ i, (rfind R.l k).1 = i := ⟨_, rfl⟩
    rw [hie] at hti ⊢
    have HB := Lib.hid (show rbody R k = rnow t by simp [rbody, hok, hie, hti])
    obtain ⟨g, cc, A1, c1, A2, c2, A3, c3, _, _, y2, hcc, hil, x0, x1, x2, x3, x4, x5, x6, x7, hnw⟩ := h3.ref_now HI.out hti
    have HNW := Lib.hid (hnw w3 I3 _ (Hp.sub.refl _) h3)
    have HS3 := Lib.hid hs3
    clear h3 hs3 hti hnw hie htk
    go_wp2_with fail
    refine HNW.out.mono ?_
    rintro e w4 ⟨I4, dv4, av4, hs4, rfl, hb4, h4⟩
    obtain ⟨A5, c5, rfl⟩ := BytesI.slice hb4.1
    obtain ⟨A6, c6, rfl⟩ := AttrsI.slice hb4.2
    obtain ⟨y0, y1, y2⟩ := (h4.pull 1 _ rfl).cells3
    have f := frozen_of_row (h4.pull 1 _ rfl).heap
    have H4 := Lib.hid h4
    have HS4 := Lib.hid (HS3.out.trans hs4)
    have HB4 := Lib.hid hb4
    clear h4 hs4 hb4 x0 x1 x2 x3 x4 x5 x6 x7 HNW
    go_wp2_with fail
    have h5 := St.set3c (H4.out.pull 1 _ rfl) (.bool (rnow t).there) (.slice A5 (rnow t).data.length c5) (.slice A6 (rnow t).attrs.length c6)
    generalize (World.setCell _ _ _ : World) = w5 at h5 ⊢
    obtain ⟨x0, x1, x2⟩ := h5.cells3
    refine bodyPost_ret (v := .agg #[.bool (rnow t).there, .slice A5 (rnow t).data.length c5, .slice A6 (rnow t).attrs.length c6]) (by simp [results, Tryz.results62, go_sem, x0, x1, x2]) rfl ?_
    rw [HB.out]
    exact ⟨I4, _, _, HS4.out, rfl, HB4.out, h5.drop⟩
theorem field_there (b : Bool) (x y : Value) (w : World) : (Instr.field 92 (.agg #[.bool b, x, y]) 0).run Tryz.prog w = .ok (.bool b) w := by kernel_rfl
theorem things_spec {c : Nat} (h : St W I w (refHP q R :: l)) (hi : RInv R c) :
    Calls Tryz.prog 63 #[.pointer (some ⟨q, 0, none⟩)] w fun e w' => ∃ I', I.sub I' ∧ e = .returned (.int .i64 (rthings R.l : Nat)) ∧ St W I' w' (refHP q R :: l) := by
  have H := Lib.hid h
  have HI := Lib.hid hi
  have hlen := hi.len
  have hmost := hi.most
  clear h hi
  go_enter Tryz.func63, Tryz.ntmps63
  go_wp2_with fail
  go_loopw [3, 4] (fun a3 a4 wr => ∃ (i n : Nat) (I2 : Hp), a4 = .int .i64 i ∧ a3 = .int .i64 n ∧ i ≤ R.l.length ∧ n = rthings (R.l.take i) ∧ n ≤ i ∧ I.sub I2 ∧ St W I2 wr (refHP q R :: l)) (fun _ a4 _ => R.l.length - (intOf a4).toNat)
  case atStart => exact ⟨0, 0, I, rfl, rfl, Nat.zero_le _, rfl, Nat.le_refl _, Hp.sub.refl _, H.out⟩
  case round =>
    obtain ⟨i, n, I2, rfl, rfl, hil, hn, hni, hs2, hst⟩ := hrel
    obtain ⟨A, cA, vk, _, _, y2, _⟩ := hst.ref_cells
    by_cases hlt : i < R.l.length
    · obtain ⟨t, hti⟩ : ∃ t, R.l[i]? = some t := ⟨_, List.getElem?_eq_getElem hlt⟩
      clear y2
      obtain ⟨g, cc, A1, c1, A2, c2, A3, c3, _, _, y2, hcc, _, x0, x1, x2, x3, x4, x5, x6, x7, hnw⟩ := hst.ref_now HI.out hti
      have hn2 : rthings (R.l.take (i + 1)) = n + (if (rnow t).there then 1 else 0) := by
        obtain ⟨hil', he⟩ := List.getElem?_eq_some_iff.1 hti
        rw [List.take_succ_eq_append_getElem hil', he, hn]
        unfold rthings
        rw [List.countP_append]
        simp
      have HNW := Lib.hid (hnw wr I2 _ (Hp.sub.refl _) hst)
      have HS2 := Lib.hid hs2
      have HN2 := Lib.hid hn2
      clear hst hti hnw hs2 hn2 hn
      go_wp2_with fail
      refine HNW.out.mono ?_
      rintro e w4 ⟨I4, dv4, av4, hs4, rfl, hb4, h4⟩
      obtain ⟨A5, c5, rfl⟩ := BytesI.slice hb4.1
      obtain ⟨A6, c6, rfl⟩ := AttrsI.slice hb4.2
      clear hb4
      have H4 := Lib.hid h4
      have HS4 := Lib.hid (HS2.out.trans hs4)
      clear h4 hs4 x0 x1 x2 x3 x4 x5 x6 x7 HNW
      have hn2 := HN2.out
      have hfl := field_there
      cases hth : (rnow t).there with
      | true =>
        rw [hth, if_pos rfl] at hn2
        have HN3 := Lib.hid hn2
        clear hn2 hth
        go_wp2_with fail
        go_roundw
        case rel => exact ⟨i + 1, n + 1, I4, by go_num, by go_num, by omega, HN3.out.symm, by omega, HS4.out, H4.out⟩
        case measure => simp [intOf]; omega
      | false =>
        rw [hth, if_neg (by simp), Nat.add_zero] at hn2
        have HN3 := Lib.hid hn2
        clear hn2 hth
        go_wp2_with fail
        go_roundw
        case rel => exact ⟨i + 1, n, I4, by go_num, rfl, by omega, HN3.out.symm, by omega, HS4.out, H4.out⟩
        case measure => simp [intOf]; omega
    · obtain rfl : i = R.l.length := by omega
      rw [List.take_length] at hn
      have HN := Lib.hid hn
      have HST := Lib.hid hst
      have HS2 := Lib.hid hs2
      clear hst hs2 hn
      go_wp2_with fail
      go_ret
      rw [← HN.out]
      exact ⟨I2, HS2.out, rfl, HST.out⟩
theorem rused_bound : ∀ {L : List RT} {c : Nat}, (∀ t ∈ L, t.fits c) → 0 ≤ rused L ∧ rused L ≤ (L.length : Int) * (40000 + 16404 * c)
  | [], _, _ => by simp [rused]
  | t :: L, c, h => by
    have h1 := rused_bound (L := L) (c := c) fun y hy => h y (List.mem_cons_of_mem _ hy)
    have ht := h t (List.mem_cons_self ..)
    have hg := now_grown ht
    have ha := attrSize_le hg.small
    have hs := ht.size
    have hga := hg.attrs
    have hgd := hg.data
    have e : rused (t :: L) = rweight (rnow t) + rused L := by unfold rused; simp
    have hw : 0 ≤ rweight (rnow t) ∧ rweight (rnow t) ≤ 40000 + 16404 * c := by
      unfold rweight
      constructor
      · omega
      · have : (rnow t).attrs.length ≤ c := by omega
        omega
    rw [e, List.length_cons]
    have e2 : ((L.length + 1 : Nat) : Int) * (40000 + 16404 * (c : Int)) = (L.length : Int) * (40000 + 16404 * c) + (40000 + 16404 * c) := by push_cast; rw [Int.add_mul, Int.one_mul]
    rw [e2]
    omega
theorem rused_small {c : Nat} (hi : RInv R c) (i : Nat) : 0 ≤ rused (R.l.take i) ∧ rused (R.l.take i) ≤ 1000000000000000 := by
  have h := rused_bound (L := R.l.take i) (c := c) fun t ht => hi.fits t (List.mem_of_mem_take ht)
  refine ⟨h.1, Int.le_trans h.2 ?_⟩
  have h1 : (R.l.take i).length ≤ 100000 := by rw [List.length_take]; have := hi.len; have := hi.most; omega
  have h2 : (40000 + 16404 * (c : Int)) ≤ 1640440000 := by have := hi.most; omega
  have h3 : ((R.l.take i).length : Int) * (40000 + 16404 * (c : Int)) ≤ 100000 * 1640440000 := by
    refine Int.le_trans (Int.mul_le_mul_of_nonneg_right (show ((R.l.take i).length : Int) ≤ 100000 by omega) (by omega)) ?_
    exact Int.mul_le_mul_of_nonneg_left h2 (by decide)
  omega
theorem used3_spec {c : Nat} (h : St W I w (refHP q R :: l)) (hi : RInv R c) :
    Calls Tryz.prog 41 #[.pointer (some ⟨q, 0, none⟩)] w fun e w' => ∃ I', I.sub I' ∧ e = .returned (.int .i64 (rused R.l)) ∧ St W I' w' (refHP q R :: l) := by
  have H := Lib.hid h
  have HI := Lib.hid hi
  have hlen := hi.len
  have hmost := hi.most
  clear h hi
  go_enter Tryz.func41, Tryz.ntmps41
  go_wp2_with fail
  go_loopw [3, 4] (fun a3 a4 wr => ∃ (i : Nat) (I2 : Hp), a4 = .int .i64 i ∧ a3 = .int .i64 (rused (R.l.take i)) ∧ i ≤ R.l.length ∧ I.sub I2 ∧ St W I2 wr (refHP q R :: l)) (fun _ a4 _ => R.l.length - (intOf a4).toNat)
  case atStart => exact ⟨0, I, rfl, rfl, Nat.zero_le _, Hp.sub.refl _, H.out⟩
  case round =>
    obtain ⟨i, I2, rfl, rfl, hil, hs2, hst⟩ := hrel
    obtain ⟨A, cA, vk, _, _, y2, _⟩ := hst.ref_cells
    by_cases hlt : i < R.l.length
    · obtain ⟨t, hti⟩ : ∃ t, R.l[i]? = some t := ⟨_, List.getElem?_eq_getElem hlt⟩
      clear y2
      obtain ⟨g, cc, A1, c1, A2, c2, A3, c3, _, _, y2, hcc, _, x0, x1, x2, x3, x4, x5, x6, x7, hnw⟩ := hst.ref_now HI.out hti
      have hn2 : rused (R.l.take (i + 1)) = rused (R.l.take i) + ((rnow t).data.length + attrSize (rnow t).attrs) := by
        obtain ⟨hil', he⟩ := List.getElem?_eq_some_iff.1 hti
        rw [List.take_succ_eq_append_getElem hil', he]
        unfold rused
        rw [List.map_append, List.sum_append]
        simp [rweight]
      have hub := rused_small HI.out i
      obtain ⟨u, hu⟩ : ∃ u, rused (R.l.take i) = u := ⟨_, rfl⟩
      rw [hu] at hub hn2 ⊢
      have hft := HI.out.fits _ (List.mem_of_getElem? hti)
      have hgr := now_grown hft
      have hgl : (rnow t).attrs.length ≤ 200000 := by have := hgr.attrs; have := hft.size; omega
      have hgd := hgr.data
      have HSM := Lib.hid hgr.small
      have HNW := Lib.hid (hnw wr I2 _ (Hp.sub.refl _) hst)
      have HS2 := Lib.hid hs2
      have HN2 := Lib.hid hn2
      have ew : IntKind.i64.wrap (u + ((rnow t).data.length : Int)) = u + ((rnow t).data.length : Int) := by rw [IntKind.wrap_i64]; omega
      clear hst hti hnw hs2 hn2 hu hft hgr
      go_wp2_with fail
      refine HNW.out.mono ?_
      rintro e w4 ⟨I4, dv4, av4, hs4, rfl, hb4, h4⟩
      obtain ⟨A5, c5, rfl⟩ := BytesI.slice hb4.1
      obtain ⟨zs, hzs, hrow, hzb⟩ := hb4.2
      have HROW := Lib.hid hrow
      obtain ⟨A6, c6, e1, _⟩ := hrow
      subst e1
      have hzl : zs.length = (rnow t).attrs.length := by rw [← hzs, List.length_map]
      obtain ⟨I5, hs5, hI5, h5⟩ := (h4.alloc (.cells #[.bool (rnow t).there, .slice A5 (rnow t).data.length c5, .slice A6 (rnow t).attrs.length c6] 92)).freeze
      have H5 := Lib.hid h5
      have HS5 := Lib.hid ((HS2.out.trans hs4).trans hs5)
      have HS45 := Lib.hid hs5
      have HI5 := Lib.hid hI5
      have HZB := Lib.hid hzb
      have HZS := Lib.hid hzs
      clear h4 h5 hs4 hs5 hI5 hzb hzs hb4 x0 x1 x2 x3 x4 x5 x6 x7 HNW y2
      go_wp2_with fail
      go_loopw [3, 6] (fun a3 a6 wr => ∃ (j : Nat), a6 = .int .i64 j ∧ a3 = .int .i64 (u + (rnow t).data.length + attrSize ((rnow t).attrs.take j)) ∧ j ≤ (rnow t).attrs.length ∧ St W I5 wr (refHP q R :: l)) (fun _ a6 _ => (rnow t).attrs.length - (intOf a6).toNat)
      case atStart => exact ⟨0, rfl, by simp [attrSize], Nat.zero_le _, H5.out⟩
      case round =>
        obtain ⟨j, rfl, rfl, hj, hst⟩ := hrel
        have y := cells_of (hst.imm_heap HI5.out) 2
        simp at y
        by_cases hlt2 : j < (rnow t).attrs.length
        · obtain ⟨⟨⟨xn, xv⟩, xp⟩, hzi⟩ : ∃ z, zs[j]? = some z := ⟨_, List.getElem?_eq_getElem (by omega)⟩
          have hxb := HZB.out _ (List.mem_of_getElem? hzi)
          have hai : (rnow t).attrs[j]? = some (xn, xv) := by rw [← HZS.out, List.getElem?_map, hzi]; rfl
          have hsx := HSM.out _ (List.mem_of_getElem? hai)
          have hsz := attrSize_le (l := (rnow t).attrs.take j) fun x hx => HSM.out x (List.mem_of_mem_take hx)
          have hnx : attrSize ((rnow t).attrs.take (j + 1)) = attrSize ((rnow t).attrs.take j) + ((xn.size : Int) + xv.length) := by
            obtain ⟨hil, he⟩ := List.getElem?_eq_some_iff.1 hai
            rw [List.take_succ_eq_append_getElem hil, he, attrSize_snoc]
          obtain ⟨s, hs⟩ : ∃ s, attrSize ((rnow t).attrs.take j) = s := ⟨_, rfl⟩
          rw [hs] at hsz hnx ⊢
          have htl : ((rnow t).attrs.take j).length ≤ 200000 := by rw [List.length_take]; omega
          simp only at hsx hxb
          have e1 : IntKind.i64.wrap (u + ((rnow t).data.length : Int) + s + (xn.size : Int)) = u + ((rnow t).data.length : Int) + s + (xn.size : Int) := by rw [IntKind.wrap_i64]; omega
          have e2 : IntKind.i64.wrap (u + ((rnow t).data.length : Int) + s + (xn.size : Int) + (xv.length : Int)) = u + ((rnow t).data.length : Int) + s + (xn.size : Int) + (xv.length : Int) := by rw [IntKind.wrap_i64]; omega
          obtain ⟨Ax, cx, rfl⟩ := BytesI.slice hxb
          rw [← hzl] at HROW
          obtain ⟨g2, off2, e3, hc⟩ := rowk_cell (i := j) HROW.out HS45.out hst (fun _ => rfl) hzi
          simp only [Value.slice.injEq, and_true] at e3
          subst e3
          have z0 := hc 0 (by omega)
          have z1 := hc 1 (by omega)
          simp only [AZ.cells, List.getElem?_cons_succ, List.getElem?_cons_zero, Nat.add_zero] at z0 z1
          have HST := Lib.hid hst
          have HNX := Lib.hid hnx
          clear hst hc hzi hai hs hsz hsx hnx htl hxb
          go_wp2_with fail
          go_quiet (fail)
          go_wp2_with fail
          go_roundw
          case rel => exact ⟨j + 1, by go_num, by rw [HNX.out, ← Int.add_assoc, ← Int.add_assoc], by omega, HST.out.drewN nq⟩
          case measure => simp [intOf]; omega
        · obtain rfl : j = (rnow t).attrs.length := by omega
          rw [List.take_length]
          have HST := Lib.hid hst
          clear hst
          go_wp2_with fail
          go_roundw
          case rel => exact ⟨i + 1, I5, by go_num, by rw [HN2.out, Int.add_assoc], by omega, HS5.out, HST.out⟩
          case measure => simp [intOf]; omega
    · obtain rfl : i = R.l.length := by omega
      rw [List.take_length]
      have HST := Lib.hid hst
      have HS2 := Lib.hid hs2
      clear hst hs2
      go_wp2_with fail
      go_ret
      exact ⟨I2, HS2.out, rfl, HST.out⟩
end
end Go.Proofs.YtagljjhfkhadpaaGreat
/- hectographref3: New, Left, Power, Fuse, Read, Attr. -/
namespace Go.Proofs.YtagljjhfkhadpaaGreat
open Go.RowKit
section
variable {W w : World} {I : Hp} {l : List HP} {q : Nat} {R : RS}
theorem rinv_new (room : Int) : RInv (rnew room) 0 := ⟨Nat.le_refl _, (fun t ht => by cases ht), by simp [rnew], by simp [rnew], by omega, by unfold rnew heldI; simp only; constructor <;> split <;> (try split) <;> omega⟩
theorem ref_alloc (h : St W I w l) (R : RS) (hl : R.l = []) (hk : R.keep = []) : St W I (w.alloc (.cells (R.cells (.slice none 0 0) (.slice none 0 0)) 57)) (refHP w.heap.size R :: l) := by
  have h1 := h.alloc (.cells (R.cells (.slice none 0 0) (.slice none 0 0)) 57)
  have h2 := ((h1.row_nil 95 8).pull 1 _ rfl)
  exact St.ref_shut (zs := []) h2 (by rw [hl]; rfl) (fun z hz => by cases hz) (by rw [hk]; exact ints_nil I)
set_option maxRecDepth 4000
set_option maxHeartbeats 4000000
theorem new3_spec (room : Int) (h : St W I w l) :
    Calls Tryz.prog 8 #[.int .i64 room] w fun e w' => ∃ q, e = .returned (.pointer (some ⟨q, 0, none⟩)) ∧ St W I w' (refHP q (rnew room) :: l) := by
  have H := Lib.hid (ref_alloc h (rnew room) rfl rfl)
  clear h
  go_enter Tryz.func8, Tryz.ntmps8
  go_wp2_with fail
  refine (held_spec room 0 1048576 w).mono ?_
  rintro e w1 ⟨rfl, rfl⟩
  go_wp2_with fail
  go_ret
  exact ⟨_, rfl, H.out⟩
theorem left3_spec {c : Nat} (h : St W I w (refHP q R :: l)) (hi : RInv R c) :
    Calls Tryz.prog 43 #[.pointer (some ⟨q, 0, none⟩)] w fun e w' => ∃ I', I.sub I' ∧ e = .returned (.int .i64 (rleft R)) ∧ St W I' w' (refHP q R :: l) := by
  have H := Lib.hid h
  have hub := rused_small hi R.l.length
  rw [List.take_length] at hub
  have hrm := hi.room
  obtain ⟨A, cA, vk, y0, _⟩ := h.ref_cells
  have HI := Lib.hid hi
  obtain ⟨u, hu⟩ : ∃ u, rused R.l = u := ⟨_, rfl⟩
  rw [hu] at hub
  have hsub : IntKind.i64.wrap (R.room - u) = R.room - u := by rw [IntKind.wrap_i64]; omega
  have HL := Lib.hid (show rleft R = max 0 (R.room - u) by rw [rleft, hu])
  have hus := used3_spec h.drew hi
  rw [hu] at hus
  have HUS := Lib.hid hus
  clear h hi hub hrm hu hus
  go_enter Tryz.func43, Tryz.ntmps43
  go_wp2_with fail
  refine wp_region_keep (fun w' => w'.cell? ⟨q, 0, none⟩ = some (.int .i64 R.room)) [0, 1, 2, 3, 4] [5] [6, 7, 8] (by kernel_rfl) (by kernel_rfl) (by (exact y0)) ?_
  simp only [pickL, List.getElem?_cons_zero, List.getElem?_cons_succ]
  repeat (refine wpFirst_step _ (Or.inl ⟨by rfl, by (intro w hSw; (try dsimp only at hSw); go_simp; try with_reducible rfl)⟩) ?_; (try simp only [Act.put, List.setIfInBounds_toArray, List.set_cons_zero, List.set_cons_succ]))
  refine wpFirst_nil ?_
  unfold wpHold
  go_wp2_with fail
  refine HUS.out.mono ?_
  rintro e w3 ⟨I3, hs3, rfl, h3⟩
  obtain ⟨A', cA', vk', z0, _⟩ := h3.ref_cells
  have H3 := Lib.hid h3
  have HS3 := Lib.hid hs3
  clear h3 hs3 y0 HUS
  go_wp2_with fail
  refine holdPost_normal z0 ?_
  unfold wpHold
  go_wp2_with fail
  refine NoPanic.normal ?_
  go_wp2_with fail
  go_ret
  rw [HL.out]
  exact ⟨I3, HS3.out, rfl, H3.out⟩
/-- One cell of the store's block is written. -/
theorem St.ref_set {R' : RS} (h : St W I w (refHP q R :: l)) (hl : R'.l = R.l) (hk : R'.keep = R.keep) (f : World → World) (hf : ∀ (vl vk : Value) (m : List HP), St W I w (HP.pt q (.cells (R.cells vl vk) 57) :: m) → St W I (f w) (HP.pt q (.cells (R'.cells vl vk) 57) :: m)) : St W I (f w) (refHP q R' :: l) := by
  obtain ⟨zs, vl, vk, hzs, hz, hkk, hop⟩ := h.ref_open
  exact St.ref_shut (hf vl vk _ hop) (by rw [hl]; exact hzs) hz (by rw [hk]; exact hkk)
theorem power3_spec (h : St W I w (refHP q R :: l)) :
    Calls Tryz.prog 18 #[.pointer (some ⟨q, 0, none⟩)] w fun e w' => e = .returned (.bool R.off) ∧ St W I w' (refHP q { R with off := false } :: l) := by
  obtain ⟨A, cA, vk, y0, y1, y2, y3, y4, y5, y6, y7, _, f, hlt⟩ := h.ref_cells
  have h2 := St.ref_set (R' := { R with off := false }) h rfl rfl (fun w => w.setCell ⟨q, 3, none⟩ (.bool false)) (fun vl vk m h => h.setCell 3 (.bool false))
  have H2 := Lib.hid h2
  clear h h2
  go_enter Tryz.func18, Tryz.ntmps18
  go_wp2_with fail
  go_ret
  exact ⟨rfl, H2.out⟩
theorem ints_append {v v2 : Value} {n m : Nat} {xs ys : List Value} (ty : TypeId) (h : St W I w (HP.row 3 1 v n xs :: l)) (hs : SliceSrc w 1 v2 m ys) (hb : n + m ≤ 1000000000) :
    ∃ v' w', (Builtin.append_ #[32, 32] ty #[v, v2]).run Tryz.prog w = .ok v' w' ∧ St W I w' (HP.row 3 1 v' (n + m) (xs ++ ys) :: l) := by
  obtain ⟨A, c, rfl, hsrc, hA⟩ := hs
  obtain ⟨i0, hi0, hz0, hz1, hz2⟩ := info_parts (show (Tryz.prog.info? 3).map (fun i => (i.zero, i.size, i.bytes)) = some (some (.int .i64 0), 1, 8) by kernel_rfl)
  obtain ⟨v', w', hr, ho', hgr, hv'⟩ := run_append_src (P := Tryz.prog) w 0 32 ty 3 i0 _ 1 8 Tryz.underlying32 hi0 hz0 hz1 hz2 rfl (by decide) v n xs h.row_owns A m c ys hsrc hA (by unfold maxLen; omega) (by omega) (Nat.zero_le _)
  exact ⟨v', w', hr, h.row_grown ho' hgr hv'⟩
theorem fuse3_spec (n : Int) (kv : Value) (keep : List Int) (torn : Int) (h : St W I w (refHP q R :: l)) (hk : IntsI I kv keep) (hn : keep.length ≤ 1000000) :
    Calls Tryz.prog 39 #[.pointer (some ⟨q, 0, none⟩), .int .i64 n, kv, .int .i64 torn] w fun e w' => ∃ I', I.sub I' ∧ e = .returned (.tuple #[]) ∧ St W I' w' (refHP q (rfuse R n keep torn) :: l) := by
  have h0 := h.alloc (.cells #[] 3)
  have h1 : St W I (w.alloc (.cells #[] 3)) (HP.row 3 1 (.slice (some ⟨w.heap.size, 0, none⟩) 0 0) 0 [] :: refHP q R :: l) := h0.row_shut (by simp) (Nat.le_refl _) (by unfold maxLen; omega) rfl rfl
  obtain ⟨v4, w4, hr4, h4⟩ := ints_append 32 h1 (ints_src h1 hk) (by omega)
  rw [Nat.zero_add, List.nil_append] at h4
  obtain ⟨A4, c4, rfl⟩ := is_slice h4.row_owns
  obtain ⟨I4, hs4, hb4, h5⟩ := h4.freeze_row
  obtain ⟨zs, vl, vk, hzs, hz, hkk, hop⟩ := h5.ref_open
  have y := cells_of hop.heap
  have y4 := y 4
  have y5 := y 5
  have y6 := y 6
  have y7 := y 7
  simp [RS.cells] at y4 y5 y6 y7
  have f := frozen_of_row hop.heap
  have h6 := (((hop.setCell 4 (.bool (decide (0 ≤ n)))).setCell 5 (.int .i64 n)).setCell 7 (.slice A4 keep.length c4)).setCell 6 (.int .i64 torn)
  have h7 := St.ref_shut (R := rfuse R n keep torn) (zs := zs) (vl := vl) (vk := .slice A4 keep.length c4) h6 hzs hz hb4
  obtain ⟨A, c, rfl, _⟩ := hk
  have HR4 := Lib.hid hr4
  have HS4 := Lib.hid hs4
  have H7 := Lib.hid h7
  clear h h0 h1 hr4 h4 hs4 hb4 h5 hop h6 h7 hzs hz hkk y
  go_enter Tryz.func39, Tryz.ntmps39
  go_wp2_with (at_builtin; refine Lib.wpList_append_run _ rfl (.tmp 15) (.tmp 16) 32 32 rfl _ _ rfl rfl _ _ HR4.out ?_)
  go_end0
  exact ⟨I4, HS4.out, rfl, H7.out⟩
end
end Go.Proofs.YtagljjhfkhadpaaGreat
/- hectographref3: Read, Attr. -/
namespace Go.Proofs.YtagljjhfkhadpaaGreat
open Go.RowKit
section
variable {W w : World} {I : Hp} {l : List HP} {q : Nat} {R : RS}
set_option maxRecDepth 4000
set_option maxHeartbeats 4000000
theorem read3_spec (k : K4) (off n : Int) {c : Nat} (h : St W I w (refHP q R :: l)) (hi : RInv R c) :
    Calls Tryz.prog 35 #[.pointer (some ⟨q, 0, none⟩), k.val, .int .i64 off, .int .i64 n] w fun e w' => ∃ I' v, I.sub I' ∧ e = .returned (.tuple #[v, .int .i64 (rread R k off n).2]) ∧ BytesI I' v (rread R k off n).1 ∧ St W I' w' (refHP q R :: l) := by
  obtain ⟨A, cA, vk, y0, y1, y2, y3, _, _, _, _, _, _, hlt⟩ := h.ref_cells
  have h1 := h.keep (below_alloc w (.cells #[.int .i64 k.kind, .int .i64 k.img, .int .i64 k.num, .int .i64 k.snap] 30))
  obtain ⟨I1, hs1, hI1, h1⟩ := (h.alloc (.cells #[.int .i64 k.kind, .int .i64 k.img, .int .i64 k.num, .int .i64 k.snap] 30)).freeze
  have H1 := Lib.hid h1
  have HS1 := Lib.hid hs1
  have HI1 := Lib.hid hI1
  have HI := Lib.hid hi
  clear h h1 hi hs1 hI1 y0 y1 y2
  have HRT := right3_spec k
  simp only [K4.val] at HRT ⊢
  cases hof : R.off with
  | true =>
    have HR := Lib.hid (show rread R k off n = ([], 7) by simp [rread, hof])
    rw [hof] at y3
    go_enter Tryz.func35, Tryz.ntmps35
    go_wp2_with fail
    go_ret2
    rw [HR.out]
    exact ⟨I1, _, HS1.out, rfl, bytes_nil _, H1.out⟩
  | false =>
    rw [hof] at y3
    cases hok : k.ok with
    | false =>
      have HR := Lib.hid (show rread R k off n = ([], 1) by simp [rread, hof, hok])
      rw [hok] at HRT
      go_enter Tryz.func35, Tryz.ntmps35
      go_wp2_with fail
      refine (HRT _).mono ?_
      rintro e w2 ⟨rfl, hb2⟩
      have H2 := Lib.hid (H1.out.keep hb2)
      clear hb2
      go_wp2_with fail
      go_ret2
      rw [HR.out]
      exact ⟨I1, _, HS1.out, rfl, bytes_nil _, H2.out⟩
    | true =>
      rw [hok] at HRT
      go_enter Tryz.func35, Tryz.ntmps35
      go_wp2_with fail
      refine (HRT _).mono ?_
      rintro e w2 ⟨rfl, hb2⟩
      have h2 := H1.out.keep hb2
      have b := cells_of (h2.imm_heap HI1.out)
      have b0 := b 0
      have b1 := b 1
      have b2 := b 2
      have b3 := b 3
      simp at b0 b1 b2 b3
      have hbd := body_spec k h2 HI.out
      simp only [K4.val] at hbd
      have HBD := Lib.hid hbd
      clear hb2 h2 b hbd
      go_wp2_with fail
      refine HBD.out.mono ?_
      rintro e w3 ⟨I3, dv, av, hs3, rfl, hb3, h3⟩
      clear HBD b0 b1 b2 b3
      obtain ⟨Ad, cd, rfl⟩ := BytesI.slice hb3.1
      obtain ⟨Aa, ca, rfl⟩ := AttrsI.slice hb3.2
      have H3 := Lib.hid h3
      have HS3 := Lib.hid (HS1.out.trans hs3)
      have HB3 := Lib.hid hb3
      obtain ⟨b, hb⟩ : ∃ b, rbody R k = b := ⟨_, rfl⟩
      rw [hb] at HB3 ⊢
      have hgd : b.data.length ≤ 40000 := by
        rw [← hb]
        unfold rbody
        split
        · cases hg : R.l[(rfind R.l k).1]? with
          | none => simp [RB.no]
          | some t => exact (now_grown (HI.out.fits _ (List.mem_of_getElem? hg))).data
        · simp [RB.no]
      have HRR := Lib.hid (show rread R k off n = if b.there = false then ([], 4) else if off < 0 ∨ (b.data.length : Int) < off ∨ n < 0 then ([], 3) else ((b.data.drop off.toNat).take (min n.toNat (b.data.length - off.toNat)), 0) by
        unfold rread
        rw [if_neg (by simp [hof]), if_neg (by simp [hok]), hb])
      clear h3 hs3 hb3 hb
      cases hth : b.there with
      | false =>
        have HR := Lib.hid (HRR.out.trans (if_pos hth))
        clear HRR
        go_wp2_with fail
        go_ret2
        rw [HR.out]
        exact ⟨I3, _, HS3.out, rfl, bytes_nil _, H3.out.keep (below_alloc _ _)⟩
      | true =>
        have HR1 := Lib.hid (HRR.out.trans (if_neg (by simp [hth])))
        clear HRR
        by_cases hrg : off < 0 ∨ (b.data.length : Int) < off ∨ n < 0
        · have HR := Lib.hid (HR1.out.trans (if_pos hrg))
          clear HR1
          by_cases g1 : off < 0
          · have d1 : decide (off < 0) = true := by simpa using g1
            clear hrg g1
            go_wp2_with fail
            go_ret2
            rw [HR.out]
            exact ⟨I3, _, HS3.out, rfl, bytes_nil _, H3.out.keep (below_alloc _ _)⟩
          · have d1 : decide (off < 0) = false := by simpa using g1
            by_cases g2 : (b.data.length : Int) < off
            · have d2 : decide ((b.data.length : Int) < off) = true := by simpa using g2
              clear hrg g1 g2
              go_wp2_with fail
              go_ret2
              rw [HR.out]
              exact ⟨I3, _, HS3.out, rfl, bytes_nil _, H3.out.keep (below_alloc _ _)⟩
            · have d2 : decide ((b.data.length : Int) < off) = false := by simpa using g2
              have g3 : n < 0 := by omega
              have d3 : decide (n < 0) = true := by simpa using g3
              clear hrg g1 g2 g3
              go_wp2_with fail
              go_ret2
              rw [HR.out]
              exact ⟨I3, _, HS3.out, rfl, bytes_nil _, H3.out.keep (below_alloc _ _)⟩
        · have HR := Lib.hid (HR1.out.trans (if_neg hrg))
          clear HR1
          obtain ⟨o, rfl⟩ : ∃ o : Nat, off = o := ⟨off.toNat, by omega⟩
          obtain ⟨n, rfl⟩ : ∃ n' : Nat, n = n' := ⟨n.toNat, by omega⟩
          have hol : o ≤ b.data.length := by omega
          obtain ⟨j, hj⟩ : ∃ j, min n (b.data.length - o) = j := ⟨_, rfl⟩
          rw [Int.toNat_natCast, Int.toNat_natCast, hj] at HR
          have d1 : decide ((o : Int) < 0) = false := by rw [decide_eq_false_iff_not]; omega
          have d2 : decide ((b.data.length : Int) < (o : Int)) = false := by rw [decide_eq_false_iff_not]; omega
          have d2' : decide (b.data.length < o) = false := by rw [decide_eq_false_iff_not]; omega
          have d3 : decide ((n : Int) < 0) = false := by rw [decide_eq_false_iff_not]; omega
          have hmin : min (n : Int) ((b.data.length : Int) - (o : Int)) = (j : Int) := by omega
          have hsum : IntKind.i64.wrap ((o : Int) + (j : Int)) = ((o + j : Nat) : Int) := by rw [IntKind.wrap_i64]; omega
          have hdif : IntKind.i64.wrap ((b.data.length : Int) - (o : Int)) = (b.data.length : Int) - o := by rw [IntKind.wrap_i64]; omega
          have hcap : b.data.length ≤ cd := by
            obtain ⟨A', c', e, _, q1, _⟩ := HB3.out.1
            simp only [Value.slice.injEq, true_and] at e
            obtain ⟨_, rfl⟩ := e
            exact q1
          have hojl : o + j ≤ b.data.length := by omega
          have hojc : o + j ≤ cd := by omega
          have h4 := H3.out.keep (below_alloc w3 (.cells #[.bool true, .slice Ad b.data.length cd, .slice Aa b.attrs.length ca] 92))
          have h5 := St.lit_row h4 #[] [] 0 rfl rfl (by unfold maxLen; omega)
          have hsz : (w3.alloc (.cells #[.bool true, .slice Ad b.data.length cd, .slice Aa b.attrs.length ca] 92)).heap.size = w3.heap.size + 1 := by simp
          rw [hsz] at h5
          have hps := sliced_src (lo := o) (hi := o + j) (bytes_src h5 HB3.out.1) hcap (by omega) hojl
          rw [show o + j - o = j by omega, Nat.mul_one, Nat.mul_one, ← List.map_drop, ← List.map_take] at hps
          obtain ⟨v6, w6, hr6, h6⟩ := St.bytes_append 31 h5 hps (by omega)
          rw [Nat.zero_add, List.nil_append] at h6
          obtain ⟨A6, c6, rfl⟩ := is_slice h6.row_owns
          obtain ⟨I6, hs6, hb6, h7⟩ := h6.freeze_row
          have hbl : ((b.data.drop o).take j).length = j := by rw [List.length_take, List.length_drop]; omega
          have HR6 := Lib.hid hr6
          have HS6 := Lib.hid (HS3.out.trans hs6)
          have HB6 := Lib.hid hb6
          have H7 := Lib.hid h7
          have HBL := Lib.hid hbl
          clear hrg h4 h5 hps hr6 h6 hs6 hb6 h7 hbl hj hsz
          by_cases hco : cd = o
          · obtain rfl : j = 0 := by omega
            have HR6' : Hid ((Builtin.append_ #[31, 31] 31 #[.slice (some ⟨w3.heap.size + 1, 0, none⟩) 0 0, .slice Ad 0 0]).run Tryz.prog ((w3.alloc (.cells #[.bool true, .slice Ad b.data.length cd, .slice Aa b.attrs.length ca] 92)).alloc (.cells #[] 5)) = .ok (.slice A6 0 c6) w6) := Lib.hid (by have := HR6.out; simpa [sliced, hco] using this)
            clear HR6
            subst hco
            go_wp2_with (at_builtin; refine Lib.wpList_append_run _ rfl (.tmp 37) (.tmp 50) 31 31 rfl _ _ rfl rfl _ _ HR6'.out ?_)
            go_ret2
            rw [HR.out]
            exact ⟨I6, _, HS6.out, rfl, by unfold BytesI; rw [HBL.out]; exact HB6.out, H7.out⟩
          · have HR6' : Hid ((Builtin.append_ #[31, 31] 31 #[.slice (some ⟨w3.heap.size + 1, 0, none⟩) 0 0, .slice (Option.map (fun x => x.add o) Ad) (o + j - o) (cd - o)]).run Tryz.prog ((w3.alloc (.cells #[.bool true, .slice Ad b.data.length cd, .slice Aa b.attrs.length ca] 92)).alloc (.cells #[] 5)) = .ok (.slice A6 j c6) w6) := Lib.hid (by have := HR6.out; simpa [sliced, hco] using this)
            clear HR6
            go_wp2_with (at_builtin; refine Lib.wpList_append_run _ rfl (.tmp 37) (.tmp 50) 31 31 rfl _ _ rfl rfl _ _ HR6'.out ?_)
            go_ret2
            rw [HR.out]
            exact ⟨I6, _, HS6.out, rfl, by unfold BytesI; rw [HBL.out]; exact HB6.out, H7.out⟩
theorem find_drop {L : List (ByteArray × List Int)} {nm : ByteArray} {i : Nat} {x : ByteArray × List Int} (hx : L[i]? = some x) (hf : L.find? (fun x => x.1.toList == nm.toList) = (L.drop i).find? (fun x => x.1.toList == nm.toList)) :
    ((x.1.toList == nm.toList) = true → L.find? (fun x => x.1.toList == nm.toList) = some x) ∧ ((x.1.toList == nm.toList) = false → L.find? (fun x => x.1.toList == nm.toList) = (L.drop (i + 1)).find? (fun x => x.1.toList == nm.toList)) := by
  obtain ⟨hil, he⟩ := List.getElem?_eq_some_iff.1 hx
  have e : L.drop i = x :: L.drop (i + 1) := by rw [List.drop_eq_getElem_cons hil, he]
  rw [hf, e]
  refine ⟨fun h => ?_, fun h => ?_⟩
  · rw [List.find?_cons]; simp only [h]
  · rw [List.find?_cons]; simp only [h]
theorem attr3_spec (k : K4) (nm : ByteArray) {c : Nat} (h : St W I w (refHP q R :: l)) (hi : RInv R c) :
    Calls Tryz.prog 37 #[.pointer (some ⟨q, 0, none⟩), k.val, .string nm] w fun e w' => ∃ I' v, I.sub I' ∧ e = .returned (.tuple #[v, .int .i64 (rattr R k nm).2]) ∧ BytesI I' v (rattr R k nm).1 ∧ St W I' w' (refHP q R :: l) := by
  obtain ⟨A, cA, vk, y0, y1, y2, y3, _, _, _, _, _, _, hlt⟩ := h.ref_cells
  obtain ⟨I1, hs1, hI1, h1⟩ := (h.alloc (.cells #[.int .i64 k.kind, .int .i64 k.img, .int .i64 k.num, .int .i64 k.snap] 30)).freeze
  have H1 := Lib.hid h1
  have HS1 := Lib.hid hs1
  have HI1 := Lib.hid hI1
  have HI := Lib.hid hi
  clear h h1 hi hs1 hI1 y0 y1 y2
  have HRT := right3_spec k
  simp only [K4.val] at HRT ⊢
  cases hof : R.off with
  | true =>
    have HR := Lib.hid (show rattr R k nm = ([], 7) by simp [rattr, hof])
    rw [hof] at y3
    go_enter Tryz.func37, Tryz.ntmps37
    go_wp2_with fail
    go_ret2
    rw [HR.out]
    exact ⟨I1, _, HS1.out, rfl, bytes_nil _, H1.out⟩
  | false =>
    rw [hof] at y3
    cases hok : k.ok with
    | false =>
      have HR := Lib.hid (show rattr R k nm = ([], 1) by simp [rattr, hof, hok])
      rw [hok] at HRT
      go_enter Tryz.func37, Tryz.ntmps37
      go_wp2_with fail
      refine (HRT _).mono ?_
      rintro e w2 ⟨rfl, hb2⟩
      have H2 := Lib.hid (H1.out.keep hb2)
      clear hb2
      go_wp2_with fail
      go_ret2
      rw [HR.out]
      exact ⟨I1, _, HS1.out, rfl, bytes_nil _, H2.out⟩
    | true =>
      rw [hok] at HRT
      go_enter Tryz.func37, Tryz.ntmps37
      go_wp2_with fail
      refine (HRT _).mono ?_
      rintro e w2 ⟨rfl, hb2⟩
      have h2 := H1.out.keep hb2
      have b := cells_of (h2.imm_heap HI1.out)
      have b0 := b 0
      have b1 := b 1
      have b2 := b 2
      have b3 := b 3
      simp at b0 b1 b2 b3
      have hbd := body_spec k h2 HI.out
      simp only [K4.val] at hbd
      have HBD := Lib.hid hbd
      clear hb2 h2 b hbd
      go_wp2_with fail
      refine HBD.out.mono ?_
      rintro e w3 ⟨I3, dv, av, hs3, rfl, hb3, h3⟩
      clear HBD b0 b1 b2 b3
      obtain ⟨b, hb⟩ : ∃ b, rbody R k = b := ⟨_, rfl⟩
      rw [hb] at hb3 ⊢
      have HRR := Lib.hid (show rattr R k nm = match b.attrs.find? fun x => x.1.toList == nm.toList with | some x => (x.2, 0) | none => ([], 4) by
        unfold rattr
        rw [if_neg (by simp [hof]), if_neg (by simp [hok]), hb]
        rfl)
      have hal : b.attrs.length ≤ 200000 ∧ smallA b.attrs := by
        rw [← hb]
        unfold rbody
        split
        · cases hg : R.l[(rfind R.l k).1]? with
          | none => simp [RB.no, smallA]
          | some t =>
            have hft := HI.out.fits _ (List.mem_of_getElem? hg)
            have hgr := now_grown hft
            exact ⟨by have := hgr.attrs; have := hft.size; have := HI.out.most; show (rnow t).attrs.length ≤ 200000; omega, hgr.small⟩
        · simp [RB.no, smallA]
      obtain ⟨hal, hsm⟩ := hal
      have HSM := Lib.hid hsm
      obtain ⟨Ad, cd, rfl⟩ := BytesI.slice hb3.1
      obtain ⟨zs, hzs, hrow, hzb⟩ := hb3.2
      have HROW := Lib.hid hrow
      obtain ⟨Aa, ca, e1, _⟩ := hrow
      subst e1
      have hzl : zs.length = b.attrs.length := by rw [← hzs, List.length_map]
      obtain ⟨I5, hs5, hI5, h5⟩ := (h3.alloc (.cells #[.bool b.there, .slice Ad b.data.length cd, .slice Aa b.attrs.length ca] 92)).freeze
      have H5 := Lib.hid h5
      have HS5 := Lib.hid ((HS1.out.trans hs3).trans hs5)
      have HS35 := Lib.hid hs5
      have HI5 := Lib.hid hI5
      have HZB := Lib.hid hzb
      have HZS := Lib.hid hzs
      clear h3 h5 hs3 hs5 hI5 hzb hzs hb3 hb hsm
      go_wp2_with fail
      go_loopw [9] (fun a9 wr => ∃ (i : Nat), a9 = .int .i64 i ∧ i ≤ b.attrs.length ∧ b.attrs.find? (fun x => x.1.toList == nm.toList) = (b.attrs.drop i).find? (fun x => x.1.toList == nm.toList) ∧ St W I5 wr (refHP q R :: l)) (fun a9 _ => b.attrs.length - (intOf a9).toNat)
      case atStart => exact ⟨0, rfl, Nat.zero_le _, rfl, H5.out⟩
      case round =>
        obtain ⟨i, rfl, hil, hf, hst⟩ := hrel
        have y := cells_of (hst.imm_heap HI5.out) 2
        simp at y
        by_cases hlt2 : i < b.attrs.length
        · obtain ⟨⟨⟨xn, xv⟩, xp⟩, hzi⟩ : ∃ z, zs[i]? = some z := ⟨_, List.getElem?_eq_getElem (by omega)⟩
          have hxb := HZB.out _ (List.mem_of_getElem? hzi)
          have hai : b.attrs[i]? = some (xn, xv) := by rw [← HZS.out, List.getElem?_map, hzi]; rfl
          obtain ⟨f1, f2⟩ := find_drop hai hf
          have hsx := HSM.out _ (List.mem_of_getElem? hai)
          rw [← hzl] at HROW
          obtain ⟨g, off, e3, hc⟩ := rowk_cell (i := i) HROW.out HS35.out hst (fun _ => rfl) hzi
          simp only [Value.slice.injEq, and_true] at e3
          subst e3
          simp only at hxb hsx
          obtain ⟨Ax, cx, rfl⟩ := BytesI.slice hxb
          have c0 := hc 0 (by omega)
          have c1 := hc 1 (by omega)
          simp only [AZ.cells, List.getElem?_cons_succ, List.getElem?_cons_zero, Nat.add_zero] at c0 c1
          cases hxe : (xn.toList == nm.toList) with
          | true =>
            have HR := Lib.hid (show rattr R k nm = (xv, 0) by rw [HRR.out, f1 hxe])
            have h6 := St.lit_row hst #[] [] 0 rfl rfl (by unfold maxLen; omega)
            obtain ⟨v7, w7, hr7, h7⟩ := St.bytes_append 31 h6 (bytes_src h6 ((bytesIP _ _).mono HS35.out hxb)) (by omega)
            rw [Nat.zero_add, List.nil_append] at h7
            obtain ⟨A7, c7, rfl⟩ := is_slice h7.row_owns
            obtain ⟨I7, hs7, hb7, h8⟩ := h7.freeze_row
            have l3 := (Array.getElem?_eq_some_iff.1 (hst.imm_heap HI5.out)).1
            have lg : g < wr.heap.size := World.block_lt_of_cell? wr _ c0
            have HR7 := Lib.hid hr7
            have HS7 := Lib.hid (HS5.out.trans hs7)
            have HB7 := Lib.hid hb7
            have H8 := Lib.hid h8
            clear hst h6 hr7 h7 hs7 hb7 h8 f1 f2 hf hc hai hzi hxb
            go_wp2_with (at_builtin; refine Lib.wpList_append_run _ rfl (.tmp 35) (.tmp 41) 31 31 rfl _ _ rfl rfl _ _ HR7.out ?_)
            go_ret2
            rw [HR.out]
            exact ⟨I7, _, HS7.out, rfl, HB7.out, H8.out⟩
          | false =>
            have HF2 := Lib.hid (f2 hxe)
            have HST := Lib.hid hst
            clear hst f1 f2 hf hc hai hzi hxb
            go_wp2_with fail
            go_roundw
            case rel => exact ⟨i + 1, by go_num, by omega, HF2.out, HST.out⟩
            case measure => simp [intOf]; omega
        · obtain rfl : i = b.attrs.length := by omega
          rw [List.drop_length, List.find?_nil] at hf
          have HR := Lib.hid (show rattr R k nm = ([], 4) by rw [HRR.out, hf])
          have HST := Lib.hid hst
          clear hst hf
          go_wp2_with fail
          go_ret2
          rw [HR.out]
          exact ⟨I5, _, HS5.out, rfl, bytes_nil _, HST.out⟩
end
end Go.Proofs.YtagljjhfkhadpaaGreat
/- hectographref3: burn without a fuse; Barrier. -/
namespace Go.Proofs.YtagljjhfkhadpaaGreat
open Go.RowKit
section
variable {W w : World} {I : Hp} {l : List HP} {q : Nat} {R : RS}
theorem thing_info : (Tryz.prog.info? 95).map (fun i => (i.zero, i.size, i.bytes)) = some (some (.agg #[.int .i64 0, .int .i64 0, .int .i64 0, .int .i64 0, .bool false, .slice none 0 0, .slice none 0 0, .slice none 0 0]), 8, 112) := by kernel_rfl
theorem tz_one {z : TZ} {I : Hp} (h : z.ok I) : ∀ u ∈ TZ.cells z, u.oneCell' = true := fun u hu => by
  obtain ⟨A1, c1, e1⟩ := BytesI.slice h.1.1
  obtain ⟨A2, c2, e2⟩ := AttrsI.slice h.1.2
  obtain ⟨A3, c3, e3⟩ := DeedsI.slice h.2
  simp only [TZ.cells, List.mem_cons, List.mem_nil_iff, or_false] at hu
  rcases hu with rfl | rfl | rfl | rfl | rfl | rfl | rfl | rfl
  · rfl
  · rfl
  · rfl
  · rfl
  · rfl
  · rw [e1]; rfl
  · rw [e2]; rfl
  · rw [e3]; rfl
/-- A thing laid behind a row of things. -/
theorem thing_push {A : Option Addr} {c : Nat} {zo : List TZ} (h : St W I w (rowHP (.slice A zo.length c) zo :: l)) (z : TZ) (hz : z.ok I) (hn : zo.length ≤ 1000000) (cs : Array Value) (hcs : cs.toList = z.cells) :
    ∃ A' c' w', (Builtin.append_ #[55, 55] 55 #[.slice A zo.length c, .slice (some ⟨w.heap.size, 0, none⟩) 1 1]).run Tryz.prog (w.alloc (.cells cs 95)) = .ok (.slice A' (zo.length + 1) c') w' ∧
      St W I w' (rowHP (.slice A' (zo.length + 1) c') (zo ++ [z]) :: l) := by
  obtain ⟨A', c', w', h1, h2⟩ := St.row_push Tryz.underlying55 thing_info rfl (by decide) (by decide) (mk := TZ.cells) (fun _ => rfl) h z (tz_one hz) hn cs hcs
  have e : (zo ++ [z]).length = zo.length + 1 := by simp
  rw [e] at h1 h2
  refine ⟨A', c', w', h1, ?_⟩
  unfold rowHP
  rw [e]
  exact h2
set_option maxRecDepth 4000
set_option maxHeartbeats 4000000
theorem burn3_calm (h : St W I w (refHP q R :: l)) (hf : R.fused = false) :
    Calls Tryz.prog 65 #[.pointer (some ⟨q, 0, none⟩)] w fun e w' => ∃ I', I.sub I' ∧ e = .returned (.bool (rburn R).1) ∧ St W I' w' (refHP q (rburn R).2 :: l) := by
  obtain ⟨A, cA, vk, y0, y1, y2, y3, y4, y5, y6, y7, _, f, hlt⟩ := h.ref_cells
  have HR := Lib.hid (show rburn R = (false, R) by simp [rburn, hf])
  rw [hf] at y4
  have H := Lib.hid h
  clear h
  go_enter Tryz.func65, Tryz.ntmps65
  go_wp2_with fail
  go_ret
  rw [HR.out]
  exact ⟨I, Hp.sub.refl _, rfl, H.out⟩
/-- What Barrier keeps of the first things. -/
def barL (L : List RT) : List RT := (L.filter fun t => (rnow t).there).map (fun t => ⟨t.key, rnow t, []⟩)
theorem barL_snoc (L : List RT) (t : RT) : barL (L ++ [t]) = barL L ++ (if (rnow t).there then [⟨t.key, rnow t, []⟩] else []) := by
  unfold barL
  rw [List.filter_append, List.map_append]
  cases h : (rnow t).there <;> simp [List.filter, h]
theorem bar3_spec {c : Nat} (h : St W I w (refHP q R :: l)) (hi : RInv R c) (hi2 : RInv (rburn R).2 c) (hl2 : (rburn R).1 = false → (rburn R).2.l = R.l ∧ (rburn R).2.count = R.count)
    (hb : Calls Tryz.prog 65 #[.pointer (some ⟨q, 0, none⟩)] w fun e w' => ∃ I', I.sub I' ∧ e = .returned (.bool (rburn R).1) ∧ St W I' w' (refHP q (rburn R).2 :: l)) :
    Calls Tryz.prog 34 #[.pointer (some ⟨q, 0, none⟩)] w fun e w' => ∃ I', I.sub I' ∧ e = .returned (.int .i64 (rbarrier R).1) ∧ St W I' w' (refHP q (rbarrier R).2 :: l) := by
  obtain ⟨A, cA, vk, y0, y1, y2, y3, y4, y5, y6, y7, _, f, hlt⟩ := h.ref_cells
  have H := Lib.hid h
  have HB := Lib.hid hb
  have HI2 := Lib.hid hi2
  clear h hb hi hi2
  cases hof : R.off with
  | true =>
    have HR := Lib.hid (show rbarrier R = (7, R) by simp [rbarrier, hof])
    rw [hof] at y3
    go_enter Tryz.func34, Tryz.ntmps34
    go_wp2_with fail
    go_ret
    rw [HR.out]
    exact ⟨I, Hp.sub.refl _, rfl, H.out⟩
  | false =>
    rw [hof] at y3
    cases hbn : (rburn R).1 with
    | true =>
      have HR := Lib.hid (show rbarrier R = (7, (rburn R).2) by simp [rbarrier, hof, hbn])
      rw [hbn] at HB
      go_enter Tryz.func34, Tryz.ntmps34
      go_wp2_with fail
      refine HB.out.mono ?_
      rintro e w2 ⟨I2, hs2, rfl, h2⟩
      have H2 := Lib.hid h2
      have HS2 := Lib.hid hs2
      clear h2 hs2
      go_wp2_with fail
      go_ret
      rw [HR.out]
      exact ⟨I2, HS2.out, rfl, H2.out⟩
    | false =>
      obtain ⟨hle, hce⟩ := hl2 hbn
      have HR := Lib.hid (show rbarrier R = (0, { (rburn R).2 with l := barL R.l, count := wrap64 (R.count + 1) }) by simp [rbarrier, hof, hbn, barL])
      rw [hbn] at HB
      generalize (rburn R).2 = R2 at HB HI2 hle hce HR
      rw [← hle, ← hce] at HR
      have hlen := HI2.out.len
      have hmost := HI2.out.most
      clear hle hce hl2 hbn hof y0 y1 y2 y4 y5 y6 y7 f
      go_enter Tryz.func34, Tryz.ntmps34
      go_wp2_with fail
      refine HB.out.mono ?_
      rintro e w2 ⟨I2, hs2, rfl, h2⟩
      have H2 := Lib.hid h2
      have HS2 := Lib.hid hs2
      clear h2 hs2 HB
      go_wp2_with fail
      go_loopw [3, 4] (fun a3 a4 wr => ∃ (i : Nat) (I3 : Hp) (zo : List TZ) (A : Option Addr) (c : Nat), a4 = .int .i64 i ∧ a3 = .slice A zo.length c ∧ i ≤ R2.l.length ∧ zo.length ≤ i ∧ zo.map TZ.t = barL (R2.l.take i) ∧ (∀ z ∈ zo, z.ok I3) ∧ I.sub I3 ∧ St W I3 wr (rowHP (.slice A zo.length c) zo :: refHP q R2 :: l)) (fun _ a4 _ => R2.l.length - (intOf a4).toNat)
      case atStart => exact ⟨0, I2, [], none, 0, rfl, rfl, Nat.zero_le _, Nat.le_refl _, rfl, (fun z hz => by cases hz), HS2.out, H2.out.row_nil _ _⟩
      case round =>
        obtain ⟨i, I3, zo, A3, c3, rfl, rfl, hil, hzl, hzm, hzo, hs3, hst⟩ := hrel
        obtain ⟨A', cA', vk', _, z1, z2, _, _, _, _, _, _, f, _⟩ := (hst.pull 1 _ rfl).ref_cells
        by_cases hlt : i < R2.l.length
        · obtain ⟨t, hti⟩ : ∃ t, R2.l[i]? = some t := ⟨_, List.getElem?_eq_getElem hlt⟩
          clear z1 z2 f
          obtain ⟨g, cc, A1, c1, A2, c2, A5, c5, _, _, y2, hcc, _, x0, x1, x2, x3, x4, x5, x6, x7, hnw⟩ := (hst.pull 1 _ rfl).ref_now HI2.out hti
          have HNW := Lib.hid (hnw wr I3 _ (Hp.sub.refl _) hst)
          have hn2 : barL (R2.l.take (i + 1)) = barL (R2.l.take i) ++ (if (rnow t).there then [⟨t.key, rnow t, []⟩] else []) := by
            obtain ⟨hil', he⟩ := List.getElem?_eq_some_iff.1 hti
            rw [List.take_succ_eq_append_getElem hil', he, barL_snoc]
          have HN2 := Lib.hid hn2
          have HZM := Lib.hid hzm
          have HZO := Lib.hid hzo
          have HS3 := Lib.hid hs3
          have HTI := Lib.hid hti
          clear hst hti hnw hn2 hzm hzo hs3
          go_wp2_with fail
          refine HNW.out.mono ?_
          rintro e w4 ⟨I4, dv4, av4, hs4, rfl, hb4, h4⟩
          obtain ⟨A6, c6, rfl⟩ := BytesI.slice hb4.1
          obtain ⟨A7, c7, rfl⟩ := AttrsI.slice hb4.2
          have HB4 := Lib.hid hb4
          have h5 := h4.alloc (.cells #[.bool (rnow t).there, .slice A6 (rnow t).data.length c6, .slice A7 (rnow t).attrs.length c7] 92)
          obtain ⟨b0, b1, b2⟩ := h5.cells3
          have HS4 := Lib.hid (HS3.out.trans hs4)
          have hn2 := HN2.out
          have HZO4 : Hid (∀ z ∈ zo, z.ok I4) := Lib.hid fun z hz => TZ.ok_mono hs4 (HZO.out z hz)
          clear hs4 hb4 x0 x1 x2 x3 x4 x5 x6 x7 HNW y2
          cases hth : (rnow t).there with
          | false =>
            rw [hth, if_neg (by simp), List.append_nil] at hn2
            have HN3 := Lib.hid hn2
            rw [hth] at b0 b1 b2 h5
            have H5 := Lib.hid h5
            clear hn2 h4 h5
            go_wp2_with fail
            go_roundw
            case rel => exact ⟨i + 1, I4, zo, A3, c3, by go_num, rfl, by omega, by omega, by rw [HN3.out]; exact HZM.out, HZO4.out, HS4.out, H5.out.drop⟩
            case measure => simp [intOf]; omega
          | true =>
            rw [hth, if_pos rfl] at hn2
            rw [hth] at b0 b1 b2 h5
            have HN3 := Lib.hid hn2
            clear hn2 h4
            go_wp2_with fail
            have hsz5 : w4.heap.size < (w4.alloc (.cells #[.bool true, .slice A6 (rnow t).data.length c6, .slice A7 (rnow t).attrs.length c7] 92)).heap.size := by simp
            generalize w4.alloc (.cells #[.bool true, .slice A6 (rnow t).data.length c6, .slice A7 (rnow t).attrs.length c7] 92) = w5 at h5 b0 b1 b2 hsz5 ⊢
            have h6 := h5.drop
            obtain ⟨g', cc', A1', c1', A2', c2', A5', c5', _, _, y2, hcc', _, x0, x1, x2, x3, x4, x5, x6, x7, _⟩ := (h6.pull 1 _ rfl).ref_now HI2.out HTI.out
            obtain ⟨A8, c8, w8, hr8, h8⟩ := thing_push h6.drew ⟨⟨t.key, rnow t, []⟩, .slice A6 (rnow t).data.length c6, .slice A7 (rnow t).attrs.length c7, .slice none 0 0⟩ ⟨HB4.out, deeds3_nil _⟩ (by omega) #[.int .i64 t.key.kind, .int .i64 t.key.img, .int .i64 t.key.num, .int .i64 t.key.snap, .bool (rnow t).there, .slice A6 (rnow t).data.length c6, .slice A7 (rnow t).attrs.length c7, .slice none 0 0] rfl
            rw [hth] at hr8
            have hds : w5.drew.heap.size = w5.heap.size := rfl
            rw [hds] at hr8
            have HR8 := Lib.hid hr8
            have H8 := Lib.hid h8
            clear h5 h6 hr8 h8 hds
            refine wp_region_calm [0, 1, 2, 3, 5] [4, 6, 7, 8, 9, 10] [11, 12, 13] (by kernel_rfl) (by kernel_rfl) ?_
            simp only [pickL, List.getElem?_cons_zero, List.getElem?_cons_succ]
            repeat (refine wpPlain_step _ (Or.inl ⟨by rfl, by intro w; go_simp; try with_reducible rfl⟩) ?_; (try simp only [Act.put, List.setIfInBounds_toArray, List.set_cons_zero, List.set_cons_succ]))
            refine wpPlain_nil ?_
            repeat still_step
            refine wpStill_nil ?_
            go_wp2_with (at_builtin; refine Lib.wpList_append_run _ rfl (.tmp 31) (.tmp 42) 55 55 rfl _ _ rfl rfl _ _ HR8.out ?_)
            refine NoPanic.normal ?_
            go_wp2_with fail
            go_roundw
            case rel => exact ⟨i + 1, I4, zo ++ [⟨⟨t.key, rnow t, []⟩, .slice A6 (rnow t).data.length c6, .slice A7 (rnow t).attrs.length c7, .slice none 0 0⟩], A8, c8, by go_num, by simp, by omega, by simp; omega, by rw [HN3.out, List.map_append, HZM.out]; rfl, (fun z hz => by
              rcases List.mem_append.1 hz with hz | hz
              · exact HZO4.out z hz
              · rw [List.mem_singleton.1 hz]; exact ⟨HB4.out, deeds3_nil _⟩), HS4.out, by rw [List.length_append]; exact H8.out⟩
            case measure => simp [intOf]; omega
        · obtain rfl : i = R2.l.length := by omega
          rw [List.take_length] at hzm
          obtain ⟨zs, vl, vk2, hzs, hz, hkk, hop⟩ := (hst.pull 1 _ rfl).ref_open
          have y := cells_of hop.heap
          have y1 := y 1
          have y2 := y 2
          simp [RS.cells] at y1 y2
          have f := frozen_of_row hop.heap
          have h6 := (hop.setCell 2 (.slice A3 zo.length c3)).setCell 1 (.int .i64 (wrap64 (R2.count + 1)))
          have h7 : St W I3 ((wr.setCell ⟨q, 2, none⟩ (.slice A3 zo.length c3)).setCell ⟨q, 1, none⟩ (.int .i64 (wrap64 (R2.count + 1)))) (refHP q { R2 with l := barL R2.l, count := wrap64 (R2.count + 1) } :: l) := by
            have h8 := ((h6.pull 1 _ rfl).drop.pull 1 _ rfl)
            exact St.ref_shut (zs := zo) (vl := .slice A3 zo.length c3) (vk := vk2) (h8.perm (List.Perm.swap _ _ _)) hzm hzo hkk
          have H7 := Lib.hid h7
          have HS3 := Lib.hid hs3
          clear hst hop h6 h7 hz hzs hkk hzm hzo hs3 y
          go_wp2_with fail
          go_ret
          rw [HR.out]
          exact ⟨I3, HS3.out, rfl, H7.out⟩
end
end Go.Proofs.YtagljjhfkhadpaaGreat
/- hectographref3: what its store keeps from call to call. No program in sight. -/
namespace Go.Proofs.YtagljjhfkhadpaaGreat
open Go.RowKit
/-- A thing behind a fall. -/
theorem rleaves_grown {t : RT} {m : Nat} (h : t.fits m) (k : Nat) (torn : Int) : (rleaves t k torn).data.length ≤ 40000 ∧ (rleaves t k torn).attrs.length ≤ m ∧ smallA (rleaves t k torn).attrs := by
  have hg := grown_fold (m := t.dry.attrs.length) (t.wet.take k) t.dry 0 ⟨h.data, by omega, h.small⟩ fun x hx => h.deeds x (List.mem_of_mem_take hx)
  have hs := h.size
  have ha := hg.attrs
  rw [Nat.zero_add, List.length_take] at ha
  unfold rleaves
  simp only
  split
  · rename_i d hd
    have hdf := h.deeds d (List.mem_of_getElem? hd)
    split
    · rename_i hc
      have d6 := hdf.2.2.2.2 hc.1
      have d3 := hdf.2.2.1
      refine ⟨?_, by simp only; omega, hg.small⟩
      have := hg.data
      simp only
      rw [layB_length]
      split
      · omega
      · rw [List.length_take]; omega
    · exact ⟨hg.data, by omega, hg.small⟩
  · exact ⟨hg.data, by omega, hg.small⟩
theorem fallStep_keep {keep : List Int} {torn : Int} {s : RF} {t : RT} {m n : Nat} (ht : t.fits m) (hs : s.out.length ≤ n ∧ ∀ x ∈ s.out, x.fits m) : (fallStep keep torn s t).out.length ≤ n + 1 ∧ ∀ x ∈ (fallStep keep torn s t).out, x.fits m := by
  obtain ⟨h1, h2⟩ := hs
  have put : ∀ u : RT, u.fits m → (s.out ++ [u]).length ≤ n + 1 ∧ ∀ x ∈ s.out ++ [u], x.fits m := fun u hu => ⟨by rw [List.length_append, List.length_singleton]; omega, fun x hx => by
    rcases List.mem_append.1 hx with hx | hx
    · exact h2 x hx
    · rw [List.mem_singleton.1 hx]; exact hu⟩
  unfold fallStep
  split
  · split
    · exact put t ht
    · exact ⟨by omega, h2⟩
  · simp only
    split
    · obtain ⟨g1, g2, g3⟩ := rleaves_grown ht (rkeepN keep s.at_ t.wet.length) torn
      exact put _ ⟨g1, by simpa using g2, g3, fun d hd => by cases hd⟩
    · exact ⟨by omega, h2⟩
theorem fallFold_keep {keep : List Int} {torn : Int} {m : Nat} : ∀ (L : List RT) (s : RF) (n : Nat), (∀ t ∈ L, t.fits m) → (s.out.length ≤ n ∧ ∀ x ∈ s.out, x.fits m) →
    (L.foldl (fallStep keep torn) s).out.length ≤ n + L.length ∧ ∀ x ∈ (L.foldl (fallStep keep torn) s).out, x.fits m
  | [], s, n, _, h => h
  | t :: L, s, n, hL, h => by
    rw [List.foldl_cons, List.length_cons, show n + (L.length + 1) = n + 1 + L.length by omega]
    exact fallFold_keep L _ _ (fun x hx => hL x (List.mem_cons_of_mem _ hx)) (fallStep_keep (hL t (List.mem_cons_self ..)) h)
theorem rfall_inv {R : RS} {c : Nat} (h : RInv R c) (keep : List Int) (torn : Int) : RInv (rfall R keep torn).1 c := by
  unfold rfall
  split
  · exact h
  · obtain ⟨h1, h2⟩ := fallFold_keep (keep := keep) (torn := torn) R.l ⟨[], 0, 0⟩ 0 h.fits ⟨Nat.le_refl _, fun x hx => by cases hx⟩
    have := h.len
    exact ⟨by simp only; omega, h2, h.keep, h.n, h.most, h.room⟩
theorem rburn_inv {R : RS} {c : Nat} (h : RInv R c) : RInv (rburn R).2 c := by
  unfold rburn
  split
  · exact h
  · split
    · exact ⟨h.len, h.fits, h.keep, by have := h.n; simp only; omega, h.most, h.room⟩
    · exact rfall_inv h _ _
theorem rburn_same {R : RS} (h : (rburn R).1 = false) : (rburn R).2.l = R.l ∧ (rburn R).2.count = R.count := by
  unfold rburn at h ⊢
  split
  · exact ⟨rfl, rfl⟩
  · split
    · exact ⟨rfl, rfl⟩
    · rename_i h1 h2
      rw [if_neg h1, if_neg h2] at h
      cases h
theorem RInv.more {R : RS} {c d : Nat} (h : RInv R c) (hd : c ≤ d) (hm : d ≤ 100000) : RInv R d := ⟨by have := h.len; omega, fun t ht => ⟨(h.fits t ht).data, by have := (h.fits t ht).size; omega, (h.fits t ht).small, (h.fits t ht).deeds⟩, h.keep, h.n, hm, h.room⟩
theorem RInv.count {R : RS} {c : Nat} (h : RInv R c) (n : Int) : RInv { R with count := n } c := ⟨h.len, h.fits, h.keep, h.n, h.most, h.room⟩
/-- With a thing more, without wet deeds. -/
def radd (L : List RT) (k : K4) : List RT := if (rfind L k).2 then L else L.take (rfind L k).1 ++ [⟨k, RB.no, []⟩] ++ L.drop (rfind L k).1
theorem radd_at (L : List RT) (k : K4) : ∃ t, (radd L k)[(rfind L k).1]? = some t ∧ t.key = k := by
  unfold radd
  have hle := rfind_le L k
  split
  · rename_i h; exact rfind_hit h
  · refine ⟨⟨k, RB.no, []⟩, ?_, rfl⟩
    rw [List.append_assoc, List.getElem?_append_right (by rw [List.length_take]; omega), List.length_take, Nat.min_eq_left hle, Nat.sub_self]
    rfl
theorem radd_fits {L : List RT} {k : K4} {m : Nat} (h : ∀ t ∈ L, t.fits m) : ∀ t ∈ radd L k, t.fits m := by
  unfold radd
  split
  · exact h
  · intro t ht
    rcases List.mem_append.1 ht with ht | ht
    · rcases List.mem_append.1 ht with ht | ht
      · exact h t (List.mem_of_mem_take ht)
      · rw [List.mem_singleton.1 ht]
        exact ⟨by simp [RB.no], by simp [RB.no], (fun x hx => by cases hx), fun d hd => by cases hd⟩
    · exact h t (List.mem_of_mem_drop ht)
theorem radd_len (L : List RT) (k : K4) : (radd L k).length ≤ L.length + 1 := by
  unfold radd
  split
  · omega
  · rw [List.length_append, List.length_append, List.length_take, List.length_drop, List.length_singleton]; omega
theorem rput_eq {L : List RT} {k : K4} {d : RD} {t : RT} (h : (radd L k)[(rfind L k).1]? = some t) : rput L k d = (radd L k).set (rfind L k).1 { t with wet := t.wet ++ [d] } := by
  unfold rput
  simp only
  change (match (radd L k)[(rfind L k).1]? with | some t => (radd L k).set (rfind L k).1 { t with wet := t.wet ++ [d] } | none => radd L k) = _
  rw [h]
theorem rput_inv {R : RS} {c : Nat} (h : RInv R c) (k : K4) {d : RD} (hd : d.fits) (hm : c + 1 ≤ 100000) : RInv { R with l := rput R.l k d } (c + 1) := by
  obtain ⟨t, ht, hk⟩ := radd_at R.l k
  have hf := radd_fits (k := k) h.fits
  have hl := radd_len R.l k
  have hlen := h.len
  rw [rput_eq ht]
  refine ⟨by simp only [List.length_set]; omega, fun x hx => ?_, h.keep, h.n, hm, h.room⟩
  rcases List.mem_or_eq_of_mem_set hx with hx | rfl
  · have := hf x hx; exact ⟨this.data, by have := this.size; omega, this.small, this.deeds⟩
  · have := hf t (List.mem_of_getElem? ht)
    refine ⟨this.data, ?_, this.small, fun x hx => ?_⟩
    · have := this.size
      simp only [List.length_append, List.length_singleton]; omega
    · rcases List.mem_append.1 hx with hx | hx
      · exact this.deeds x hx
      · rw [List.mem_singleton.1 hx]; exact hd
/-- What a deed that comes in may be. -/
structure RD.may (d : RD) : Prop where
  p : d.p.length ≤ 4096
  name : d.what = 5 ∨ d.name.size ≤ 20
  n : d.what = 2 ∨ d.what = 3 ∨ d.what = 6 ∨ d.n = 0
theorem rbody_grown {R : RS} {c : Nat} (h : RInv R c) (k : K4) : (rbody R k).data.length ≤ 40000 ∧ (rbody R k).attrs.length ≤ c ∧ smallA (rbody R k).attrs := by
  unfold rbody
  have hno : smallA RB.no.attrs := fun x hx => by cases hx
  split
  · split
    · rename_i t ht
      have hf := h.fits t (List.mem_of_getElem? ht)
      have hg := now_grown hf
      exact ⟨hg.data, by have := hg.attrs; have := hf.size; omega, hg.small⟩
    · exact ⟨by simp [RB.no], by simp [RB.no], hno⟩
  · exact ⟨by simp [RB.no], by simp [RB.no], hno⟩
theorem rdeed_fits {R : RS} {c : Nat} {k : K4} {d : RD} (h : RInv R c) (hd : d.may)
    (h5 : ¬ (d.what = 5 ∧ (d.name.size < 1 ∨ 20 < d.name.size ∨ 4096 < d.p.length)))
    (h2 : ¬ ((rdeed (rbody R k) d).what = 2 ∧ ((rdeed (rbody R k) d).n < 0 ∨ 16384 - min (d.p.length : Int) 16384 < (rdeed (rbody R k) d).n ∨ 16384 < d.p.length))) : (rdeed (rbody R k) d).fits := by
  have hb := (rbody_grown h k).1
  obtain ⟨m1, m2, m3⟩ := hd
  have hnm : d.name.size ≤ 20 := by
    rcases m2 with m2 | m2
    · simp only [m2, true_and, not_or, Nat.not_lt] at h5; omega
    · exact m2
  unfold rdeed at h2 ⊢
  by_cases c6 : d.what = 6
  · rw [if_pos c6] at h2 ⊢
    simp only [true_and, not_or] at h2
    refine ⟨by simp only; omega, by simp only; omega, by simp only; omega, hnm, fun _ => by simp only; omega⟩
  · rw [if_neg c6] at h2 ⊢
    by_cases c3 : d.what = 3
    · rw [if_pos c3] at h2 ⊢
      have hh : 0 ≤ heldI d.n 0 (rbody R k).data.length ∧ heldI d.n 0 (rbody R k).data.length ≤ (rbody R k).data.length := by
        unfold heldI; split
        · omega
        · split <;> omega
      exact ⟨hh.1, by simp only; omega, by simp only; omega, hnm, fun e => by simp only [c3] at e; omega⟩
    · rw [if_neg c3] at h2 ⊢
      by_cases c2 : d.what = 2
      · simp only [c2, true_and, not_or] at h2
        exact ⟨by omega, by omega, by omega, hnm, fun _ => by omega⟩
      · have : d.n = 0 := by
          rcases m3 with m | m | m | m
          · exact absurd m c2
          · exact absurd m c3
          · exact absurd m c6
          · exact m
        exact ⟨by omega, by omega, by omega, hnm, fun e => absurd e c2⟩
theorem rwhy_deed {R : RS} {k : K4} {d : RD} (h : rwhy R k d = 0) : ¬ (d.what = 5 ∧ (d.name.size < 1 ∨ 20 < d.name.size ∨ 4096 < d.p.length)) ∧
    ¬ ((rdeed (rbody R k) d).what = 2 ∧ ((rdeed (rbody R k) d).n < 0 ∨ 16384 - min (d.p.length : Int) 16384 < (rdeed (rbody R k) d).n ∨ 16384 < d.p.length)) := by
  unfold rwhy at h
  repeat' split at h
  all_goals first
    | (exact ⟨by assumption, by assumption⟩)
    | (exfalso; revert h; decide)
    | fail
theorem rdo_inv {R : RS} {c : Nat} (h : RInv R c) (k : K4) {d : RD} (hd : d.may) (hm : c + 1 ≤ 100000) : RInv (rdo R k d).2 (c + 1) := by
  unfold rdo
  split
  · exact h.more (by omega) hm
  · rename_i hw
    split
    · exact (rburn_inv h).more (by omega) hm
    · rename_i hb
      have hw' : rwhy R k d = 0 := by simpa using hw
      obtain ⟨h5, h2⟩ := rwhy_deed hw'
      have hb' : (rburn R).1 = false := by simpa using hb
      have e := (rburn_same hb').1
      have hi := rput_inv (rburn_inv h) k (rdeed_fits (k := k) h hd h5 h2) hm
      rw [e] at hi
      exact hi.count _
theorem barL_inv {R : RS} {c : Nat} (h : RInv R c) : RInv { R with l := barL R.l } c := by
  have hl := h.len
  refine ⟨?_, fun t ht => ?_, h.keep, h.n, h.most, h.room⟩
  · have : (barL R.l).length ≤ R.l.length := by unfold barL; rw [List.length_map]; exact List.length_filter_le _ _
    simp only; omega
  · obtain ⟨u, hu, rfl⟩ := List.mem_map.1 ht
    have hf := h.fits u (List.mem_filter.1 hu).1
    have hg := now_grown hf
    exact ⟨hg.data, by have := hg.attrs; have := hf.size; simp only [List.length_nil]; omega, hg.small, fun d hd => by cases hd⟩
theorem rbarrier_inv {R : RS} {c : Nat} (h : RInv R c) : RInv (rbarrier R).2 c := by
  unfold rbarrier
  split
  · exact h
  · split
    · exact rburn_inv h
    · rename_i hb
      have hb' : (rburn R).1 = false := by simpa using hb
      have e := (rburn_same hb').1
      have hi := barL_inv (rburn_inv h)
      rw [e] at hi
      exact hi.count _
theorem rfuse_inv {R : RS} {c : Nat} (h : RInv R c) {n torn : Int} {keep : List Int} (hn : n ≤ 9223372036854775807) (hk : keep.length ≤ 1000000) : RInv (rfuse R n keep torn) c := ⟨h.len, h.fits, hk, hn, h.most, h.room⟩
theorem rpower_inv {R : RS} {c : Nat} (h : RInv R c) : RInv { R with off := false } c := ⟨h.len, h.fits, h.keep, h.n, h.most, h.room⟩
end Go.Proofs.YtagljjhfkhadpaaGreat
