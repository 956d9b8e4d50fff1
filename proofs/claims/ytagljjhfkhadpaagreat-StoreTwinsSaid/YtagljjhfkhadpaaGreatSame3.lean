/- hectographref3: burn, Wet, Keys. -/
import Derived.Test.YtagljjhfkhadpaaGreatRefFall
import Derived.Test.YtagljjhfkhadpaaGreatDet
set_option linter.unusedSimpArgs false
set_option linter.unusedVariables false
set_option linter.unusedSectionVars false
namespace Go.Proofs.YtagljjhfkhadpaaGreat
open Go.RowKit
section
variable {W w : World} {I : Hp} {l : List HP} {q : Nat} {R : RS}
set_option maxRecDepth 4000
set_option maxHeartbeats 8000000
theorem burn3_spec {c : Nat} (h : St W I w (refHP q R :: l)) (hi : RInv R c) (htn : R.torn ≤ 9223372036854775807) :
    Calls Tryz.prog 65 #[.pointer (some ⟨q, 0, none⟩)] w fun e w' => ∃ I', I.sub I' ∧ e = .returned (.bool (rburn R).1) ∧ St W I' w' (refHP q (rburn R).2 :: l) := by
  cases hf : R.fused with
  | false => exact burn3_calm h hf
  | true =>
    obtain ⟨A, cA, vk, y0, y1, y2, y3, y4, y5, y6, y7, hkk, f, hlt⟩ := h.ref_cells
    rw [hf] at y4
    by_cases hn : 0 < R.n
    · have HR := Lib.hid (show rburn R = (false, { R with n := R.n - 1 }) by simp [rburn, hf, hn])
      have hin := hi.n
      have hw : IntKind.i64.wrap (R.n - 1) = R.n - 1 := by rw [IntKind.wrap_i64]; omega
      have h2 := St.ref_set (R' := { R with n := R.n - 1 }) h rfl rfl (fun w => w.setCell ⟨q, 5, none⟩ (.int .i64 (R.n - 1))) (fun vl vk m h => h.setCell 5 (.int .i64 (R.n - 1)))
      have H2 := Lib.hid h2
      have hd : decide (0 < R.n) = true := decide_eq_true hn
      clear h h2 hkk
      go_enter Tryz.func65, Tryz.ntmps65
      go_wp2_with fail
      go_ret
      rw [HR.out]
      exact ⟨I, Hp.sub.refl _, rfl, H2.out⟩
    · have HR := Lib.hid (show rburn R = (true, (rfall R R.keep R.torn).1) by simp [rburn, hf, hn])
      have HF := Lib.hid (fall3_spec vk R.keep R.torn h.drew hi hkk hi.keep htn)
      obtain ⟨Av, cv, rfl, _⟩ := hkk
      have hd : decide (0 < R.n) = false := decide_eq_false hn
      clear h hn
      go_enter Tryz.func65, Tryz.ntmps65
      go_wp2_with fail
      refine wp_region_calm [0, 1, 2, 3, 5, 6, 7] [4, 8] [9] (by kernel_rfl) (by kernel_rfl) ?_
      simp only [pickL, List.getElem?_cons_zero, List.getElem?_cons_succ]
      repeat (refine wpPlain_step _ (Or.inl ⟨by rfl, by intro w; go_simp; try with_reducible rfl⟩) ?_; (try simp only [Act.put, List.setIfInBounds_toArray, List.set_cons_zero, List.set_cons_succ]))
      refine wpPlain_nil ?_
      repeat still_step
      refine wpStill_nil ?_
      go_wp2_with fail
      refine HF.out.mono ?_
      rintro e w2 ⟨I2, hs2, rfl, h2⟩
      have H2 := Lib.hid h2
      have HS2 := Lib.hid hs2
      clear h2 hs2 HF
      go_wp2_with fail
      refine NoPanic.normal ?_
      go_wp2_with fail
      go_ret
      rw [HR.out]
      exact ⟨I2, HS2.out, rfl, H2.out⟩

def wetL (L : List RT) : Int := (L.map fun t => (t.wet.length : Int)).sum
theorem wet3_spec {c : Nat} (h : St W I w (refHP q R :: l)) (hi : RInv R c) :
    Calls Tryz.prog 45 #[.pointer (some ⟨q, 0, none⟩)] w fun e w' => e = .returned (.int .i64 (wetL R.l)) ∧ w = w' := by
  have H := Lib.hid h
  have HI := Lib.hid hi
  have hlen := hi.len
  have hmost := hi.most
  clear h hi
  go_enter Tryz.func45, Tryz.ntmps45
  go_wp2_with fail
  go_loopw [3, 4] (fun a3 a4 wr => ∃ (i : Nat) (n : Int), a4 = .int .i64 i ∧ a3 = .int .i64 n ∧ i ≤ R.l.length ∧ n = wetL (R.l.take i) ∧ 0 ≤ n ∧ n ≤ (i : Int) * 100000 ∧ wr = w) (fun _ a4 _ => R.l.length - (intOf a4).toNat)
  case atStart => exact ⟨0, 0, rfl, rfl, Nat.zero_le _, rfl, by omega, by omega, rfl⟩
  case round =>
    obtain ⟨i, n, rfl, rfl, hil, hn, hn0, hn1, rfl⟩ := hrel
    obtain ⟨A, cA, vk, _, _, y2, _⟩ := H.out.ref_cells
    by_cases hlt : i < R.l.length
    · obtain ⟨t, hti⟩ : ∃ t, R.l[i]? = some t := ⟨_, List.getElem?_eq_getElem hlt⟩
      clear y2
      have hft := HI.out.fits _ (List.mem_of_getElem? hti)
      have hwl : t.wet.length ≤ 100000 := by have := hft.size; omega
      obtain ⟨g, cc, A1, c1, A2, c2, A3, c3, _, _, y2, hcc, _, x0, x1, x2, x3, x4, x5, x6, x7, hnw⟩ := H.out.ref_now HI.out hti
      have hn2 : wetL (R.l.take (i + 1)) = n + (t.wet.length : Int) := by
        obtain ⟨hil', he⟩ := List.getElem?_eq_some_iff.1 hti
        rw [List.take_succ_eq_append_getElem hil', he, hn]
        unfold wetL
        simp
      have hw : IntKind.i64.wrap (n + (t.wet.length : Int)) = n + (t.wet.length : Int) := by rw [IntKind.wrap_i64]; omega
      have HN2 := Lib.hid hn2
      have HB := Lib.hid (show 0 ≤ n + (t.wet.length : Int) ∧ n + (t.wet.length : Int) ≤ ((i + 1 : Nat) : Int) * 100000 by omega)
      clear hti hnw hn2 hn hft hn0 hn1
      go_wp2_with fail
      go_roundw
      case rel => exact ⟨i + 1, n + (t.wet.length : Int), by go_num, rfl, by omega, HN2.out.symm, HB.out.1, HB.out.2, trivial⟩
      case measure => simp [intOf]; omega
    · obtain rfl : i = R.l.length := by omega
      rw [List.take_length] at hn
      have HN := Lib.hid hn
      clear hn
      go_wp2_with fail
      go_ret
      rw [← HN.out]
      exact ⟨rfl, rfl⟩
theorem key_info : (Tryz.prog.info? 30).map (fun i => (i.zero, i.size, i.bytes)) = some (some (.agg #[.int .i64 0, .int .i64 0, .int .i64 0, .int .i64 0]), 4, 32) := by kernel_rfl
theorem k4_one (k : K4) : ∀ u ∈ K4.vals k, u.oneCell' = true := fun u hu => by
  simp [K4.vals] at hu
  rcases hu with rfl | rfl | rfl | rfl <;> rfl
theorem key_push {A : Option Addr} {c : Nat} {ks : List K4} (h : St W I w (HP.row 30 4 (.slice A ks.length c) ks.length (ks.flatMap K4.vals) :: l)) (k : K4) (hn : ks.length ≤ 1000000) :
    ∃ A' c' w', (Builtin.append_ #[66, 66] 66 #[.slice A ks.length c, .slice (some ⟨w.heap.size, 0, none⟩) 1 1]).run Tryz.prog (w.alloc (.cells #[.int .i64 k.kind, .int .i64 k.img, .int .i64 k.num, .int .i64 k.snap] 30)) = .ok (.slice A' (ks ++ [k]).length c') w' ∧
      St W I w' (HP.row 30 4 (.slice A' (ks ++ [k]).length c') (ks ++ [k]).length ((ks ++ [k]).flatMap K4.vals) :: l) :=
  St.row_push Tryz.underlying66 key_info rfl (by decide) (by decide) (mk := K4.vals) (fun _ => rfl) h k (k4_one k) hn _ rfl
def keyF (kind img : Int) (t : RT) : Bool := t.key.kind == kind && t.key.img == img && (rnow t).there
def keyL (kind img : Int) (L : List RT) : List K4 := (L.filter (keyF kind img)).map RT.key
theorem keyL_snoc (kind img : Int) (L : List RT) (t : RT) : keyL kind img (L ++ [t]) = keyL kind img L ++ (if keyF kind img t then [t.key] else []) := by
  unfold keyL
  rw [List.filter_append, List.map_append]
  cases h : keyF kind img t <;> simp [List.filter, h]
theorem keyL_len (kind img : Int) (L : List RT) : (keyL kind img L).length ≤ L.length := by
  unfold keyL
  rw [List.length_map]
  exact List.length_filter_le _ _
theorem keys3_spec (kind img : Int) {c : Nat} (h : St W I w (refHP q R :: l)) (hi : RInv R c) :
    Calls Tryz.prog 48 #[.pointer (some ⟨q, 0, none⟩), .int .i64 kind, .int .i64 img] w fun e w' => ∃ I' v, I.sub I' ∧ e = .returned v ∧ St W I' w' (keysHP v (rkeys R kind img) :: refHP q R :: l) := by
  have H := Lib.hid h
  have HI := Lib.hid hi
  have hlen := hi.len
  have hmost := hi.most
  obtain ⟨A0, cA0, vk0, _, _, z2, z3, _⟩ := h.ref_cells
  cases hof : R.off with
  | true =>
    have HR := Lib.hid (show rkeys R kind img = [] by simp [rkeys, hof])
    have HE := Lib.hid (h.row_nil 30 4)
    rw [hof] at z3
    clear h hi
    go_enter Tryz.func48, Tryz.ntmps48
    go_wp2_with fail
    go_loopw [7, 8] (fun a7 a8 wr => a8 = .int .i64 0 ∧ a7 = .slice none 0 0 ∧ wr = w) (fun _ a8 _ => 0)
    case atStart => exact ⟨rfl, rfl, rfl⟩
    case round =>
      obtain ⟨rfl, rfl, rfl⟩ := hrel
      by_cases h0 : 0 < R.l.length
      · have d0 : decide ((0 : Int) < (R.l.length : Int)) = true := by rw [decide_eq_true_eq]; omega
        go_wp2_with fail
        go_ret
        rw [HR.out]
        exact ⟨I, _, Hp.sub.refl _, rfl, HE.out⟩
      · have d0 : R.l.length = 0 := by omega
        go_wp2_with fail
        go_ret
        rw [HR.out]
        exact ⟨I, _, Hp.sub.refl _, rfl, HE.out⟩
  | false =>
    have HR := Lib.hid (show rkeys R kind img = keyL kind img R.l by unfold rkeys keyL; rw [hof]; rfl)
    have HE := Lib.hid (h.row_nil 30 4)
    clear h hi z2 z3
    go_enter Tryz.func48, Tryz.ntmps48
    go_wp2_with fail
    go_loopw [7, 8] (fun a7 a8 wr => ∃ (i : Nat) (ks : List K4) (A3 : Option Addr) (c3 : Nat) (I2 : Hp), a8 = .int .i64 i ∧ a7 = .slice A3 ks.length c3 ∧ i ≤ R.l.length ∧ ks = keyL kind img (R.l.take i) ∧ I.sub I2 ∧ St W I2 wr (HP.row 30 4 (.slice A3 ks.length c3) ks.length (ks.flatMap K4.vals) :: refHP q R :: l)) (fun _ a8 _ => R.l.length - (intOf a8).toNat)
    case atStart => exact ⟨0, [], none, 0, I, rfl, rfl, Nat.zero_le _, rfl, Hp.sub.refl _, HE.out⟩
    case round =>
      obtain ⟨i, ks, A3, c3, I2, rfl, rfl, hil, hks, hs2, hst⟩ := hrel
      have hkl : ks.length ≤ i := by rw [hks]; have := keyL_len kind img (R.l.take i); rw [List.length_take] at this; omega
      obtain ⟨A, cA, vk, _, _, y2, y3, _⟩ := (hst.pull 1 _ rfl).ref_cells
      rw [hof] at y3
      by_cases hlt : i < R.l.length
      · obtain ⟨t, hti⟩ : ∃ t, R.l[i]? = some t := ⟨_, List.getElem?_eq_getElem hlt⟩
        clear y2
        have d0 : decide ((i : Int) < (R.l.length : Int)) = true := by rw [decide_eq_true_eq]; omega
        obtain ⟨g, cc, A1, c1, A2, c2, A4, c4, _, _, y2, hcc, _, x0, x1, x2, x3, x4, x5, x6, x7, hnw⟩ := (hst.pull 1 _ rfl).ref_now HI.out hti
        have hn2 : keyL kind img (R.l.take (i + 1)) = ks ++ (if keyF kind img t then [t.key] else []) := by
          obtain ⟨hil', he⟩ := List.getElem?_eq_some_iff.1 hti
          rw [List.take_succ_eq_append_getElem hil', he, keyL_snoc, hks]
        have HNW := Lib.hid (hnw wr I2 _ (Hp.sub.refl _) (hst.pull 1 _ rfl))
        have HS2 := Lib.hid hs2
        have HN2 := Lib.hid hn2
        have HST := Lib.hid hst
        have HTI := Lib.hid hti
        clear hst hti hnw hs2 hn2 hks
        by_cases hk : t.key.kind = kind
        · subst hk
          by_cases hm : t.key.img = img
          · subst hm
            go_wp2_with fail
            refine HNW.out.mono ?_
            rintro e w4 ⟨I4, dv4, av4, hs4, rfl, hb4, h4⟩
            obtain ⟨A5, c5, rfl⟩ := BytesI.slice hb4.1
            obtain ⟨A6, c6, rfl⟩ := AttrsI.slice hb4.2
            clear hb4
            have h5 := h4.pull 1 _ rfl
            have H5 := Lib.hid h5
            have HS4 := Lib.hid (HS2.out.trans hs4)
            clear x0 x1 x2 x3 x4 x5 x6 x7 HNW y2 y3
            have hfl := field_there
            cases hth : (rnow t).there with
            | false =>
              have HN3 : Hid (keyL t.key.kind t.key.img (R.l.take (i + 1)) = ks) := Lib.hid (by rw [HN2.out]; simp [keyF, hth])
              clear hth h4 h5 hs4
              go_wp2_with fail
              go_roundw
              case rel => exact ⟨i + 1, ks, A3, c3, I4, by go_num, rfl, by omega, HN3.out.symm, HS4.out, H5.out⟩
              case measure => simp [intOf]; omega
            | true =>
              have HN3 : Hid (keyL t.key.kind t.key.img (R.l.take (i + 1)) = ks ++ [t.key]) := Lib.hid (by rw [HN2.out]; simp [keyF, hth])
              have hti : R.l[i]? = some t := HTI.out
              obtain ⟨g, cc, A1, c1, A2, c2, A4, c4, _, _, y2, hcc, _, x0, x1, x2, x3, _⟩ := (h5.pull 1 _ rfl).ref_now HI.out hti
              obtain ⟨A7, c7, w7, hr7, h7⟩ := key_push h5 t.key (by omega)
              have HR7 := Lib.hid hr7
              have H7 := Lib.hid h7
              have e7 : (ks ++ [t.key]).length = ks.length + 1 := by simp
              clear hth h4 h5 hs4 hr7 h7 hti
              go_wp2_with (at_builtin; refine Lib.wpList_append_run _ rfl (.tmp 60) (.tmp 69) 66 66 rfl _ _ rfl rfl _ _ HR7.out ?_)
              go_roundw
              case rel => exact ⟨i + 1, ks ++ [t.key], A7, c7, I4, by go_num, by rw [e7], by omega, HN3.out.symm, HS4.out, H7.out⟩
              case measure => simp [intOf]; omega
          · have HN3 : Hid (keyL t.key.kind img (R.l.take (i + 1)) = ks) := Lib.hid (by rw [HN2.out]; simp [keyF, hm])
            have hm2 : (t.key.img == img) = false := by simpa using hm
            go_wp2_with fail
            go_roundw
            case rel => exact ⟨i + 1, ks, A3, c3, I2, by go_num, rfl, by omega, HN3.out.symm, HS2.out, HST.out⟩
            case measure => simp [intOf]; omega
        · have HN3 : Hid (keyL kind img (R.l.take (i + 1)) = ks) := Lib.hid (by rw [HN2.out]; simp [keyF, hk])
          have hk2 : (t.key.kind == kind) = false := by simpa using hk
          go_wp2_with fail
          go_roundw
          case rel => exact ⟨i + 1, ks, A3, c3, I2, by go_num, rfl, by omega, HN3.out.symm, HS2.out, HST.out⟩
          case measure => simp [intOf]; omega
      · obtain rfl : i = R.l.length := by omega
        have d0 : decide (((R.l.length : Nat) : Int) < (R.l.length : Int)) = false := by rw [decide_eq_false_iff_not]; omega
        rw [List.take_length] at hks
        have HKS := Lib.hid hks
        have HST := Lib.hid hst
        have HS2 := Lib.hid hs2
        clear hst hs2 hks
        go_wp2_with fail
        go_ret
        rw [HR.out, ← HKS.out]
        exact ⟨I2, _, HS2.out, rfl, HST.out⟩
end
end Go.Proofs.YtagljjhfkhadpaaGreat
