/- (*Store).do. -/
import Derived.Test.YtnokhjhhadnckaaLate
set_option linter.unusedSimpArgs false
set_option linter.unusedVariables false
set_option linter.unusedSectionVars false
namespace Go.Proofs.Ytnokhjhhadnckaa
open Go.RowKit
/-- A store behind a deed that may be; true: the fuse took the power in its place. -/
def doS (S : Str) (k : K4) (d : Dd) : Bool × Str :=
  if (burnsS S).1 then (true, (burnsS S).2) else
    let S1 := (burnsS S).2
    let S2 := showS S1 k (wrap64 (sizeO (get k S1.seen))) (stepD (get k S1.seen) d)
    (false, { S2 with late := put k (lateAt S2 k ++ [d]) S2.late, wet := wrap64 (S2.wet + 1), deeds := wrap64 (S2.deeds + 1) })
def offE (b : Bool) : Int := if b then 7 else 0
theorem burns_not {S : Str} (h : (burnsS S).1 = false) : ∃ f, (burnsS S).2 = { S with fuse := f } := by
  unfold burnsS at *
  split
  · rename_i ha
    rw [if_pos ha] at h
    split
    · exact ⟨_, rfl⟩
    · rename_i hf
      rw [if_neg hf] at h
      cases h
  · exact ⟨S.fuse, rfl⟩
section
variable {W w : World} {I : Hp} {l : List HP} {p : Nat} {S : Str}
set_option maxRecDepth 4000
set_option maxHeartbeats 8000000
theorem opt_ptr {v : Value} {o : Option TS} (h : St W I w (optHP v o :: l)) : ∃ q, v = .pointer q := by
  cases o with
  | none => exact ⟨_, h.pure_open.1⟩
  | some t =>
    obtain ⟨b, m, vb, e, _⟩ := St.thing_open (v := v) (t := t) h
    exact ⟨_, e⟩
theorem sdo_spec (k : K4) (d : Dd) (pv : Value) (h : St W I w (storeHP p S :: l)) (hp : BytesI I pv d.p) (hd : d.fits) (hkn : S.keep.length ≤ 1000000) (hf : 0 ≤ S.fuse ∧ S.fuse ≤ 9223372036854775807) (hi : Inv S S.late.length) :
    Calls Try.prog 52 #[.pointer (some ⟨p, 0, none⟩), k.val, .agg #[.int .i64 d.kind, .int .i64 d.n, pv, .string d.name]] w fun e w' => ∃ I', I.sub I' ∧ e = .returned (.int .i64 (offE (doS S k d).1)) ∧ St W I' w' (storeHP p (doS S k d).2 :: l) := by
  obtain ⟨k0, k1, k2, k3⟩ := k
  unfold K4.val
  have HPV := Lib.hid hp
  obtain ⟨Ap, cp, rfl, _⟩ := hp
  have h1 := (h.alloc (.cells #[.int .i64 k0, .int .i64 k1, .int .i64 k2, .int .i64 k3] 27)).alloc (.cells #[.int .i64 d.kind, .int .i64 d.n, .slice Ap d.p.length cp, .string d.name] 95)
  rw [show (w.alloc (.cells #[.int .i64 k0, .int .i64 k1, .int .i64 k2, .int .i64 k3] 27)).heap.size = w.heap.size + 1 by simp] at h1
  obtain ⟨w1, hw1⟩ : ∃ w1, (w.alloc (.cells #[.int .i64 k0, .int .i64 k1, .int .i64 k2, .int .i64 k3] 27)).alloc (.cells #[.int .i64 d.kind, .int .i64 d.n, .slice Ap d.p.length cp, .string d.name] 95) = w1 := ⟨_, rfl⟩
  rw [hw1] at h1
  have HW1 := Lib.hid hw1
  have hbs := burns_spec (h1.pull 2 _ rfl) hkn hf (fun _ => hi)
  have HBS := Lib.hid hbs
  have HI := Lib.hid hi
  have HD := Lib.hid hd
  clear h h1 hw1 hbs hi hd
  go_enter Try.func52, Try.ntmps52
  go_wp2_with fail
  rw [HW1.out]
  refine HBS.out.mono ?_
  clear HBS
  rintro e w2 ⟨I2, hs2, rfl, h2⟩
  have HS2 := Lib.hid hs2
  cases hb : (burnsS S).1 with
  | true =>
    have H2 := Lib.hid h2
    have HB := Lib.hid hb
    have HDO := Lib.hid (show doS S ⟨k0, k1, k2, k3⟩ d = (true, (burnsS S).2) by simp [doS, hb])
    clear h2 hs2 hb
    go_wp2_with fail
    go_ret
    rw [HDO.out]
    exact ⟨I2, HS2.out, rfl, ((H2.out.pull 2 _ rfl).drop.pull 1 _ rfl).drop⟩
  | false =>
    obtain ⟨S1, hS1⟩ : ∃ S1, (burnsS S).2 = S1 := ⟨_, rfl⟩
    obtain ⟨f, hf1⟩ := burns_not hb
    rw [hS1] at h2 hf1
    have hi1 : Inv S1 S1.late.length := by rw [hf1]; exact ⟨HI.out.rise, HI.out.many, HI.out.seen, HI.out.dry, HI.out.late, HI.out.lateN⟩
    obtain ⟨S2, hS2⟩ : ∃ S2, showS S1 ⟨k0, k1, k2, k3⟩ (wrap64 (sizeO (get ⟨k0, k1, k2, k3⟩ S1.seen))) (stepD (get ⟨k0, k1, k2, k3⟩ S1.seen) d) = S2 := ⟨_, rfl⟩
    have hdo : doS S ⟨k0, k1, k2, k3⟩ d = (false, { S2 with late := put ⟨k0, k1, k2, k3⟩ (lateAt S2 ⟨k0, k1, k2, k3⟩ ++ [d]) S2.late, wet := wrap64 (S2.wet + 1), deeds := wrap64 (S2.deeds + 1) }) := by
      rw [← hS2, ← hS1]
      simp only [doS, hb]
      rfl
    have HS2' := Lib.hid hS2
    have HDO := Lib.hid hdo
    have HB := Lib.hid hb
    have HI1 := Lib.hid hi1
    obtain ⟨B, h3⟩ := h2.store_open
    have c5 := h3.blk 5
    have hxk := (h3.pull 7 _ rfl).heap
    have x0 := cells_of hxk 0
    have x1 := cells_of hxk 1
    have x2 := cells_of hxk 2
    have x3 := cells_of hxk 3
    simp [storeCells] at c5 x0 x1 x2 x3
    obtain ⟨v, X, hlk, h4, hX⟩ := (h3.drew.pull 1 _ rfl).look_spot ⟨k0, k1, k2, k3⟩
    have hlk0 := hlk _ (Below.refl _ _)
    simp only [keyKT, K4.val] at hlk0
    obtain ⟨q, rfl⟩ := opt_ptr h4
    have H4 := Lib.hid h4
    have HX := Lib.hid hX
    clear h2 h3 h4 hX hlk hxk hs2 hb hi1 hS1 hdo hS2 hf1
    go_wp2_with fail
    refine wp_region_calm [] [0, 1, 2, 3, 4, 5, 6] [] (by kernel_rfl) (by kernel_rfl) ?_
    simp only [pickL, List.getElem?_cons_zero, List.getElem?_cons_succ]
    repeat (refine wpPlain_step _ (Or.inl ⟨by rfl, by intro w; go_simp; try with_reducible rfl⟩) ?_; (try simp only [Act.put, List.setIfInBounds_toArray, List.set_cons_zero, List.set_cons_succ]))
    refine wpPlain_nil ?_
    repeat still_step
    refine wpStill_nil ?_
    go_wp2_with fail
    refine NoPanic.normal ?_
    clear hlk0 c5 x0 x1 x2 x3
    go_wp2_with fail
    have hi1 := HI1.out
    have hsm := get_small hi1.seen ⟨k0, k1, k2, k3⟩
    refine (size_opt H4.out hsm).mono ?_
    rintro e w5 ⟨rfl, h5⟩
    have hxk := (h5.pull 8 _ rfl).heap
    have x0 := cells_of hxk 0
    have x1 := cells_of hxk 1
    have x2 := cells_of hxk 2
    have x3 := cells_of hxk 3
    have hyk := (h5.pull 7 _ rfl).heap
    have y0 := cells_of hyk 0
    have y1 := cells_of hyk 1
    have y2 := cells_of hyk 2
    have y3 := cells_of hyk 3
    simp at x0 x1 x2 x3 y0 y1 y2 y3
    have HSM := Lib.hid hsm
    have H5 := Lib.hid h5
    clear hxk hyk hi1 hsm h5 H4
    go_wp2_with fail
    refine wp_region_keep (fun w' => w'.cell? ⟨w.heap.size, 0, none⟩ = some (.int .i64 k0) ∧ w'.cell? ⟨w.heap.size, 1, none⟩ = some (.int .i64 k1) ∧ w'.cell? ⟨w.heap.size, 2, none⟩ = some (.int .i64 k2) ∧ w'.cell? ⟨w.heap.size, 3, none⟩ = some (.int .i64 k3) ∧ w'.cell? ⟨w.heap.size + 1, 0, none⟩ = some (.int .i64 d.kind) ∧ w'.cell? ⟨w.heap.size + 1, 1, none⟩ = some (.int .i64 d.n) ∧ w'.cell? ⟨w.heap.size + 1, 2, none⟩ = some (.slice Ap d.p.length cp) ∧ w'.cell? ⟨w.heap.size + 1, 3, none⟩ = some (.string d.name)) [0, 1, 2, 3, 4] [5] [6] (by kernel_rfl) (by kernel_rfl) (by (exact ⟨x0, x1, x2, x3, y0, y1, y2, y3⟩)) ?_
    simp only [pickL, List.getElem?_cons_zero, List.getElem?_cons_succ]
    repeat (refine wpFirst_step _ (Or.inl ⟨by rfl, by (intro w hSw; (try dsimp only at hSw); go_simp; try with_reducible rfl)⟩) ?_; (try simp only [Act.put, List.setIfInBounds_toArray, List.set_cons_zero, List.set_cons_succ]))
    refine wpFirst_nil ?_
    unfold wpHold
    go_wp2_with fail
    refine (do_spec (.slice Ap d.p.length cp) d HD.out HSM.out H5.out.drew ((bytesIP _ _).mono HS2.out HPV.out)).mono ?_
    rintro e w6 ⟨I6, v6, hs6, rfl, h6⟩
    have h6 : St W I6 w6 (optHP v6 (stepD (get ⟨k0, k1, k2, k3⟩ S1.seen) d) :: X :: storeBlk p S1 B :: dryHP B S1 :: lateHP B S1 :: keyHP B S1 :: HP.imm (intsIP B.vk S1.keep) :: HP.pt (w.heap.size + 1) (.cells #[.int .i64 d.kind, .int .i64 d.n, .slice Ap d.p.length cp, .string d.name] 95) :: HP.pt w.heap.size (.cells #[.int .i64 k0, .int .i64 k1, .int .i64 k2, .int .i64 k3] 27) :: l) := h6
    obtain ⟨q6, rfl⟩ := opt_ptr h6
    have hxk := (h6.pull 8 _ rfl).heap
    have x0' := cells_of hxk 0
    have x1' := cells_of hxk 1
    have x2' := cells_of hxk 2
    have x3' := cells_of hxk 3
    have hyk := (h6.pull 7 _ rfl).heap
    have y0' := cells_of hyk 0
    have y1' := cells_of hyk 1
    have y2' := cells_of hyk 2
    have y3' := cells_of hyk 3
    simp at x0' x1' x2' x3' y0' y1' y2' y3'
    have hcall := show_at (small_step HSM.out HD.out) ⟨k0, k1, k2, k3⟩ HX.out (wrap64 (sizeO (get ⟨k0, k1, k2, k3⟩ S1.seen))) (h6.perm (m := storeBlk p S1 B :: X :: dryHP B S1 :: lateHP B S1 :: keyHP B S1 :: optHP (.pointer q6) (stepD (get ⟨k0, k1, k2, k3⟩ S1.seen) d) :: HP.imm (intsIP B.vk S1.keep) :: HP.pt (w.heap.size + 1) (.cells #[.int .i64 d.kind, .int .i64 d.n, .slice Ap d.p.length cp, .string d.name] 95) :: HP.pt w.heap.size (.cells #[.int .i64 k0, .int .i64 k1, .int .i64 k2, .int .i64 k3] 27) :: l) (by ((try simp only [List.eraseIdx_cons_succ, List.eraseIdx_cons_zero, List.cons_append, List.nil_append]); repeat (first | with_reducible exact List.Perm.refl _ | (apply perm_step; (· repeat (first | with_reducible exact find_here | with_reducible apply find_there))))))) (HI1.out.rise _) (by have := HI1.out.many (⟨k0, k1⟩ : G2); exact Nat.le_trans (Nat.le_add_right _ _) this)
    rw [HS2'.out] at hcall
    simp only [K4.val] at hcall
    have HCALL := Lib.hid hcall
    have HS6 := Lib.hid hs6
    clear h6 hxk hyk hcall hs6 x0 x1 x2 x3 y0 y1 y2 y3
    go_wp2_with fail
    refine holdPost_normal ⟨x0', x1', x2', x3', y0', y1', y2', y3'⟩ ?_
    unfold wpHold
    go_wp2_with fail
    refine HCALL.out.mono ?_
    rintro e w7 ⟨rfl, h7⟩
    have H7 := Lib.hid h7
    clear h7 HCALL x0' x1' x2' x3' y0' y1' y2' y3'
    go_wp2_with fail
    refine NoPanic.normal ?_
    have h7 := H7.out
    have c7 := h7.blk 7
    have hxk := (h7.pull 7 _ rfl).heap
    have x0 := cells_of hxk 0
    have x1 := cells_of hxk 1
    have x2 := cells_of hxk 2
    have x3 := cells_of hxk 3
    have hyk := (h7.pull 6 _ rfl).heap
    have y0 := cells_of hyk 0
    have y1 := cells_of hyk 1
    have y2 := cells_of hyk 2
    have y3 := cells_of hyk 3
    simp [storeCells] at c7 x0 x1 x2 x3 y0 y1 y2 y3
    clear h7 hxk hyk
    go_wp2_with fail
    refine wp_region_mix (fun w' => w'.cell? ⟨p, 7, none⟩ = some (.map (some B.m3)) ∧ w'.cell? ⟨w.heap.size, 0, none⟩ = some (.int .i64 k0) ∧ w'.cell? ⟨w.heap.size, 1, none⟩ = some (.int .i64 k1) ∧ w'.cell? ⟨w.heap.size, 2, none⟩ = some (.int .i64 k2) ∧ w'.cell? ⟨w.heap.size, 3, none⟩ = some (.int .i64 k3) ∧ w'.cell? ⟨w.heap.size + 1, 0, none⟩ = some (.int .i64 d.kind) ∧ w'.cell? ⟨w.heap.size + 1, 1, none⟩ = some (.int .i64 d.n) ∧ w'.cell? ⟨w.heap.size + 1, 2, none⟩ = some (.slice Ap d.p.length cp) ∧ w'.cell? ⟨w.heap.size + 1, 3, none⟩ = some (.string d.name)) [0, 1, 2, 3, 4, 5] [6] [7] [8, 10] [9, 11] (by kernel_rfl) (by kernel_rfl) (by (exact ⟨c7, x0, x1, x2, x3, y0, y1, y2, y3⟩)) ?_
    simp only [pickL, List.getElem?_cons_zero, List.getElem?_cons_succ]
    repeat (refine wpFirst_step _ (Or.inl ⟨by rfl, by (intro w hSw; (try dsimp only at hSw); go_simp; try with_reducible rfl)⟩) ?_; (try simp only [Act.put, List.setIfInBounds_toArray, List.set_cons_zero, List.set_cons_succ]))
    refine wpFirst_nil ?_
    unfold wpHold
    go_wp2_with fail
    clear c7 x0 x1 x2 x3 y0 y1 y2 y3
    have h8 := (H7.out.alloc (.cells #[.int .i64 d.kind, .int .i64 d.n, .slice Ap d.p.length cp, .string d.name] 95)).drew
    obtain ⟨w8, hw8⟩ : ∃ w8, (w7.alloc (.cells #[.int .i64 d.kind, .int .i64 d.n, .slice Ap d.p.length cp, .string d.name] 95)).drew = w8 := ⟨_, rfl⟩
    rw [hw8] at h8 ⊢
    clear hw8
    have c7 := (h8.pull 1 _ rfl).blk 7
    have hxk := (h8.pull 8 _ rfl).heap
    have x0 := cells_of hxk 0
    have x1 := cells_of hxk 1
    have x2 := cells_of hxk 2
    have x3 := cells_of hxk 3
    have hyk := (h8.pull 7 _ rfl).heap
    have y0 := cells_of hyk 0
    have y1 := cells_of hyk 1
    have y2 := cells_of hyk 2
    have y3 := cells_of hyk 3
    simp [storeCells] at c7 x0 x1 x2 x3 y0 y1 y2 y3
    refine holdPost_normal ⟨c7, x0, x1, x2, x3, y0, y1, y2, y3⟩ ?_
    unfold wpHold
    obtain ⟨st, v9, w9, hr9, hs9, h9⟩ := late_entry ⟨k0, k1, k2, k3⟩ (h8.pull 4 _ rfl)
    simp only [keyKT, K4.val, goInt] at hr9
    obtain ⟨ps9, _, h9r⟩ := h9.deeds_open
    obtain ⟨A9, c9, rfl⟩ := is_slice h9r.row_owns
    have hi1 := HI1.out
    have hln : (lateAt S2 ⟨k0, k1, k2, k3⟩).length ≤ 1000000 := by
      rw [← HS2'.out]
      exact Nat.le_trans (hi1.lateAt ⟨k0, k1, k2, k3⟩).1 (by omega)
    obtain ⟨v10, w10, hr10, h10⟩ := deeds_append d (.slice Ap d.p.length cp) 105 (h9.perm (m := deedsHP _ (lateAt S2 ⟨k0, k1, k2, k3⟩) :: HP.pt w7.heap.size (.cells #[.int .i64 d.kind, .int .i64 d.n, .slice Ap d.p.length cp, .string d.name] 95) :: HP.held keyKT deedsHP B.m3 ⟨k0, k1, k2, k3⟩ _ st (del ⟨k0, k1, k2, k3⟩ S2.late) :: storeBlk p S2 B :: seenHP B S2 :: dryHP B S2 :: keyHP B S2 :: HP.imm (intsIP B.vk S1.keep) :: HP.pt (w.heap.size + 1) (.cells #[.int .i64 d.kind, .int .i64 d.n, .slice Ap d.p.length cp, .string d.name] 95) :: HP.pt w.heap.size (.cells #[.int .i64 k0, .int .i64 k1, .int .i64 k2, .int .i64 k3] 27) :: l) (by ((try simp only [List.eraseIdx_cons_succ, List.eraseIdx_cons_zero, List.cons_append, List.nil_append]); repeat (first | with_reducible exact List.Perm.refl _ | (apply perm_step; (· repeat (first | with_reducible exact find_here | with_reducible apply find_there))))))) ((bytesIP _ _).mono (HS2.out.trans HS6.out) HPV.out) hln rfl
    obtain ⟨ps10, _, h10r⟩ := h10.deeds_open
    obtain ⟨A10, c10, rfl⟩ := is_slice h10r.row_owns
    obtain ⟨w11, hr11, hs11, h11⟩ := St.held_put (h10.perm (m := deedsHP _ (lateAt S2 ⟨k0, k1, k2, k3⟩ ++ [d]) :: HP.held keyKT deedsHP B.m3 ⟨k0, k1, k2, k3⟩ _ st (del ⟨k0, k1, k2, k3⟩ S2.late) :: HP.pt w7.heap.size (.cells #[intV d.kind, intV d.n, .slice Ap d.p.length cp, .string d.name] 95) :: storeBlk p S2 B :: seenHP B S2 :: dryHP B S2 :: keyHP B S2 :: HP.imm (intsIP B.vk S1.keep) :: HP.pt (w.heap.size + 1) (.cells #[.int .i64 d.kind, .int .i64 d.n, .slice Ap d.p.length cp, .string d.name] 95) :: HP.pt w.heap.size (.cells #[.int .i64 k0, .int .i64 k1, .int .i64 k2, .int .i64 k3] 27) :: l) (by ((try simp only [List.eraseIdx_cons_succ, List.eraseIdx_cons_zero, List.cons_append, List.nil_append]); repeat (first | with_reducible exact List.Perm.refl _ | (apply perm_step; (· repeat (first | with_reducible exact find_here | with_reducible apply find_there))))))) Try.underlying86
    simp only [goInt, List.length_append, List.length_cons, List.length_nil, Nat.zero_add] at hr11
    have HR10 := Lib.hid hr10
    have HR11 := Lib.hid hr11
    have H11 := Lib.hid h11
    clear hxk hyk h8 h9 h9r h10 h10r h11 hr10 hr11 hi1 hln hs9 hs11 c7 x0 x1 x2 x3 y0 y1 y2 y3
    unfold wpHold
    go_wp2_with fail
    refine holdPost_normal (S := fun _ => True) trivial ?_
    unfold wpHold
    clear hr9
    repeat (refine wpPlain_step _ (Or.inl ⟨by rfl, by intro w; go_simp; try with_reducible rfl⟩) ?_; (try simp only [Act.put, List.setIfInBounds_toArray, List.set_cons_zero, List.set_cons_succ]))
    refine wpPlain_nil ?_
    go_wp2_with (at_builtin; refine Lib.wpList_append_run _ rfl (.tmp 31) (.tmp 33) 105 105 rfl _ _ rfl rfl _ _ HR10.out ?_; have hr11 := HR11.out)
    refine NoPanic.normal ?_
    have h11 := H11.out
    have c3 := (h11.pull 2 _ rfl).blk 3
    have c2 := (h11.pull 2 _ rfl).blk 2
    have f3 := frozen_of_row (h11.pull 2 _ rfl).heap 3
    have f2 := frozen_of_row (h11.pull 2 _ rfl).heap 2
    simp [storeCells] at c3 c2
    clear h11
    go_wp2_with fail
    go_ret
    have h12 : St W I6 _ (storeBlk p { S2 with late := put ⟨k0, k1, k2, k3⟩ (lateAt S2 ⟨k0, k1, k2, k3⟩ ++ [d]) S2.late, wet := wrap64 (S2.wet + 1), deeds := wrap64 (S2.deeds + 1) } B :: _) := ((H11.out.pull 2 _ rfl).setCell 3 (.int .i64 (wrap64 (S2.wet + 1)))).setCell 2 (.int .i64 (wrap64 (S2.deeds + 1)))
    have hk2 : S2.keep = S1.keep := by rw [← HS2'.out]; rfl
    rw [HDO.out]
    refine ⟨I6, HS2.out.trans HS6.out, rfl, St.store_shut (B := B) ?_⟩
    rw [show ({ S2 with late := put ⟨k0, k1, k2, k3⟩ (lateAt S2 ⟨k0, k1, k2, k3⟩ ++ [d]) S2.late, wet := wrap64 (S2.wet + 1), deeds := wrap64 (S2.deeds + 1) } : Str).keep = S1.keep from hk2]
    exact (((((h12.pull 2 _ rfl).drop.pull 6 _ rfl).drop).pull 6 _ rfl).drop).perm (m := storeBlk p { S2 with late := put ⟨k0, k1, k2, k3⟩ (lateAt S2 ⟨k0, k1, k2, k3⟩ ++ [d]) S2.late, wet := wrap64 (S2.wet + 1), deeds := wrap64 (S2.deeds + 1) } B :: seenHP B S2 :: dryHP B S2 :: HP.mapOf keyKT deedsHP B.m3 ((⟨k0, k1, k2, k3⟩, lateAt S2 ⟨k0, k1, k2, k3⟩ ++ [d]) :: del ⟨k0, k1, k2, k3⟩ S2.late) :: keyHP B S2 :: HP.imm (intsIP B.vk S1.keep) :: l) (by ((try simp only [List.eraseIdx_cons_succ, List.eraseIdx_cons_zero, List.cons_append, List.nil_append]); repeat (first | with_reducible exact List.Perm.refl _ | (apply perm_step; (· repeat (first | with_reducible exact find_here | with_reducible apply find_there))))))
end
end Go.Proofs.Ytnokhjhhadnckaa
