/- (*Store).show. -/
import Derived.Test.YtnokhjhhadnckaaShow
import Derived.Test.YtnokhjhhadnckaaRegions
set_option linter.unusedSimpArgs false
set_option linter.unusedVariables false
set_option linter.unusedSectionVars false
namespace Go.Proofs.Ytnokhjhhadnckaa
open Go.RowKit
section
variable {W w : World} {I : Hp} {l : List HP} {p : Nat} {S : Str}
set_option maxRecDepth 4000
set_option maxHeartbeats 2000000
theorem show_there_out {B : SB} {X : HP} {v : Value} {t : TS} (ht : t.small) (k : K4) (hX : Spot k B.m1 S.seen X) (was : Int) (h : St W I w (storeBlk p S B :: X :: dryHP B S :: lateHP B S :: keyHP B S :: thingHP v t :: l)) (hr : Rising (keysAt S k.grp)) (hn : (keysAt S k.grp).length ≤ 100000) (hk : k ∉ keysAt S k.grp) :
    Calls Try.prog 59 #[.pointer (some ⟨p, 0, none⟩), k.val, .int .i64 was, v] w fun e w' => e = .returned (.tuple #[]) ∧ St W I w' (storeBlk p (showS S k was (some t)) B :: thingHP v t :: HP.hole keyKT thingHP B.m1 k v (del k S.seen) :: dryHP B S :: lateHP B S :: keyHP B (showS S k was (some t)) :: l) := by
  obtain ⟨k0, k1, k2, k3⟩ := k
  unfold K4.val
  have h2 := (h.alloc (.cells #[.int .i64 k0, .int .i64 k1, .int .i64 k2, .int .i64 k3] 27)).alloc (.cells #[.int .i64 k0, .int .i64 k1] 113)
  rw [show (w.alloc (.cells #[.int .i64 k0, .int .i64 k1, .int .i64 k2, .int .i64 k3] 27)).heap.size = w.heap.size + 1 by simp] at h2
  obtain ⟨w2, hw2⟩ : ∃ w2, (w.alloc (.cells #[.int .i64 k0, .int .i64 k1, .int .i64 k2, .int .i64 k3] 27)).alloc (.cells #[.int .i64 k0, .int .i64 k1] 113) = w2 := ⟨_, rfl⟩
  rw [hw2] at h2
  have HW2 := Lib.hid hw2
  clear hw2
  have c8 := (h2.pull 2 _ rfl).blk 8
  have g0 := cells_of h2.heap 0
  have g1 := cells_of h2.heap 1
  simp [storeCells] at c8 g0 g1
  obtain ⟨vk, HK, hlk, h3, hback, hput⟩ := (h2.drew.pull 6 _ rfl).look_or (x0 := []) Try.underlying87 (fun w => by kernel_rfl) (fun I w l h => h.row_nil _ _) ⟨k0, k1⟩
  have hlk := hlk _ (Below.refl _ _) false
  simp only [grpKT, G2.val] at hlk
  have hks : (get (⟨k0, k1⟩ : G2) S.keys).getD [] = keysAt S (K4.mk k0 k1 k2 k3).grp := rfl
  rw [hks] at h3 hback
  have H2 := Lib.hid h2
  have H3 := Lib.hid h3
  have HB := Lib.hid hback
  have HP' := Lib.hid hput
  obtain ⟨ks, hks2⟩ : ∃ ks, ks = keysAt S (K4.mk k0 k1 k2 k3).grp := ⟨_, rfl⟩
  have HKS := Lib.hid hks2
  rw [← hks2] at H3 HB hr hn hk
  clear hks hks2 h2 h3 hback hput
  have hx2 := (H2.out.pull 1 _ rfl).heap
  obtain ⟨Av, cv, rfl⟩ := is_slice H3.out.row_owns
  have HX2 := Lib.hid hx2
  have HR := Lib.hid hr
  have HKM := Lib.hid hk
  clear hx2 h hr hk
  go_enter Try.func59, Try.ntmps59
  go_wp2_with fail
  rw [HW2.out]
  refine wp_region_calm [] [0, 1, 2, 3, 4, 5, 6] [] (by kernel_rfl) (by kernel_rfl) ?_
  simp only [pickL, List.getElem?_cons_zero, List.getElem?_cons_succ]
  repeat (refine wpPlain_step _ (Or.inl ⟨by rfl, by intro w; go_simp; try with_reducible rfl⟩) ?_; (try simp only [Act.put, List.setIfInBounds_toArray, List.set_cons_zero, List.set_cons_succ]))
  refine wpPlain_nil ?_
  repeat still_step
  refine wpStill_nil ?_
  go_wp2_with fail
  refine NoPanic.normal ?_
  have x0 := cells_of (w := w2.drew) HX2.out 0
  have x1 := cells_of (w := w2.drew) HX2.out 1
  have x2 := cells_of (w := w2.drew) HX2.out 2
  have x3 := cells_of (w := w2.drew) HX2.out 3
  simp at x0 x1 x2 x3
  clear hlk c8 g0 g1
  go_wp2_with fail
  refine (search_spec ⟨k0, k1, k2, k3⟩ H3.out (by omega) HR.out).mono ?_
  rintro e w4 ⟨hb4, i, hpl, rfl⟩
  have HPL := Lib.hid hpl
  have hin : decide (ks[i]? = some ⟨k0, k1, k2, k3⟩) = false := by
    rw [decide_eq_false_iff_not]; exact fun q => HKM.out ((place_mem HR.out HPL.out).1 q)
  rw [hin]
  have h4 := H3.out.keep hb4
  have H4 := Lib.hid h4
  have HIN := Lib.hid hin
  clear hb4 hpl h4 hin x0 x1 x2 x3
  have h4 : St W I w4 (keysHP (.slice Av ks.length cv) ks :: HK :: HP.pt (w.heap.size + 1) (.cells #[.int .i64 k0, .int .i64 k1] 113) :: HP.pt w.heap.size (.cells #[.int .i64 k0, .int .i64 k1, .int .i64 k2, .int .i64 k3] 27) :: storeBlk p S B :: X :: dryHP B S :: lateHP B S :: thingHP v t :: l) := H4.out
  have c5 := (h4.pull 4 _ rfl).blk 5
  have hxk := (h4.pull 3 _ rfl).heap
  have x0 := cells_of hxk 0
  have x1 := cells_of hxk 1
  have x2 := cells_of hxk 2
  have x3 := cells_of hxk 3
  simp [storeCells] at c5 x0 x1 x2 x3
  have h4' : St W I w4.drew (thingHP v t :: X :: keysHP (.slice Av ks.length cv) ks :: HK :: HP.pt (w.heap.size + 1) (.cells #[.int .i64 k0, .int .i64 k1] 113) :: HP.pt w.heap.size (.cells #[.int .i64 k0, .int .i64 k1, .int .i64 k2, .int .i64 k3] 27) :: storeBlk p S B :: dryHP B S :: lateHP B S :: l) := h4.drew.perm (by ((try simp only [List.eraseIdx_cons_succ, List.eraseIdx_cons_zero, List.cons_append, List.nil_append]); repeat (first | with_reducible exact List.Perm.refl _ | (apply perm_step; (· repeat (first | with_reducible exact find_here | with_reducible apply find_there))))))
  obtain ⟨w5, hr5, hs5, h5⟩ := hX.puts h4'
  simp only [keyKT, K4.val] at hr5
  obtain ⟨bt, mt, vbt, hve, _⟩ := h5.thing_open
  subst hve
  have H5 := Lib.hid h5
  have HR5 := Lib.hid hr5
  clear h4 h4' h5 hxk hr5 hs5
  go_wp2_with fail
  refine wp_region_calm [] [0, 1, 2, 3, 4, 5] [6] (by kernel_rfl) (by kernel_rfl) ?_
  simp only [pickL, List.getElem?_cons_zero, List.getElem?_cons_succ]
  repeat (refine wpPlain_step _ (Or.inl ⟨by rfl, by intro w; go_simp; try with_reducible rfl⟩) ?_; (try simp only [Act.put, List.setIfInBounds_toArray, List.set_cons_zero, List.set_cons_succ]))
  refine wpPlain_nil ?_
  repeat still_step
  refine wpStill_nil ?_
  have hr5 := HR5.out
  go_wp2_with fail
  refine NoPanic.normal ?_
  clear c5 x0 x1 x2 x3 hr5
  have h5 : St W I w5 (keysHP (.slice Av ks.length cv) ks :: HK :: HP.pt (w.heap.size + 1) (.cells #[.int .i64 k0, .int .i64 k1] 113) :: storeBlk p S B :: HP.pt w.heap.size (.cells #[.int .i64 k0, .int .i64 k1, .int .i64 k2, .int .i64 k3] 27) :: thingHP (.pointer (some ⟨bt, 0, none⟩)) t :: HP.hole keyKT thingHP B.m1 ⟨k0, k1, k2, k3⟩ (.pointer (some ⟨bt, 0, none⟩)) (del ⟨k0, k1, k2, k3⟩ S.seen) :: dryHP B S :: lateHP B S :: l) := H5.out.perm (by ((try simp only [List.eraseIdx_cons_succ, List.eraseIdx_cons_zero, List.cons_append, List.nil_append]); repeat (first | with_reducible exact List.Perm.refl _ | (apply perm_step; (· repeat (first | with_reducible exact find_here | with_reducible apply find_there))))))
  have hxk := (h5.pull 4 _ rfl).heap
  have x0 := cells_of hxk 0
  have x1 := cells_of hxk 1
  have x2 := cells_of hxk 2
  have x3 := cells_of hxk 3
  simp at x0 x1 x2 x3
  clear hxk
  have c8 := (h5.pull 3 _ rfl).blk 8
  have hg := (h5.pull 2 _ rfl).heap
  have g0 := cells_of hg 0
  have g1 := cells_of hg 1
  simp [storeCells] at c8 g0 g1
  have H5' := Lib.hid h5
  have z1 : IntKind.i64.wrap ((i : Int) + 1) = (i : Int) + 1 := by
    have := HPL.out.le
    rw [IntKind.wrap_i64]; omega
  clear h5 hg
  go_wp2_with fail
  refine wp_region_keep (fun w' => w'.cell? ⟨p, 8, none⟩ = some (.map (some B.m4)) ∧ w'.cell? ⟨w.heap.size + 1, 0, none⟩ = some (.int .i64 k0) ∧ w'.cell? ⟨w.heap.size + 1, 1, none⟩ = some (.int .i64 k1) ∧ w'.cell? ⟨w.heap.size, 0, none⟩ = some (.int .i64 k0) ∧ w'.cell? ⟨w.heap.size, 1, none⟩ = some (.int .i64 k1) ∧ w'.cell? ⟨w.heap.size, 2, none⟩ = some (.int .i64 k2) ∧ w'.cell? ⟨w.heap.size, 3, none⟩ = some (.int .i64 k3)) [0, 1, 2, 3, 4, 5, 6, 7] [8, 9] [10] (by kernel_rfl) (by kernel_rfl) (by (exact ⟨c8, g0, g1, x0, x1, x2, x3⟩)) ?_
  simp only [pickL, List.getElem?_cons_zero, List.getElem?_cons_succ]
  repeat (refine wpFirst_step _ (Or.inl ⟨by rfl, by (intro w hSw; (try dsimp only at hSw); go_simp; try with_reducible rfl)⟩) ?_; (try simp only [Act.put, List.setIfInBounds_toArray, List.set_cons_zero, List.set_cons_succ]))
  refine wpFirst_nil ?_
  unfold wpHold
  go_wp2_with fail
  have hs0 := (H5'.out.alloc (.cells #[.int .i64 k0, .int .i64 k1, .int .i64 k2, .int .i64 k3] 27)).drew
  obtain ⟨wn, hwn⟩ : ∃ wn, (w5.alloc (.cells #[.int .i64 k0, .int .i64 k1, .int .i64 k2, .int .i64 k3] 27)).drew = wn := ⟨_, rfl⟩
  rw [hwn] at hs0 ⊢
  clear hwn
  have c8b := (hs0.pull 4 _ rfl).blk 8
  have hgb := (hs0.pull 3 _ rfl).heap
  have hkb := (hs0.pull 5 _ rfl).heap
  have g0b := cells_of hgb 0
  have g1b := cells_of hgb 1
  have x0b := cells_of hkb 0
  have x1b := cells_of hkb 1
  have x2b := cells_of hkb 2
  have x3b := cells_of hkb 3
  simp [storeCells] at c8b g0b g1b x0b x1b x2b x3b
  have HS0 := Lib.hid hs0
  clear hs0 hgb hkb
  refine holdPost_normal ⟨c8b, g0b, g1b, x0b, x1b, x2b, x3b⟩ ?_
  unfold wpHold
  clear c8 g0 g1 x0 x1 x2 x3
  go_wp2_with fail
  refine (insert_spec ⟨k0, k1, k2, k3⟩ HS0.out (by omega) HPL.out.le).mono ?_
  rintro e w6 ⟨v6, rfl, h6⟩
  rw [place_ins HPL.out] at h6
  obtain ⟨A6, c6, rfl⟩ := is_slice h6.row_owns
  obtain ⟨w7, hr7, hs7, h7⟩ := HP'.out I w6 _ _ _ h6
  simp only [grpKT, G2.val] at hr7
  have c8' := (h6.pull 3 _ rfl).blk 8
  have hg' := (h6.pull 2 _ rfl).heap
  have hk' := (h6.pull 4 _ rfl).heap
  have g0' := cells_of hg' 0
  have g1' := cells_of hg' 1
  have x0' := cells_of hk' 0
  have x1' := cells_of hk' 1
  have x2' := cells_of hk' 2
  have x3' := cells_of hk' 3
  simp [storeCells] at c8' g0' g1' x0' x1' x2' x3'
  have H7 := Lib.hid h7
  have HR7 := Lib.hid hr7
  clear h6 h7 hr7 hg' hk' z1 c8b g0b g1b x0b x1b x2b x3b
  go_wp2_with fail
  refine holdPost_normal ⟨c8', g0', g1', x0', x1', x2', x3'⟩ ?_
  have hr7 := HR7.out
  unfold wpHold
  go_wp2_with fail
  refine NoPanic.normal ?_
  clear hr7 c8' g0' g1' x0' x1' x2' x3'
  go_wp2_with fail
  have h8 : St W I w7 (storeBlk p S B :: thingHP (.pointer (some ⟨bt, 0, none⟩)) t :: HP.hole keyKT thingHP B.m1 ⟨k0, k1, k2, k3⟩ (.pointer (some ⟨bt, 0, none⟩)) (del ⟨k0, k1, k2, k3⟩ S.seen) :: dryHP B S :: lateHP B S :: HP.mapOf grpKT keysHP B.m4 (put ⟨k0, k1⟩ (addK ⟨k0, k1, k2, k3⟩ ks) S.keys) :: l) := ((H7.out.pull 1 _ rfl).drop.pull 2 _ rfl).drop.perm (by ((try simp only [List.eraseIdx_cons_succ, List.eraseIdx_cons_zero, List.cons_append, List.nil_append]); repeat (first | with_reducible exact List.Perm.refl _ | (apply perm_step; (· repeat (first | with_reducible exact find_here | with_reducible apply find_there))))))
  have c1 := h8.blk 1
  simp [storeCells] at c1
  have H8 := Lib.hid h8
  clear h8
  refine wp_region_keep (fun w' => w'.cell? ⟨p, 1, none⟩ = some (.int .i64 S.used)) [0, 1, 2, 3, 4, 6] [5, 7] [8, 9, 10, 11] (by kernel_rfl) (by kernel_rfl) (by (exact c1)) ?_
  simp only [pickL, List.getElem?_cons_zero, List.getElem?_cons_succ]
  repeat (refine wpFirst_step _ (Or.inl ⟨by rfl, by (intro w hSw; (try dsimp only at hSw); go_simp; try with_reducible rfl)⟩) ?_; (try simp only [Act.put, List.setIfInBounds_toArray, List.set_cons_zero, List.set_cons_succ]))
  refine wpFirst_nil ?_
  unfold wpHold
  go_wp2_with fail
  refine (size_spec (H8.out.drew.pull 1 _ rfl) (by have := ht.1; omega)).mono ?_
  rintro e w9 ⟨rfl, h9⟩
  have c1' := (h9.pull 1 _ rfl).blk 1
  have f1 := frozen_of_row (h9.pull 1 _ rfl).heap 1
  simp [storeCells] at c1'
  have H9 := Lib.hid h9
  clear h9
  go_wp2_with fail
  refine holdPost_normal c1' ?_
  unfold wpHold
  go_wp2_with fail
  refine holdPost_normal c1' ?_
  unfold wpHold
  go_wp2_with fail
  refine NoPanic.normal ?_
  clear c1 f1 c1'
  go_wp2_with fail
  go_end0
  refine ⟨rfl, ?_⟩
  have h9 : St W I w9 (storeBlk p S B :: thingHP (.pointer (some ⟨bt, 0, none⟩)) t :: HP.hole keyKT thingHP B.m1 ⟨k0, k1, k2, k3⟩ (.pointer (some ⟨bt, 0, none⟩)) (del ⟨k0, k1, k2, k3⟩ S.seen) :: dryHP B S :: lateHP B S :: HP.mapOf grpKT keysHP B.m4 (put ⟨k0, k1⟩ (addK ⟨k0, k1, k2, k3⟩ ks) S.keys) :: l) := H9.out.perm (by ((try simp only [List.eraseIdx_cons_succ, List.eraseIdx_cons_zero, List.cons_append, List.nil_append]); repeat (first | with_reducible exact List.Perm.refl _ | (apply perm_step; (· repeat (first | with_reducible exact find_here | with_reducible apply find_there))))))
  have h10 := h9.setCell 1 (.int .i64 (IntKind.i64.wrap (S.used + (t.size - was))))
  have e1 : wrap64 (S.used + wrap64 (wrap64 t.size - was)) = IntKind.i64.wrap (S.used + (t.size - was)) := by simp only [wrap64, IntKind.wrap_i64]; omega
  rw [e1]
  have hks3 := HKS.out
  have hkm3 := HKM.out
  rw [hks3] at hkm3
  have e2 : keyHP B (showS S ⟨k0, k1, k2, k3⟩ was (some t)) = HP.mapOf grpKT keysHP B.m4 (put ⟨k0, k1⟩ (addK ⟨k0, k1, k2, k3⟩ ks) S.keys) := by
    unfold keyHP showS
    (simp only [hkm3, if_true, if_false, hks3]) <;> rfl
  rw [e2]
  exact h10
/-- An object is shown: it stays in sight. -/
theorem show_there_at {B : SB} {X : HP} {v : Value} {t : TS} (ht : t.small) (k : K4) (hX : Spot k B.m1 S.seen X) (was : Int) (h : St W I w (storeBlk p S B :: X :: dryHP B S :: lateHP B S :: keyHP B S :: thingHP v t :: l)) (hr : Rising (keysAt S k.grp)) (hn : (keysAt S k.grp).length ≤ 100000) :
    Calls Try.prog 59 #[.pointer (some ⟨p, 0, none⟩), k.val, .int .i64 was, v] w fun e w' => e = .returned (.tuple #[]) ∧ St W I w' (storeBlk p (showS S k was (some t)) B :: thingHP v t :: HP.hole keyKT thingHP B.m1 k v (del k S.seen) :: dryHP B (showS S k was (some t)) :: lateHP B (showS S k was (some t)) :: keyHP B (showS S k was (some t)) :: l) := by
  by_cases hk : k ∈ keysAt S k.grp
  · exact show_there_in ht k hX was h hr hn hk
  · exact show_there_out ht k hX was h hr hn hk
/-- What is shown of a key behind a deed. -/
theorem show_at {B : SB} {X : HP} {v : Value} {o : Option TS} (ho : smallO o) (k : K4) (hX : Spot k B.m1 S.seen X) (was : Int) (h : St W I w (storeBlk p S B :: X :: dryHP B S :: lateHP B S :: keyHP B S :: optHP v o :: l)) (hr : Rising (keysAt S k.grp)) (hn : (keysAt S k.grp).length ≤ 100000) :
    Calls Try.prog 59 #[.pointer (some ⟨p, 0, none⟩), k.val, .int .i64 was, v] w fun e w' => e = .returned (.tuple #[]) ∧ St W I w' (storeBlk p (showS S k was o) B :: seenHP B (showS S k was o) :: dryHP B (showS S k was o) :: lateHP B (showS S k was o) :: keyHP B (showS S k was o) :: l) := by
  cases o with
  | none =>
    obtain ⟨rfl, h1⟩ := (h.pull 5 _ rfl).pure_open
    by_cases hk : k ∈ keysAt S k.grp
    · exact show_gone_in k hX was h1 hr hn hk
    · exact show_gone_out k hX was h1 hr hn hk
  | some t =>
    refine (show_there_at ho k hX was h hr hn).mono ?_
    rintro e w' ⟨rfl, h1⟩
    exact ⟨rfl, (St.hole_back (h1.perm (m := thingHP v t :: HP.hole keyKT thingHP B.m1 k v (del k S.seen) :: storeBlk p (showS S k was (some t)) B :: dryHP B (showS S k was (some t)) :: lateHP B (showS S k was (some t)) :: keyHP B (showS S k was (some t)) :: l) (by ((try simp only [List.eraseIdx_cons_succ, List.eraseIdx_cons_zero, List.cons_append, List.nil_append]); repeat (first | with_reducible exact List.Perm.refl _ | (apply perm_step; (· repeat (first | with_reducible exact find_here | with_reducible apply find_there)))))))).pull 1 _ rfl⟩
theorem show_spec {B : SB} {v : Value} {o : Option TS} (ho : smallO o) (k : K4) (was : Int) (h : St W I w (storeBlk p S B :: seenHP B S :: dryHP B S :: lateHP B S :: keyHP B S :: optHP v o :: l)) (hr : Rising (keysAt S k.grp)) (hn : (keysAt S k.grp).length ≤ 100000) :
    Calls Try.prog 59 #[.pointer (some ⟨p, 0, none⟩), k.val, .int .i64 was, v] w fun e w' => e = .returned (.tuple #[]) ∧ St W I w' (storeBlk p (showS S k was o) B :: seenHP B (showS S k was o) :: dryHP B (showS S k was o) :: lateHP B (showS S k was o) :: keyHP B (showS S k was o) :: l) :=
  show_at ho k (spot_seen k B.m1 S.seen) was h hr hn
end
end Go.Proofs.Ytnokhjhhadnckaa
