/- (*Store).show. -/
import Derived.Test.YtnokhjhhadnckaaShowFns
import Derived.Test.YtnokhjhhadnckaaRegions
set_option linter.unusedSimpArgs false
set_option linter.unusedVariables false
set_option linter.unusedSectionVars false
namespace Go.Proofs.Ytnokhjhhadnckaa
open Go.RowKit
section
variable {W w : World} {I : Hp} {l : List HP} {p : Nat} {S : Str}
set_option maxRecDepth 4000
set_option maxHeartbeats 2000000
/-- What a map owes to what is shown at a key. -/
structure Spot (k : K4) (m : Nat) (L : List (K4 × TS)) (X : HP) : Prop where
  dels : ∀ {W w : World} {I : Hp} {l : List HP} (ty : TypeId), St W I w (X :: l) → ∃ w', (Builtin.delete_ #[85, 27] ty #[.map (some m), keyKT.kv k]).run Try.prog w = .ok (.tuple #[]) w' ∧ w'.heap.size = w.heap.size ∧ St W I w' (HP.mapOf keyKT thingHP m (del k L) :: l)
  puts : ∀ {W w : World} {I : Hp} {l : List HP} {v : Value} {t : TS}, St W I w (thingHP v t :: X :: l) → ∃ w', (Instr.mapUpdate 85 (.map (some m)) (keyKT.kv k) v).run Try.prog w = .ok () w' ∧ w'.heap.size = w.heap.size ∧ St W I w' (thingHP v t :: HP.hole keyKT thingHP m k v (del k L) :: l)
theorem spot_seen (k : K4) (m : Nat) (L : List (K4 × TS)) : Spot k m L (HP.mapOf keyKT thingHP m L) :=
  ⟨fun ty h => h.mapOf_del (ty := ty) Try.underlying85 k, fun h => h.mapOf_put_hole Try.underlying85 k⟩
theorem hole_put_hole {P : Program} {kt : TypeId} {K α : Type} [DecidableEq K] {T : KT P kt K} {own : Value → α → HP} {W w : World} {I : Hp} {l : List HP} {b : Nat} {L : List (K × α)} {a : K} {u : Value} (h : St W I w (HP.hole T own b a u L :: l)) {t e : TypeId} (ht : P.underlying t = some (.map kt e)) (v : Value) :
    ∃ w', (Instr.mapUpdate t (.map (some b)) (T.kv a) v).run P w = .ok () w' ∧ w'.heap.size = w.heap.size ∧ St W I w' (HP.hole T own b a v L :: l) := by
  obtain ⟨M, hp, hne, h⟩ := h.hole_open
  have hn := h.map_nodup
  obtain ⟨w', hrun, hsz, h⟩ := h.map_put ht a v
  refine ⟨w', hrun, hsz, ?_⟩
  have hdel : del a ((a, u) :: M.map fst3) = M.map fst3 := by
    unfold del
    simp only [List.filter_cons, ne_eq, not_true_eq_false, decide_false, Bool.false_eq_true, if_false]
    exact del_of_none (get_none.2 fun p hp' e => (List.nodup_cons.1 hn).1 (List.mem_map.2 ⟨p, hp', e⟩))
  unfold put at h
  rw [hdel] at h
  exact St.ex_shut M (St.all_shut (St.pure_shut ⟨hp, hne⟩ h))
theorem spot_hole (k : K4) (m : Nat) (u : Value) (L : List (K4 × TS)) : Spot k m L (HP.hole keyKT thingHP m k u (del k L)) :=
  ⟨fun ty h => h.hole_del (ty := ty) Try.underlying85, fun h => by
    obtain ⟨w', h1, h2, h3⟩ := hole_put_hole (h.perm (List.Perm.swap _ _ _)) Try.underlying85 _
    exact ⟨w', h1, h2, h3.perm (List.Perm.swap _ _ _)⟩⟩
theorem size_opt {v : Value} {o : Option TS} (h : St W I w (optHP v o :: l)) (ht : smallO o) :
    Calls Try.prog 60 #[v] w fun e w' => e = .returned (.int .i64 (IntKind.i64.wrap (sizeO o))) ∧ St W I w' (optHP v o :: l) := by
  cases o with
  | none =>
    obtain ⟨rfl, h1⟩ := h.pure_open
    refine (size_nil w).mono ?_
    rintro e w' ⟨rfl, rfl⟩
    exact ⟨by rw [show IntKind.i64.wrap (sizeO none) = 0 by rfl], h⟩
  | some t => exact size_spec h (by have := ht.1; omega)
theorem show_gone_in {B : SB} {X : HP} (k : K4) (hX : Spot k B.m1 S.seen X) (was : Int) (h : St W I w (storeBlk p S B :: X :: dryHP B S :: lateHP B S :: keyHP B S :: l)) (hr : Rising (keysAt S k.grp)) (hn : (keysAt S k.grp).length ≤ 100000) (hk : k ∈ keysAt S k.grp) :
    Calls Try.prog 59 #[.pointer (some ⟨p, 0, none⟩), k.val, .int .i64 was, .pointer none] w fun e w' => e = .returned (.tuple #[]) ∧ St W I w' (storeBlk p (showS S k was none) B :: seenHP B (showS S k was none) :: dryHP B S :: lateHP B S :: keyHP B (showS S k was none) :: l) := by
  obtain ⟨k0, k1, k2, k3⟩ := k
  unfold K4.val
  have h2 := (h.alloc (.cells #[.int .i64 k0, .int .i64 k1, .int .i64 k2, .int .i64 k3] 27)).alloc (.cells #[.int .i64 k0, .int .i64 k1] 113)
  rw [show (w.alloc (.cells #[.int .i64 k0, .int .i64 k1, .int .i64 k2, .int .i64 k3] 27)).heap.size = w.heap.size + 1 by simp] at h2
  obtain ⟨w2, hw2⟩ : ∃ w2, (w.alloc (.cells #[.int .i64 k0, .int .i64 k1, .int .i64 k2, .int .i64 k3] 27)).alloc (.cells #[.int .i64 k0, .int .i64 k1] 113) = w2 := ⟨_, rfl⟩
  rw [hw2] at h2
  have HW2 := Lib.hid hw2
  clear hw2
  have c8 := (h2.pull 2 _ rfl).blk 8
  have g0 := cells_of h2.heap 0
  have g1 := cells_of h2.heap 1
  simp [storeCells] at c8 g0 g1
  obtain ⟨vk, HK, hlk, h3, hback, hput⟩ := (h2.drew.pull 6 _ rfl).look_or (x0 := []) Try.underlying87 (fun w => by kernel_rfl) (fun I w l h => h.row_nil _ _) ⟨k0, k1⟩
  have hlk := hlk _ (Below.refl _ _) false
  simp only [grpKT, G2.val] at hlk
  have hks : (get (⟨k0, k1⟩ : G2) S.keys).getD [] = keysAt S (K4.mk k0 k1 k2 k3).grp := rfl
  rw [hks] at h3 hback
  have H2 := Lib.hid h2
  have H3 := Lib.hid h3
  have HB := Lib.hid hback
  have HP' := Lib.hid hput
  obtain ⟨ks, hks2⟩ : ∃ ks, ks = keysAt S (K4.mk k0 k1 k2 k3).grp := ⟨_, rfl⟩
  have HKS := Lib.hid hks2
  rw [← hks2] at H3 HB hr hn hk
  clear hks hks2 h2 h3 hback hput
  have hx2 := (H2.out.pull 1 _ rfl).heap
  obtain ⟨Av, cv, rfl⟩ := is_slice H3.out.row_owns
  have HX2 := Lib.hid hx2
  have HR := Lib.hid hr
  have HKM := Lib.hid hk
  clear hx2 h hr hk
  go_enter Try.func59, Try.ntmps59
  go_wp2_with fail
  rw [HW2.out]
  refine wp_region_calm [] [0, 1, 2, 3, 4, 5, 6] [] (by kernel_rfl) (by kernel_rfl) ?_
  simp only [pickL, List.getElem?_cons_zero, List.getElem?_cons_succ]
  repeat (refine wpPlain_step _ (Or.inl ⟨by rfl, by intro w; go_simp; try with_reducible rfl⟩) ?_; (try simp only [Act.put, List.setIfInBounds_toArray, List.set_cons_zero, List.set_cons_succ]))
  refine wpPlain_nil ?_
  repeat still_step
  refine wpStill_nil ?_
  go_wp2_with fail
  refine NoPanic.normal ?_
  have x0 := cells_of (w := w2.drew) HX2.out 0
  have x1 := cells_of (w := w2.drew) HX2.out 1
  have x2 := cells_of (w := w2.drew) HX2.out 2
  have x3 := cells_of (w := w2.drew) HX2.out 3
  simp at x0 x1 x2 x3
  clear hlk c8 g0 g1
  go_wp2_with fail
  refine (search_spec ⟨k0, k1, k2, k3⟩ H3.out (by omega) HR.out).mono ?_
  rintro e w4 ⟨hb4, i, hpl, rfl⟩
  have HPL := Lib.hid hpl
  have hin : decide (ks[i]? = some ⟨k0, k1, k2, k3⟩) = true := by
    simpa using (place_mem HR.out HPL.out).2 HKM.out
  rw [hin]
  have h4 := H3.out.keep hb4
  have H4 := Lib.hid h4
  have HIN := Lib.hid hin
  clear hb4 hpl h4 hin x0 x1 x2 x3
  have h4 : St W I w4 (keysHP (.slice Av ks.length cv) ks :: HK :: HP.pt (w.heap.size + 1) (.cells #[.int .i64 k0, .int .i64 k1] 113) :: HP.pt w.heap.size (.cells #[.int .i64 k0, .int .i64 k1, .int .i64 k2, .int .i64 k3] 27) :: storeBlk p S B :: X :: dryHP B S :: lateHP B S :: l) := H4.out
  have c5 := (h4.pull 4 _ rfl).blk 5
  have hxk := (h4.pull 3 _ rfl).heap
  have x0 := cells_of hxk 0
  have x1 := cells_of hxk 1
  have x2 := cells_of hxk 2
  have x3 := cells_of hxk 3
  simp [storeCells] at c5 x0 x1 x2 x3
  obtain ⟨w5, hr5, hs5, h5⟩ := hX.dels 0 (h4.drew.pull 5 _ rfl)
  simp only [keyKT, K4.val] at hr5
  have H5 := Lib.hid h5
  have HR5 := Lib.hid hr5
  clear h4 h5 hxk hr5
  go_wp2_with fail
  refine wp_region_calm [] [0, 1, 2, 3, 4] [5] (by kernel_rfl) (by kernel_rfl) ?_
  simp only [pickL, List.getElem?_cons_zero, List.getElem?_cons_succ]
  repeat (refine wpPlain_step _ (Or.inl ⟨by rfl, by intro w; go_simp; try with_reducible rfl⟩) ?_; (try simp only [Act.put, List.setIfInBounds_toArray, List.set_cons_zero, List.set_cons_succ]))
  refine wpPlain_nil ?_
  repeat still_step
  refine wpStill_nil ?_
  have hr5 := HR5.out
  go_wp2_with fail
  refine NoPanic.normal ?_
  clear c5 x0 x1 x2 x3 hr5
  have h5 : St W I w5 (keysHP (.slice Av ks.length cv) ks :: HK :: HP.pt (w.heap.size + 1) (.cells #[.int .i64 k0, .int .i64 k1] 113) :: storeBlk p S B :: HP.mapOf keyKT thingHP B.m1 (del ⟨k0, k1, k2, k3⟩ S.seen) :: dryHP B S :: lateHP B S :: l) := (H5.out.pull 4 _ rfl).drop.perm (by ((try simp only [List.eraseIdx_cons_succ, List.eraseIdx_cons_zero, List.cons_append, List.nil_append]); repeat (first | with_reducible exact List.Perm.refl _ | (apply perm_step; (· repeat (first | with_reducible exact find_here | with_reducible apply find_there))))))
  have c8 := (h5.pull 3 _ rfl).blk 8
  have hg := (h5.pull 2 _ rfl).heap
  have g0 := cells_of hg 0
  have g1 := cells_of hg 1
  simp [storeCells] at c8 g0 g1
  have H5' := Lib.hid h5
  have z1 : IntKind.i64.wrap ((i : Int) + 1) = (i : Int) + 1 := by
    have := HPL.out.le
    rw [IntKind.wrap_i64]; omega
  clear h5 hg
  go_wp2_with fail
  refine wp_region_keep (fun w' => w'.cell? ⟨p, 8, none⟩ = some (.map (some B.m4)) ∧ w'.cell? ⟨w.heap.size + 1, 0, none⟩ = some (.int .i64 k0) ∧ w'.cell? ⟨w.heap.size + 1, 1, none⟩ = some (.int .i64 k1)) [0, 1, 2, 3, 4, 5, 6, 7, 8] [9] [10] (by kernel_rfl) (by kernel_rfl) (by (exact ⟨c8, g0, g1⟩)) ?_
  simp only [pickL, List.getElem?_cons_zero, List.getElem?_cons_succ]
  repeat (refine wpFirst_step _ (Or.inl ⟨by rfl, by (intro w hSw; (try dsimp only at hSw); go_simp; try with_reducible rfl)⟩) ?_; (try simp only [Act.put, List.setIfInBounds_toArray, List.set_cons_zero, List.set_cons_succ]))
  refine wpFirst_nil ?_
  unfold wpHold
  go_wp2_with fail
  have hilt : i < ks.length := (List.getElem?_eq_some_iff.1 ((place_mem HR.out HPL.out).2 HKM.out)).1
  refine (delete_spec H5'.out.drew (by omega) hilt).mono ?_
  rintro e w6 ⟨v6, rfl, h6⟩
  rw [place_rem HR.out ((place_mem HR.out HPL.out).2 HKM.out)] at h6
  obtain ⟨A6, c6, rfl⟩ := is_slice h6.row_owns
  obtain ⟨w7, hr7, hs7, h7⟩ := HP'.out I w6 _ _ _ h6
  simp only [grpKT, G2.val] at hr7
  have c8' := (h6.pull 3 _ rfl).blk 8
  have hg' := (h6.pull 2 _ rfl).heap
  have g0' := cells_of hg' 0
  have g1' := cells_of hg' 1
  simp [storeCells] at c8' g0' g1'
  have H7 := Lib.hid h7
  have HR7 := Lib.hid hr7
  clear h6 h7 hr7 hg' z1 c8 g0 g1 hilt
  go_wp2_with fail
  refine holdPost_normal ⟨c8', g0', g1'⟩ ?_
  have hr7 := HR7.out
  unfold wpHold
  go_wp2_with fail
  refine NoPanic.normal ?_
  clear hr7 c8' g0' g1'
  go_wp2_with fail
  have h8 : St W I w7 (storeBlk p S B :: HP.mapOf keyKT thingHP B.m1 (del ⟨k0, k1, k2, k3⟩ S.seen) :: dryHP B S :: lateHP B S :: HP.mapOf grpKT keysHP B.m4 (put ⟨k0, k1⟩ (remK ⟨k0, k1, k2, k3⟩ ks) S.keys) :: l) := (H7.out.pull 1 _ rfl).drop.perm (by ((try simp only [List.eraseIdx_cons_succ, List.eraseIdx_cons_zero, List.cons_append, List.nil_append]); repeat (first | with_reducible exact List.Perm.refl _ | (apply perm_step; (· repeat (first | with_reducible exact find_here | with_reducible apply find_there))))))
  have c1 := h8.blk 1
  have f1 := frozen_of_row h8.heap 1
  simp [storeCells] at c1
  have H8 := Lib.hid h8
  clear h8
  refine wp_region_keep (fun w' => w'.cell? ⟨p, 1, none⟩ = some (.int .i64 S.used)) [0, 1, 2, 3, 4, 6] [5, 7] [8, 9, 10, 11] (by kernel_rfl) (by kernel_rfl) (by (exact c1)) ?_
  simp only [pickL, List.getElem?_cons_zero, List.getElem?_cons_succ]
  repeat (refine wpFirst_step _ (Or.inl ⟨by rfl, by (intro w hSw; (try dsimp only at hSw); go_simp; try with_reducible rfl)⟩) ?_; (try simp only [Act.put, List.setIfInBounds_toArray, List.set_cons_zero, List.set_cons_succ]))
  refine wpFirst_nil ?_
  unfold wpHold
  go_wp2_with fail
  refine (size_nil _).mono ?_
  rintro e w9 ⟨rfl, rfl⟩
  go_wp2_with fail
  refine holdPost_normal c1 ?_
  unfold wpHold
  go_wp2_with fail
  refine holdPost_normal c1 ?_
  unfold wpHold
  go_wp2_with fail
  refine NoPanic.normal ?_
  clear c1 f1
  go_wp2_with fail
  go_end0
  refine ⟨rfl, ?_⟩
  have h9 := H8.out.drew.setCell 1 (.int .i64 (IntKind.i64.wrap (S.used + (0 - was))))
  have e1 : wrap64 (S.used + wrap64 (-was)) = IntKind.i64.wrap (S.used + (0 - was)) := by simp only [wrap64, IntKind.wrap_i64]; omega
  rw [e1]
  have hks3 := HKS.out
  have hkm3 := HKM.out
  rw [hks3] at hkm3
  have e2 : keyHP B (showS S ⟨k0, k1, k2, k3⟩ was none) = HP.mapOf grpKT keysHP B.m4 (put ⟨k0, k1⟩ (remK ⟨k0, k1, k2, k3⟩ ks) S.keys) := by
    unfold keyHP showS
    (simp only [hkm3, if_true, if_false, hks3]) <;> rfl
  rw [e2]
  exact h9
theorem show_gone_out {B : SB} {X : HP} (k : K4) (hX : Spot k B.m1 S.seen X) (was : Int) (h : St W I w (storeBlk p S B :: X :: dryHP B S :: lateHP B S :: keyHP B S :: l)) (hr : Rising (keysAt S k.grp)) (hn : (keysAt S k.grp).length ≤ 100000) (hk : k ∉ keysAt S k.grp) :
    Calls Try.prog 59 #[.pointer (some ⟨p, 0, none⟩), k.val, .int .i64 was, .pointer none] w fun e w' => e = .returned (.tuple #[]) ∧ St W I w' (storeBlk p (showS S k was none) B :: seenHP B (showS S k was none) :: dryHP B S :: lateHP B S :: keyHP B (showS S k was none) :: l) := by
  obtain ⟨k0, k1, k2, k3⟩ := k
  unfold K4.val
  have h2 := (h.alloc (.cells #[.int .i64 k0, .int .i64 k1, .int .i64 k2, .int .i64 k3] 27)).alloc (.cells #[.int .i64 k0, .int .i64 k1] 113)
  rw [show (w.alloc (.cells #[.int .i64 k0, .int .i64 k1, .int .i64 k2, .int .i64 k3] 27)).heap.size = w.heap.size + 1 by simp] at h2
  obtain ⟨w2, hw2⟩ : ∃ w2, (w.alloc (.cells #[.int .i64 k0, .int .i64 k1, .int .i64 k2, .int .i64 k3] 27)).alloc (.cells #[.int .i64 k0, .int .i64 k1] 113) = w2 := ⟨_, rfl⟩
  rw [hw2] at h2
  have HW2 := Lib.hid hw2
  clear hw2
  have c8 := (h2.pull 2 _ rfl).blk 8
  have g0 := cells_of h2.heap 0
  have g1 := cells_of h2.heap 1
  simp [storeCells] at c8 g0 g1
  obtain ⟨vk, HK, hlk, h3, hback, hput⟩ := (h2.drew.pull 6 _ rfl).look_or (x0 := []) Try.underlying87 (fun w => by kernel_rfl) (fun I w l h => h.row_nil _ _) ⟨k0, k1⟩
  have hlk := hlk _ (Below.refl _ _) false
  simp only [grpKT, G2.val] at hlk
  have hks : (get (⟨k0, k1⟩ : G2) S.keys).getD [] = keysAt S (K4.mk k0 k1 k2 k3).grp := rfl
  rw [hks] at h3 hback
  have H2 := Lib.hid h2
  have H3 := Lib.hid h3
  have HB := Lib.hid hback
  have HP' := Lib.hid hput
  obtain ⟨ks, hks2⟩ : ∃ ks, ks = keysAt S (K4.mk k0 k1 k2 k3).grp := ⟨_, rfl⟩
  have HKS := Lib.hid hks2
  rw [← hks2] at H3 HB hr hn hk
  clear hks hks2 h2 h3 hback hput
  have hx2 := (H2.out.pull 1 _ rfl).heap
  obtain ⟨Av, cv, rfl⟩ := is_slice H3.out.row_owns
  have HX2 := Lib.hid hx2
  have HR := Lib.hid hr
  have HKM := Lib.hid hk
  clear hx2 h hr hk
  go_enter Try.func59, Try.ntmps59
  go_wp2_with fail
  rw [HW2.out]
  refine wp_region_calm [] [0, 1, 2, 3, 4, 5, 6] [] (by kernel_rfl) (by kernel_rfl) ?_
  simp only [pickL, List.getElem?_cons_zero, List.getElem?_cons_succ]
  repeat (refine wpPlain_step _ (Or.inl ⟨by rfl, by intro w; go_simp; try with_reducible rfl⟩) ?_; (try simp only [Act.put, List.setIfInBounds_toArray, List.set_cons_zero, List.set_cons_succ]))
  refine wpPlain_nil ?_
  repeat still_step
  refine wpStill_nil ?_
  go_wp2_with fail
  refine NoPanic.normal ?_
  have x0 := cells_of (w := w2.drew) HX2.out 0
  have x1 := cells_of (w := w2.drew) HX2.out 1
  have x2 := cells_of (w := w2.drew) HX2.out 2
  have x3 := cells_of (w := w2.drew) HX2.out 3
  simp at x0 x1 x2 x3
  clear hlk c8 g0 g1
  go_wp2_with fail
  refine (search_spec ⟨k0, k1, k2, k3⟩ H3.out (by omega) HR.out).mono ?_
  rintro e w4 ⟨hb4, i, hpl, rfl⟩
  have HPL := Lib.hid hpl
  have hin : decide (ks[i]? = some ⟨k0, k1, k2, k3⟩) = false := by
    rw [decide_eq_false_iff_not]; exact fun q => HKM.out ((place_mem HR.out HPL.out).1 q)
  rw [hin]
  have h4 := H3.out.keep hb4
  have H4 := Lib.hid h4
  have HIN := Lib.hid hin
  clear hb4 hpl h4 hin x0 x1 x2 x3
  have h4 : St W I w4 (keysHP (.slice Av ks.length cv) ks :: HK :: HP.pt (w.heap.size + 1) (.cells #[.int .i64 k0, .int .i64 k1] 113) :: HP.pt w.heap.size (.cells #[.int .i64 k0, .int .i64 k1, .int .i64 k2, .int .i64 k3] 27) :: storeBlk p S B :: X :: dryHP B S :: lateHP B S :: l) := H4.out
  have c5 := (h4.pull 4 _ rfl).blk 5
  have hxk := (h4.pull 3 _ rfl).heap
  have x0 := cells_of hxk 0
  have x1 := cells_of hxk 1
  have x2 := cells_of hxk 2
  have x3 := cells_of hxk 3
  simp [storeCells] at c5 x0 x1 x2 x3
  obtain ⟨w5, hr5, hs5, h5⟩ := hX.dels 0 (h4.drew.pull 5 _ rfl)
  simp only [keyKT, K4.val] at hr5
  have H5 := Lib.hid h5
  have HR5 := Lib.hid hr5
  clear h4 h5 hxk hr5
  go_wp2_with fail
  refine wp_region_calm [] [0, 1, 2, 3, 4] [5] (by kernel_rfl) (by kernel_rfl) ?_
  simp only [pickL, List.getElem?_cons_zero, List.getElem?_cons_succ]
  repeat (refine wpPlain_step _ (Or.inl ⟨by rfl, by intro w; go_simp; try with_reducible rfl⟩) ?_; (try simp only [Act.put, List.setIfInBounds_toArray, List.set_cons_zero, List.set_cons_succ]))
  refine wpPlain_nil ?_
  repeat still_step
  refine wpStill_nil ?_
  have hr5 := HR5.out
  go_wp2_with fail
  refine NoPanic.normal ?_
  clear c5 x0 x1 x2 x3 hr5
  have h5 : St W I w5 (keysHP (.slice Av ks.length cv) ks :: HK :: HP.pt (w.heap.size + 1) (.cells #[.int .i64 k0, .int .i64 k1] 113) :: storeBlk p S B :: HP.mapOf keyKT thingHP B.m1 (del ⟨k0, k1, k2, k3⟩ S.seen) :: dryHP B S :: lateHP B S :: l) := (H5.out.pull 4 _ rfl).drop.perm (by ((try simp only [List.eraseIdx_cons_succ, List.eraseIdx_cons_zero, List.cons_append, List.nil_append]); repeat (first | with_reducible exact List.Perm.refl _ | (apply perm_step; (· repeat (first | with_reducible exact find_here | with_reducible apply find_there))))))
  have hbk := HB.out I w5 _ h5
  have H7 := Lib.hid hbk
  clear h5 hbk
  go_wp2_with fail
  have h8 : St W I w5 (storeBlk p S B :: HP.mapOf keyKT thingHP B.m1 (del ⟨k0, k1, k2, k3⟩ S.seen) :: dryHP B S :: lateHP B S :: HP.mapOf grpKT keysHP B.m4 S.keys :: l) := (H7.out.pull 1 _ rfl).drop.perm (by ((try simp only [List.eraseIdx_cons_succ, List.eraseIdx_cons_zero, List.cons_append, List.nil_append]); repeat (first | with_reducible exact List.Perm.refl _ | (apply perm_step; (· repeat (first | with_reducible exact find_here | with_reducible apply find_there))))))
  have c1 := h8.blk 1
  have f1 := frozen_of_row h8.heap 1
  simp [storeCells] at c1
  have H8 := Lib.hid h8
  clear h8
  refine wp_region_keep (fun w' => w'.cell? ⟨p, 1, none⟩ = some (.int .i64 S.used)) [0, 1, 2, 3, 4, 6] [5, 7] [8, 9, 10, 11] (by kernel_rfl) (by kernel_rfl) (by (exact c1)) ?_
  simp only [pickL, List.getElem?_cons_zero, List.getElem?_cons_succ]
  repeat (refine wpFirst_step _ (Or.inl ⟨by rfl, by (intro w hSw; (try dsimp only at hSw); go_simp; try with_reducible rfl)⟩) ?_; (try simp only [Act.put, List.setIfInBounds_toArray, List.set_cons_zero, List.set_cons_succ]))
  refine wpFirst_nil ?_
  unfold wpHold
  go_wp2_with fail
  refine (size_nil _).mono ?_
  rintro e w9 ⟨rfl, rfl⟩
  go_wp2_with fail
  refine holdPost_normal c1 ?_
  unfold wpHold
  go_wp2_with fail
  refine holdPost_normal c1 ?_
  unfold wpHold
  go_wp2_with fail
  refine NoPanic.normal ?_
  clear c1 f1
  go_wp2_with fail
  go_end0
  refine ⟨rfl, ?_⟩
  have h9 := H8.out.drew.setCell 1 (.int .i64 (IntKind.i64.wrap (S.used + (0 - was))))
  have e1 : wrap64 (S.used + wrap64 (-was)) = IntKind.i64.wrap (S.used + (0 - was)) := by simp only [wrap64, IntKind.wrap_i64]; omega
  rw [e1]
  have hks3 := HKS.out
  have hkm3 := HKM.out
  rw [hks3] at hkm3
  have e2 : keyHP B (showS S ⟨k0, k1, k2, k3⟩ was none) = HP.mapOf grpKT keysHP B.m4 S.keys := by
    unfold keyHP showS
    (simp only [hkm3, if_true, if_false, hks3]) <;> rfl
  rw [e2]
  exact h9
theorem show_there_in {B : SB} {X : HP} {v : Value} {t : TS} (ht : t.small) (k : K4) (hX : Spot k B.m1 S.seen X) (was : Int) (h : St W I w (storeBlk p S B :: X :: dryHP B S :: lateHP B S :: keyHP B S :: thingHP v t :: l)) (hr : Rising (keysAt S k.grp)) (hn : (keysAt S k.grp).length ≤ 100000) (hk : k ∈ keysAt S k.grp) :
    Calls Try.prog 59 #[.pointer (some ⟨p, 0, none⟩), k.val, .int .i64 was, v] w fun e w' => e = .returned (.tuple #[]) ∧ St W I w' (storeBlk p (showS S k was (some t)) B :: thingHP v t :: HP.hole keyKT thingHP B.m1 k v (del k S.seen) :: dryHP B S :: lateHP B S :: keyHP B (showS S k was (some t)) :: l) := by
  obtain ⟨k0, k1, k2, k3⟩ := k
  unfold K4.val
  have h2 := (h.alloc (.cells #[.int .i64 k0, .int .i64 k1, .int .i64 k2, .int .i64 k3] 27)).alloc (.cells #[.int .i64 k0, .int .i64 k1] 113)
  rw [show (w.alloc (.cells #[.int .i64 k0, .int .i64 k1, .int .i64 k2, .int .i64 k3] 27)).heap.size = w.heap.size + 1 by simp] at h2
  obtain ⟨w2, hw2⟩ : ∃ w2, (w.alloc (.cells #[.int .i64 k0, .int .i64 k1, .int .i64 k2, .int .i64 k3] 27)).alloc (.cells #[.int .i64 k0, .int .i64 k1] 113) = w2 := ⟨_, rfl⟩
  rw [hw2] at h2
  have HW2 := Lib.hid hw2
  clear hw2
  have c8 := (h2.pull 2 _ rfl).blk 8
  have g0 := cells_of h2.heap 0
  have g1 := cells_of h2.heap 1
  simp [storeCells] at c8 g0 g1
  obtain ⟨vk, HK, hlk, h3, hback, hput⟩ := (h2.drew.pull 6 _ rfl).look_or (x0 := []) Try.underlying87 (fun w => by kernel_rfl) (fun I w l h => h.row_nil _ _) ⟨k0, k1⟩
  have hlk := hlk _ (Below.refl _ _) false
  simp only [grpKT, G2.val] at hlk
  have hks : (get (⟨k0, k1⟩ : G2) S.keys).getD [] = keysAt S (K4.mk k0 k1 k2 k3).grp := rfl
  rw [hks] at h3 hback
  have H2 := Lib.hid h2
  have H3 := Lib.hid h3
  have HB := Lib.hid hback
  have HP' := Lib.hid hput
  obtain ⟨ks, hks2⟩ : ∃ ks, ks = keysAt S (K4.mk k0 k1 k2 k3).grp := ⟨_, rfl⟩
  have HKS := Lib.hid hks2
  rw [← hks2] at H3 HB hr hn hk
  clear hks hks2 h2 h3 hback hput
  have hx2 := (H2.out.pull 1 _ rfl).heap
  obtain ⟨Av, cv, rfl⟩ := is_slice H3.out.row_owns
  have HX2 := Lib.hid hx2
  have HR := Lib.hid hr
  have HKM := Lib.hid hk
  clear hx2 h hr hk
  go_enter Try.func59, Try.ntmps59
  go_wp2_with fail
  rw [HW2.out]
  refine wp_region_calm [] [0, 1, 2, 3, 4, 5, 6] [] (by kernel_rfl) (by kernel_rfl) ?_
  simp only [pickL, List.getElem?_cons_zero, List.getElem?_cons_succ]
  repeat (refine wpPlain_step _ (Or.inl ⟨by rfl, by intro w; go_simp; try with_reducible rfl⟩) ?_; (try simp only [Act.put, List.setIfInBounds_toArray, List.set_cons_zero, List.set_cons_succ]))
  refine wpPlain_nil ?_
  repeat still_step
  refine wpStill_nil ?_
  go_wp2_with fail
  refine NoPanic.normal ?_
  have x0 := cells_of (w := w2.drew) HX2.out 0
  have x1 := cells_of (w := w2.drew) HX2.out 1
  have x2 := cells_of (w := w2.drew) HX2.out 2
  have x3 := cells_of (w := w2.drew) HX2.out 3
  simp at x0 x1 x2 x3
  clear hlk c8 g0 g1
  go_wp2_with fail
  refine (search_spec ⟨k0, k1, k2, k3⟩ H3.out (by omega) HR.out).mono ?_
  rintro e w4 ⟨hb4, i, hpl, rfl⟩
  have HPL := Lib.hid hpl
  have hin : decide (ks[i]? = some ⟨k0, k1, k2, k3⟩) = true := by
    simpa using (place_mem HR.out HPL.out).2 HKM.out
  rw [hin]
  have h4 := H3.out.keep hb4
  have H4 := Lib.hid h4
  have HIN := Lib.hid hin
  clear hb4 hpl h4 hin x0 x1 x2 x3
  have h4 : St W I w4 (keysHP (.slice Av ks.length cv) ks :: HK :: HP.pt (w.heap.size + 1) (.cells #[.int .i64 k0, .int .i64 k1] 113) :: HP.pt w.heap.size (.cells #[.int .i64 k0, .int .i64 k1, .int .i64 k2, .int .i64 k3] 27) :: storeBlk p S B :: X :: dryHP B S :: lateHP B S :: thingHP v t :: l) := H4.out
  have c5 := (h4.pull 4 _ rfl).blk 5
  have hxk := (h4.pull 3 _ rfl).heap
  have x0 := cells_of hxk 0
  have x1 := cells_of hxk 1
  have x2 := cells_of hxk 2
  have x3 := cells_of hxk 3
  simp [storeCells] at c5 x0 x1 x2 x3
  have h4' : St W I w4.drew (thingHP v t :: X :: keysHP (.slice Av ks.length cv) ks :: HK :: HP.pt (w.heap.size + 1) (.cells #[.int .i64 k0, .int .i64 k1] 113) :: HP.pt w.heap.size (.cells #[.int .i64 k0, .int .i64 k1, .int .i64 k2, .int .i64 k3] 27) :: storeBlk p S B :: dryHP B S :: lateHP B S :: l) := h4.drew.perm (by ((try simp only [List.eraseIdx_cons_succ, List.eraseIdx_cons_zero, List.cons_append, List.nil_append]); repeat (first | with_reducible exact List.Perm.refl _ | (apply perm_step; (· repeat (first | with_reducible exact find_here | with_reducible apply find_there))))))
  obtain ⟨w5, hr5, hs5, h5⟩ := hX.puts h4'
  simp only [keyKT, K4.val] at hr5
  obtain ⟨bt, mt, vbt, hve, _⟩ := h5.thing_open
  subst hve
  have H5 := Lib.hid h5
  have HR5 := Lib.hid hr5
  clear h4 h4' h5 hxk hr5 hs5
  go_wp2_with fail
  refine wp_region_calm [] [0, 1, 2, 3, 4, 5] [6] (by kernel_rfl) (by kernel_rfl) ?_
  simp only [pickL, List.getElem?_cons_zero, List.getElem?_cons_succ]
  repeat (refine wpPlain_step _ (Or.inl ⟨by rfl, by intro w; go_simp; try with_reducible rfl⟩) ?_; (try simp only [Act.put, List.setIfInBounds_toArray, List.set_cons_zero, List.set_cons_succ]))
  refine wpPlain_nil ?_
  repeat still_step
  refine wpStill_nil ?_
  have hr5 := HR5.out
  go_wp2_with fail
  refine NoPanic.normal ?_
  clear c5 x0 x1 x2 x3 hr5
  have h5 : St W I w5 (keysHP (.slice Av ks.length cv) ks :: HK :: HP.pt (w.heap.size + 1) (.cells #[.int .i64 k0, .int .i64 k1] 113) :: storeBlk p S B :: HP.pt w.heap.size (.cells #[.int .i64 k0, .int .i64 k1, .int .i64 k2, .int .i64 k3] 27) :: thingHP (.pointer (some ⟨bt, 0, none⟩)) t :: HP.hole keyKT thingHP B.m1 ⟨k0, k1, k2, k3⟩ (.pointer (some ⟨bt, 0, none⟩)) (del ⟨k0, k1, k2, k3⟩ S.seen) :: dryHP B S :: lateHP B S :: l) := H5.out.perm (by ((try simp only [List.eraseIdx_cons_succ, List.eraseIdx_cons_zero, List.cons_append, List.nil_append]); repeat (first | with_reducible exact List.Perm.refl _ | (apply perm_step; (· repeat (first | with_reducible exact find_here | with_reducible apply find_there))))))
  have hbk := HB.out I w5 _ h5
  have h8 : St W I w5 (storeBlk p S B :: thingHP (.pointer (some ⟨bt, 0, none⟩)) t :: HP.hole keyKT thingHP B.m1 ⟨k0, k1, k2, k3⟩ (.pointer (some ⟨bt, 0, none⟩)) (del ⟨k0, k1, k2, k3⟩ S.seen) :: dryHP B S :: lateHP B S :: HP.mapOf grpKT keysHP B.m4 S.keys :: l) := ((hbk.pull 1 _ rfl).drop.pull 2 _ rfl).drop.perm (by ((try simp only [List.eraseIdx_cons_succ, List.eraseIdx_cons_zero, List.cons_append, List.nil_append]); repeat (first | with_reducible exact List.Perm.refl _ | (apply perm_step; (· repeat (first | with_reducible exact find_here | with_reducible apply find_there))))))
  clear h5 hbk
  go_wp2_with fail
  have c1 := h8.blk 1
  simp [storeCells] at c1
  have H8 := Lib.hid h8
  clear h8
  refine wp_region_keep (fun w' => w'.cell? ⟨p, 1, none⟩ = some (.int .i64 S.used)) [0, 1, 2, 3, 4, 6] [5, 7] [8, 9, 10, 11] (by kernel_rfl) (by kernel_rfl) (by (exact c1)) ?_
  simp only [pickL, List.getElem?_cons_zero, List.getElem?_cons_succ]
  repeat (refine wpFirst_step _ (Or.inl ⟨by rfl, by (intro w hSw; (try dsimp only at hSw); go_simp; try with_reducible rfl)⟩) ?_; (try simp only [Act.put, List.setIfInBounds_toArray, List.set_cons_zero, List.set_cons_succ]))
  refine wpFirst_nil ?_
  unfold wpHold
  go_wp2_with fail
  refine (size_spec (H8.out.drew.pull 1 _ rfl) (by have := ht.1; omega)).mono ?_
  rintro e w9 ⟨rfl, h9⟩
  have c1' := (h9.pull 1 _ rfl).blk 1
  have f1 := frozen_of_row (h9.pull 1 _ rfl).heap 1
  simp [storeCells] at c1'
  have H9 := Lib.hid h9
  clear h9
  go_wp2_with fail
  refine holdPost_normal c1' ?_
  unfold wpHold
  go_wp2_with fail
  refine holdPost_normal c1' ?_
  unfold wpHold
  go_wp2_with fail
  refine NoPanic.normal ?_
  clear c1 f1 c1'
  go_wp2_with fail
  go_end0
  refine ⟨rfl, ?_⟩
  have h9 : St W I w9 (storeBlk p S B :: thingHP (.pointer (some ⟨bt, 0, none⟩)) t :: HP.hole keyKT thingHP B.m1 ⟨k0, k1, k2, k3⟩ (.pointer (some ⟨bt, 0, none⟩)) (del ⟨k0, k1, k2, k3⟩ S.seen) :: dryHP B S :: lateHP B S :: HP.mapOf grpKT keysHP B.m4 (S.keys) :: l) := H9.out.perm (by ((try simp only [List.eraseIdx_cons_succ, List.eraseIdx_cons_zero, List.cons_append, List.nil_append]); repeat (first | with_reducible exact List.Perm.refl _ | (apply perm_step; (· repeat (first | with_reducible exact find_here | with_reducible apply find_there))))))
  have h10 := h9.setCell 1 (.int .i64 (IntKind.i64.wrap (S.used + (t.size - was))))
  have e1 : wrap64 (S.used + wrap64 (wrap64 t.size - was)) = IntKind.i64.wrap (S.used + (t.size - was)) := by simp only [wrap64, IntKind.wrap_i64]; omega
  rw [e1]
  have hks3 := HKS.out
  have hkm3 := HKM.out
  rw [hks3] at hkm3
  have e2 : keyHP B (showS S ⟨k0, k1, k2, k3⟩ was (some t)) = HP.mapOf grpKT keysHP B.m4 (S.keys) := by
    unfold keyHP showS
    (simp only [hkm3, if_true, if_false, hks3]) <;> rfl
  rw [e2]
  exact h10
end
end Go.Proofs.Ytnokhjhhadnckaa
