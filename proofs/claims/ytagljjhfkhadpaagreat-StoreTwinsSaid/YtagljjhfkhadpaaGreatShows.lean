/- What is shown of a store, as plain data; a look at a map that may find nothing. No program in sight. (*Store).show. (*Store).show. (*Store).Fuse. maps.Keys of a map of keys that are structs, and slices.Collect over it. -/
import Derived.Test.YtagljjhfkhadpaaGreatThings
import Derived.Test.YtagljjhfkhadpaaGreatTools
import Derived.RangeFuncNested
import Derived.RangeFuncBound
import Derived.RangeFuncCalls
import Derived.RangeFuncLeaves
import Derived.RangeFuncKeeps
import Derived.Shelf.Abstract
import Derived.Shelf.RegionOpen
import Derived.WalkKit
import Derived.OwnWalkIn
import Derived.TacticsInMore
import Derived.LoopNIn
import Derived.LoopIn
/- What is shown of a store, as plain data; a look at a map that may find nothing. No program in sight. -/
set_option linter.unusedSimpArgs false
set_option linter.unusedVariables false
set_option linter.unusedSectionVars false
namespace Go.Proofs.YtagljjhfkhadpaaGreat
open Go.RowKit
section
variable {P : Program} {k : TypeId} {K : Type} [DecidableEq K] {α : Type}
variable {T : KT P k K} {own : Value → α → HP} {W w w' : World} {I : Hp} {l : List HP} {b : Nat} {L L' : List (K × α)} {a : K} {x : α} {v : Value}
/-- A look that may find nothing: then the zero value, which owns x0 at any time. H: the rest of the map. -/
theorem St.look_or (h : St W I w (HP.mapOf T own b L :: l)) {t e : TypeId} (ht : P.underlying t = some (.map k e)) {z : Value} {x0 : α} (hz : ∀ w, (zeroValue e).run P w = .ok z w)
    (h0 : ∀ I w l, St W I w l → St W I w (own z x0 :: l)) (a : K) :
    ∃ v H, (∀ w2, Below w.heap.size w w2 → ∀ ok, (Instr.lookup t (.map (some b)) (T.kv a) ok).run P w2 = .ok (if ok then .tuple #[v, .bool (get a L).isSome] else v) w2) ∧ St W I w (own v ((get a L).getD x0) :: H :: l) ∧
      (∀ I' w' l', St W I' w' (own v ((get a L).getD x0) :: H :: l') → St W I' w' (HP.mapOf T own b L :: l')) ∧
      (∀ I' w' l' v' x', St W I' w' (own v' x' :: H :: l') → ∃ w'', (Instr.mapUpdate t (.map (some b)) (T.kv a) v').run P w' = .ok () w'' ∧ w''.heap.size = w'.heap.size ∧ St W I' w'' (HP.mapOf T own b (put a x' L) :: l')) := by
  have hn := h.mapOf_nodup
  rcases h.mapOf_look ht hz a with ⟨hg, hl⟩ | ⟨v, x, hg, hl, h1⟩
  · refine ⟨z, HP.mapOf T own b L, fun w2 hw ok => by rw [hl w2 hw ok, hg]; rfl, by rw [hg]; exact h0 _ _ _ h, fun I' w' l' h' => h'.drop, fun I' w' l' v' x' h' => h'.mapOf_put ht a⟩
  · have hp : ((a, x) :: del a L).Perm L := (perm_of_get hn hg).symm
    refine ⟨v, HP.hole T own b a v (del a L), fun w2 hw ok => by rw [hl w2 hw ok, hg]; rfl, by rw [hg]; exact h1, fun I' w' l' h' => ?_, fun I' w' l' v' x' h' => ?_⟩
    · rw [hg] at h'
      exact (h'.hole_back).mapOf_perm hp
    · exact h'.hole_put ht
/-- A store into a map: what the value owns stays in sight. -/
theorem St.mapOf_put_hole (h : St W I w (own v x :: HP.mapOf T own b L :: l)) {t e : TypeId} (ht : P.underlying t = some (.map k e)) (a : K) :
    ∃ w', (Instr.mapUpdate t (.map (some b)) (T.kv a) v).run P w = .ok () w' ∧ w'.heap.size = w.heap.size ∧ St W I w' (own v x :: HP.hole T own b a v (del a L) :: l) := by
  obtain ⟨M, hp, h⟩ := (h.perm (List.Perm.swap _ _ _)).mapOf_open
  obtain ⟨w', hrun, hsz, h⟩ := h.map_put ht a v
  refine ⟨w', hrun, hsz, ?_⟩
  have hM : put a v (M.map fst3) = (a, v) :: (M.filter fun m => decide (m.1 ≠ a)).map fst3 := by
    simp only [put, del, List.filter_map]
    rfl
  rw [hM] at h
  have hD : ((M.filter fun m => decide (m.1 ≠ a)).map dat3).Perm (del a L) := by
    have : del a (M.map dat3) = (M.filter fun m => decide (m.1 ≠ a)).map dat3 := by
      simp only [del, List.filter_map]
      rfl
    rw [← this]
    exact del_perm hp
  have hsplit : (M.map (own3 own)).Perm ((M.filter fun m => !decide (m.1 ≠ a)).map (own3 own) ++ (M.filter fun m => decide (m.1 ≠ a)).map (own3 own)) := by
    rw [← List.map_append]
    exact ((List.perm_append_comm.trans (List.filter_append_perm _ M)).symm).map _
  have h2 := h.perm (List.Perm.cons _ (hsplit.append_right (own v x :: l)))
  have h3 : St W I w' ((M.filter fun m => !decide (m.1 ≠ a)).map (own3 own) ++ (HP.map T b ((a, v) :: (M.filter fun m => decide (m.1 ≠ a)).map fst3) :: ((M.filter fun m => decide (m.1 ≠ a)).map (own3 own) ++ (own v x :: l)))) := h2.perm (by
    rw [List.append_assoc]
    exact List.perm_middle.symm)
  have h5 : St W I w' (HP.hole T own b a v (del a L) :: own v x :: l) := St.ex_shut (M.filter fun m => decide (m.1 ≠ a)) (St.all_shut (St.pure_shut (⟨hD, fun p hp' => by simpa using (List.mem_filter.1 hp').2⟩ : _ ∧ _) h3.drops))
  exact h5.perm (List.Perm.swap _ _ _)
end
def keysAt (S : Str) (g : G2) : List K4 := (get g S.keys).getD []
def remK (k : K4) (ks : List K4) : List K4 := ks.filter fun a => decide (a ≠ k)
def addK (k : K4) (ks : List K4) : List K4 := ks.filter (fun a => a.lt k) ++ k :: ks.filter (fun a => !a.lt k)
def showS (S : Str) (k : K4) (was : Int) (o : Option TS) : Str :=
  { S with
    seen := match o with
      | none => del k S.seen
      | some t => put k t S.seen
    keys := match o with
      | none => if k ∈ keysAt S k.grp then put k.grp (remK k (keysAt S k.grp)) S.keys else S.keys
      | some _ => if k ∈ keysAt S k.grp then S.keys else put k.grp (addK k (keysAt S k.grp)) S.keys
    used := IntKind.i64.wrap (S.used + (sizeO o - was)) }
theorem lt_irrefl' (a : K4) : a.lt a = false := by
  rw [Bool.eq_false_iff]
  intro h
  simp only [K4.lt, decide_eq_true_eq] at h
  omega
theorem place_mem {ks : List K4} {k : K4} {i : Nat} (hr : Rising ks) (h : Place ks k i) : ks[i]? = some k ↔ k ∈ ks := by
  constructor
  · exact List.mem_of_getElem?
  · intro hm
    obtain ⟨j, hj⟩ := List.getElem?_of_mem hm
    rcases Nat.lt_trichotomy j i with h1 | h1 | h1
    · have := h.below j k h1 hj
      rw [lt_irrefl'] at this; cases this
    · rw [← h1]; exact hj
    · have hil : i < ks.length := by have := (List.getElem?_eq_some_iff.1 hj).1; omega
      have h2 := rising_get hr (List.getElem?_eq_getElem hil) hj h1
      have h3 := h.above i _ (Nat.le_refl _) (List.getElem?_eq_getElem hil)
      rw [h2] at h3; cases h3
theorem place_take {ks : List K4} {k : K4} {i : Nat} (h : Place ks k i) : ks.take i = ks.filter (fun a => a.lt k) ∧ ks.drop i = ks.filter (fun a => !a.lt k) := by
  have h1 : ∀ a ∈ ks.take i, a.lt k = true := fun a ha => by
    obtain ⟨j, hj⟩ := List.getElem?_of_mem ha
    rw [List.getElem?_take] at hj
    split at hj
    · exact h.below j a ‹_› hj
    · cases hj
  have h2 : ∀ a ∈ ks.drop i, a.lt k = false := fun a ha => by
    obtain ⟨j, hj⟩ := List.getElem?_of_mem ha
    rw [List.getElem?_drop] at hj
    exact h.above _ a (by omega) hj
  have e : ks = ks.take i ++ ks.drop i := (List.take_append_drop i ks).symm
  constructor
  · conv => rhs; rw [e]
    rw [List.filter_append, List.filter_eq_self.2 h1, List.filter_eq_nil_iff.2 (fun a ha => by rw [h2 a ha]; decide), List.append_nil]
  · conv => rhs; rw [e]
    rw [List.filter_append, List.filter_eq_nil_iff.2 (fun a ha => by rw [h1 a ha]; decide), List.filter_eq_self.2 (fun a ha => by rw [h2 a ha]; rfl), List.nil_append]
theorem place_ins {ks : List K4} {k : K4} {i : Nat} (h : Place ks k i) : insK i k ks = addK k ks := by
  unfold insK addK
  rw [(place_take h).1, (place_take h).2]
theorem rising_nodup {ks : List K4} (hr : Rising ks) : ks.Nodup := hr.imp fun {a b} h e => by subst e; rw [lt_irrefl'] at h; cases h
theorem place_rem {ks : List K4} {k : K4} {i : Nat} (hr : Rising ks) (hi : ks[i]? = some k) : ks.eraseIdx i = remK k ks := by
  have hn := rising_nodup hr
  obtain ⟨hlt, hk⟩ := List.getElem?_eq_some_iff.1 hi
  have e : ks = ks.take i ++ k :: ks.drop (i + 1) := by
    rw [← hk, ← List.drop_eq_getElem_cons hlt, List.take_append_drop]
  have hn' : (ks.take i ++ k :: ks.drop (i + 1)).Nodup := e ▸ hn
  have h1 := List.nodup_append.1 hn'
  have h2 := List.nodup_cons.1 h1.2.1
  have e2 : ks.eraseIdx i = ks.take i ++ ks.drop (i + 1) := List.eraseIdx_eq_take_drop_succ ..
  rw [e2]
  unfold remK
  conv => rhs; rw [e]
  rw [List.filter_append, List.filter_eq_self.2 (fun a ha => by simpa using h1.2.2 a ha k (List.mem_cons_self ..)), List.filter_cons]
  simp only [ne_eq, not_true_eq_false, decide_false, Bool.false_eq_true, if_false]
  rw [List.filter_eq_self.2 (fun a ha => by simpa using fun q : a = k => h2.1 (q ▸ ha))]
end Go.Proofs.YtagljjhfkhadpaaGreat
/- (*Store).show. -/
namespace Go.Proofs.YtagljjhfkhadpaaGreat
open Go.RowKit
section
variable {W w : World} {I : Hp} {l : List HP} {p : Nat} {S : Str}
set_option maxRecDepth 4000
set_option maxHeartbeats 2000000
/-- What a map owes to what is shown at a key. -/
structure Spot (k : K4) (m : Nat) (L : List (K4 × TS)) (X : HP) : Prop where
  dels : ∀ {W w : World} {I : Hp} {l : List HP} (ty : TypeId), St W I w (X :: l) → ∃ w', (Builtin.delete_ #[49, 30] ty #[.map (some m), keyKT.kv k]).run Tryz.prog w = .ok (.tuple #[]) w' ∧ w'.heap.size = w.heap.size ∧ St W I w' (HP.mapOf keyKT thingHP m (del k L) :: l)
  puts : ∀ {W w : World} {I : Hp} {l : List HP} {v : Value} {t : TS}, St W I w (thingHP v t :: X :: l) → ∃ w', (Instr.mapUpdate 49 (.map (some m)) (keyKT.kv k) v).run Tryz.prog w = .ok () w' ∧ w'.heap.size = w.heap.size ∧ St W I w' (thingHP v t :: HP.hole keyKT thingHP m k v (del k L) :: l)
theorem spot_seen (k : K4) (m : Nat) (L : List (K4 × TS)) : Spot k m L (HP.mapOf keyKT thingHP m L) :=
  ⟨fun ty h => h.mapOf_del (ty := ty) Tryz.underlying49 k, fun h => h.mapOf_put_hole Tryz.underlying49 k⟩
theorem hole_put_hole {P : Program} {kt : TypeId} {K α : Type} [DecidableEq K] {T : KT P kt K} {own : Value → α → HP} {W w : World} {I : Hp} {l : List HP} {b : Nat} {L : List (K × α)} {a : K} {u : Value} (h : St W I w (HP.hole T own b a u L :: l)) {t e : TypeId} (ht : P.underlying t = some (.map kt e)) (v : Value) :
    ∃ w', (Instr.mapUpdate t (.map (some b)) (T.kv a) v).run P w = .ok () w' ∧ w'.heap.size = w.heap.size ∧ St W I w' (HP.hole T own b a v L :: l) := by
  obtain ⟨M, hp, hne, h⟩ := h.hole_open
  have hn := h.map_nodup
  obtain ⟨w', hrun, hsz, h⟩ := h.map_put ht a v
  refine ⟨w', hrun, hsz, ?_⟩
  have hdel : del a ((a, u) :: M.map fst3) = M.map fst3 := by
    unfold del
    simp only [List.filter_cons, ne_eq, not_true_eq_false, decide_false, Bool.false_eq_true, if_false]
    exact del_of_none (get_none.2 fun p hp' e => (List.nodup_cons.1 hn).1 (List.mem_map.2 ⟨p, hp', e⟩))
  unfold put at h
  rw [hdel] at h
  exact St.ex_shut M (St.all_shut (St.pure_shut ⟨hp, hne⟩ h))
theorem spot_hole (k : K4) (m : Nat) (u : Value) (L : List (K4 × TS)) : Spot k m L (HP.hole keyKT thingHP m k u (del k L)) :=
  ⟨fun ty h => h.hole_del (ty := ty) Tryz.underlying49, fun h => by
    obtain ⟨w', h1, h2, h3⟩ := hole_put_hole (h.perm (List.Perm.swap _ _ _)) Tryz.underlying49 _
    exact ⟨w', h1, h2, h3.perm (List.Perm.swap _ _ _)⟩⟩
theorem size_opt {v : Value} {o : Option TS} (h : St W I w (optHP v o :: l)) (ht : smallO o) :
    Calls Tryz.prog 55 #[v] w fun e w' => e = .returned (.int .i64 (IntKind.i64.wrap (sizeO o))) ∧ St W I w' (optHP v o :: l) := by
  cases o with
  | none =>
    obtain ⟨rfl, h1⟩ := h.pure_open
    refine (size_nil w).mono ?_
    rintro e w' ⟨rfl, rfl⟩
    exact ⟨by rw [show IntKind.i64.wrap (sizeO none) = 0 by rfl], h⟩
  | some t => exact size_spec h (by have := ht.1; omega)
theorem show_gone_in {B : SB} {X : HP} (k : K4) (hX : Spot k B.m1 S.seen X) (was : Int) (h : St W I w (storeBlk p S B :: X :: dryHP B S :: lateHP B S :: keyHP B S :: l)) (hr : Rising (keysAt S k.grp)) (hn : (keysAt S k.grp).length ≤ 100000) (hk : k ∈ keysAt S k.grp) :
    Calls Tryz.prog 54 #[.pointer (some ⟨p, 0, none⟩), k.val, .int .i64 was, .pointer none] w fun e w' => e = .returned (.tuple #[]) ∧ St W I w' (storeBlk p (showS S k was none) B :: seenHP B (showS S k was none) :: dryHP B S :: lateHP B S :: keyHP B (showS S k was none) :: l) := by
  obtain ⟨k0, k1, k2, k3⟩ := k
  unfold K4.val
  have h2 := (h.alloc (.cells #[.int .i64 k0, .int .i64 k1, .int .i64 k2, .int .i64 k3] 30)).alloc (.cells #[.int .i64 k0, .int .i64 k1] 65)
  rw [show (w.alloc (.cells #[.int .i64 k0, .int .i64 k1, .int .i64 k2, .int .i64 k3] 30)).heap.size = w.heap.size + 1 by simp] at h2
  obtain ⟨w2, hw2⟩ : ∃ w2, (w.alloc (.cells #[.int .i64 k0, .int .i64 k1, .int .i64 k2, .int .i64 k3] 30)).alloc (.cells #[.int .i64 k0, .int .i64 k1] 65) = w2 := ⟨_, rfl⟩
  rw [hw2] at h2
  have HW2 := Lib.hid hw2
  clear hw2
  have c8 := (h2.pull 2 _ rfl).blk 8
  have g0 := cells_of h2.heap 0
  have g1 := cells_of h2.heap 1
  simp [storeCells] at c8 g0 g1
  obtain ⟨vk, HK, hlk, h3, hback, hput⟩ := (h2.drew.pull 6 _ rfl).look_or (x0 := []) Tryz.underlying51 (fun w => by kernel_rfl) (fun I w l h => h.row_nil _ _) ⟨k0, k1⟩
  have hlk := hlk _ (Below.refl _ _) false
  simp only [grpKT, G2.val] at hlk
  have hks : (get (⟨k0, k1⟩ : G2) S.keys).getD [] = keysAt S (K4.mk k0 k1 k2 k3).grp := rfl
  rw [hks] at h3 hback
  have H2 := Lib.hid h2
  have H3 := Lib.hid h3
  have HB := Lib.hid hback
  have HP' := Lib.hid hput
  obtain ⟨ks, hks2⟩ : ∃ ks, ks = keysAt S (K4.mk k0 k1 k2 k3).grp := ⟨_, rfl⟩
  have HKS := Lib.hid hks2
  rw [← hks2] at H3 HB hr hn hk
  clear hks hks2 h2 h3 hback hput
  have hx2 := (H2.out.pull 1 _ rfl).heap
  obtain ⟨Av, cv, rfl⟩ := is_slice H3.out.row_owns
  have HX2 := Lib.hid hx2
  have HR := Lib.hid hr
  have HKM := Lib.hid hk
  clear hx2 h hr hk
  go_enter Tryz.func54, Tryz.ntmps54
  go_wp2_with fail
  rw [HW2.out]
  refine wp_region_calm [] [0, 1, 2, 3, 4, 5, 6] [] (by kernel_rfl) (by kernel_rfl) ?_
  simp only [pickL, List.getElem?_cons_zero, List.getElem?_cons_succ]
  repeat (refine wpPlain_step _ (Or.inl ⟨by rfl, by intro w; go_simp; try with_reducible rfl⟩) ?_; (try simp only [Act.put, List.setIfInBounds_toArray, List.set_cons_zero, List.set_cons_succ]))
  refine wpPlain_nil ?_
  repeat still_step
  refine wpStill_nil ?_
  go_wp2_with fail
  refine NoPanic.normal ?_
  have x0 := cells_of (w := w2.drew) HX2.out 0
  have x1 := cells_of (w := w2.drew) HX2.out 1
  have x2 := cells_of (w := w2.drew) HX2.out 2
  have x3 := cells_of (w := w2.drew) HX2.out 3
  simp at x0 x1 x2 x3
  clear hlk c8 g0 g1
  go_wp2_with fail
  refine (search_spec ⟨k0, k1, k2, k3⟩ H3.out (by omega) HR.out).mono ?_
  rintro e w4 ⟨hb4, i, hpl, rfl⟩
  have HPL := Lib.hid hpl
  have hin : decide (ks[i]? = some ⟨k0, k1, k2, k3⟩) = true := by
    simpa using (place_mem HR.out HPL.out).2 HKM.out
  rw [hin]
  have h4 := H3.out.keep hb4
  have H4 := Lib.hid h4
  have HIN := Lib.hid hin
  clear hb4 hpl h4 hin x0 x1 x2 x3
  have h4 : St W I w4 (keysHP (.slice Av ks.length cv) ks :: HK :: HP.pt (w.heap.size + 1) (.cells #[.int .i64 k0, .int .i64 k1] 65) :: HP.pt w.heap.size (.cells #[.int .i64 k0, .int .i64 k1, .int .i64 k2, .int .i64 k3] 30) :: storeBlk p S B :: X :: dryHP B S :: lateHP B S :: l) := H4.out
  have c5 := (h4.pull 4 _ rfl).blk 5
  have hxk := (h4.pull 3 _ rfl).heap
  have x0 := cells_of hxk 0
  have x1 := cells_of hxk 1
  have x2 := cells_of hxk 2
  have x3 := cells_of hxk 3
  simp [storeCells] at c5 x0 x1 x2 x3
  obtain ⟨w5, hr5, hs5, h5⟩ := hX.dels 0 (h4.drew.pull 5 _ rfl)
  simp only [keyKT, K4.val] at hr5
  have H5 := Lib.hid h5
  have HR5 := Lib.hid hr5
  clear h4 h5 hxk hr5
  go_wp2_with fail
  refine wp_region_calm [] [0, 1, 2, 3, 4] [5] (by kernel_rfl) (by kernel_rfl) ?_
  simp only [pickL, List.getElem?_cons_zero, List.getElem?_cons_succ]
  repeat (refine wpPlain_step _ (Or.inl ⟨by rfl, by intro w; go_simp; try with_reducible rfl⟩) ?_; (try simp only [Act.put, List.setIfInBounds_toArray, List.set_cons_zero, List.set_cons_succ]))
  refine wpPlain_nil ?_
  repeat still_step
  refine wpStill_nil ?_
  have hr5 := HR5.out
  go_wp2_with fail
  refine NoPanic.normal ?_
  clear c5 x0 x1 x2 x3 hr5
  have h5 : St W I w5 (keysHP (.slice Av ks.length cv) ks :: HK :: HP.pt (w.heap.size + 1) (.cells #[.int .i64 k0, .int .i64 k1] 65) :: storeBlk p S B :: HP.mapOf keyKT thingHP B.m1 (del ⟨k0, k1, k2, k3⟩ S.seen) :: dryHP B S :: lateHP B S :: l) := (H5.out.pull 4 _ rfl).drop.perm (by ((try simp only [List.eraseIdx_cons_succ, List.eraseIdx_cons_zero, List.cons_append, List.nil_append]); repeat (first | with_reducible exact List.Perm.refl _ | (apply perm_step; (· repeat (first | with_reducible exact find_here | with_reducible apply find_there))))))
  have c8 := (h5.pull 3 _ rfl).blk 8
  have hg := (h5.pull 2 _ rfl).heap
  have g0 := cells_of hg 0
  have g1 := cells_of hg 1
  simp [storeCells] at c8 g0 g1
  have H5' := Lib.hid h5
  have z1 : IntKind.i64.wrap ((i : Int) + 1) = (i : Int) + 1 := by
    have := HPL.out.le
    rw [IntKind.wrap_i64]; omega
  clear h5 hg
  go_wp2_with fail
  refine wp_region_keep (fun w' => w'.cell? ⟨p, 8, none⟩ = some (.map (some B.m4)) ∧ w'.cell? ⟨w.heap.size + 1, 0, none⟩ = some (.int .i64 k0) ∧ w'.cell? ⟨w.heap.size + 1, 1, none⟩ = some (.int .i64 k1)) [0, 1, 2, 3, 4, 5, 6, 7, 8] [9] [10] (by kernel_rfl) (by kernel_rfl) (by (exact ⟨c8, g0, g1⟩)) ?_
  simp only [pickL, List.getElem?_cons_zero, List.getElem?_cons_succ]
  repeat (refine wpFirst_step _ (Or.inl ⟨by rfl, by (intro w hSw; (try dsimp only at hSw); go_simp; try with_reducible rfl)⟩) ?_; (try simp only [Act.put, List.setIfInBounds_toArray, List.set_cons_zero, List.set_cons_succ]))
  refine wpFirst_nil ?_
  unfold wpHold
  go_wp2_with fail
  have hilt : i < ks.length := (List.getElem?_eq_some_iff.1 ((place_mem HR.out HPL.out).2 HKM.out)).1
  refine (delete_spec H5'.out.drew (by omega) hilt).mono ?_
  rintro e w6 ⟨v6, rfl, h6⟩
  rw [place_rem HR.out ((place_mem HR.out HPL.out).2 HKM.out)] at h6
  obtain ⟨A6, c6, rfl⟩ := is_slice h6.row_owns
  obtain ⟨w7, hr7, hs7, h7⟩ := HP'.out I w6 _ _ _ h6
  simp only [grpKT, G2.val] at hr7
  have c8' := (h6.pull 3 _ rfl).blk 8
  have hg' := (h6.pull 2 _ rfl).heap
  have g0' := cells_of hg' 0
  have g1' := cells_of hg' 1
  simp [storeCells] at c8' g0' g1'
  have H7 := Lib.hid h7
  have HR7 := Lib.hid hr7
  clear h6 h7 hr7 hg' z1 c8 g0 g1 hilt
  go_wp2_with fail
  refine holdPost_normal ⟨c8', g0', g1'⟩ ?_
  have hr7 := HR7.out
  unfold wpHold
  go_wp2_with fail
  refine NoPanic.normal ?_
  clear hr7 c8' g0' g1'
  go_wp2_with fail
  have h8 : St W I w7 (storeBlk p S B :: HP.mapOf keyKT thingHP B.m1 (del ⟨k0, k1, k2, k3⟩ S.seen) :: dryHP B S :: lateHP B S :: HP.mapOf grpKT keysHP B.m4 (put ⟨k0, k1⟩ (remK ⟨k0, k1, k2, k3⟩ ks) S.keys) :: l) := (H7.out.pull 1 _ rfl).drop.perm (by ((try simp only [List.eraseIdx_cons_succ, List.eraseIdx_cons_zero, List.cons_append, List.nil_append]); repeat (first | with_reducible exact List.Perm.refl _ | (apply perm_step; (· repeat (first | with_reducible exact find_here | with_reducible apply find_there))))))
  have c1 := h8.blk 1
  have f1 := frozen_of_row h8.heap 1
  simp [storeCells] at c1
  have H8 := Lib.hid h8
  clear h8
  refine wp_region_keep (fun w' => w'.cell? ⟨p, 1, none⟩ = some (.int .i64 S.used)) [0, 1, 2, 3, 4, 6] [5, 7] [8, 9, 10, 11] (by kernel_rfl) (by kernel_rfl) (by (exact c1)) ?_
  simp only [pickL, List.getElem?_cons_zero, List.getElem?_cons_succ]
  repeat (refine wpFirst_step _ (Or.inl ⟨by rfl, by (intro w hSw; (try dsimp only at hSw); go_simp; try with_reducible rfl)⟩) ?_; (try simp only [Act.put, List.setIfInBounds_toArray, List.set_cons_zero, List.set_cons_succ]))
  refine wpFirst_nil ?_
  unfold wpHold
  go_wp2_with fail
  refine (size_nil _).mono ?_
  rintro e w9 ⟨rfl, rfl⟩
  go_wp2_with fail
  refine holdPost_normal c1 ?_
  unfold wpHold
  go_wp2_with fail
  refine holdPost_normal c1 ?_
  unfold wpHold
  go_wp2_with fail
  refine NoPanic.normal ?_
  clear c1 f1
  go_wp2_with fail
  go_end0
  refine ⟨rfl, ?_⟩
  have h9 := H8.out.drew.setCell 1 (.int .i64 (IntKind.i64.wrap (S.used + (0 - was))))
  have e1 : wrap64 (S.used + wrap64 (-was)) = IntKind.i64.wrap (S.used + (0 - was)) := by simp only [wrap64, IntKind.wrap_i64]; omega
  rw [e1]
  have hks3 := HKS.out
  have hkm3 := HKM.out
  rw [hks3] at hkm3
  have e2 : keyHP B (showS S ⟨k0, k1, k2, k3⟩ was none) = HP.mapOf grpKT keysHP B.m4 (put ⟨k0, k1⟩ (remK ⟨k0, k1, k2, k3⟩ ks) S.keys) := by
    unfold keyHP showS
    (simp only [hkm3, if_true, if_false, hks3]) <;> rfl
  rw [e2]
  exact h9
theorem show_gone_out {B : SB} {X : HP} (k : K4) (hX : Spot k B.m1 S.seen X) (was : Int) (h : St W I w (storeBlk p S B :: X :: dryHP B S :: lateHP B S :: keyHP B S :: l)) (hr : Rising (keysAt S k.grp)) (hn : (keysAt S k.grp).length ≤ 100000) (hk : k ∉ keysAt S k.grp) :
    Calls Tryz.prog 54 #[.pointer (some ⟨p, 0, none⟩), k.val, .int .i64 was, .pointer none] w fun e w' => e = .returned (.tuple #[]) ∧ St W I w' (storeBlk p (showS S k was none) B :: seenHP B (showS S k was none) :: dryHP B S :: lateHP B S :: keyHP B (showS S k was none) :: l) := by
  obtain ⟨k0, k1, k2, k3⟩ := k
  unfold K4.val
  have h2 := (h.alloc (.cells #[.int .i64 k0, .int .i64 k1, .int .i64 k2, .int .i64 k3] 30)).alloc (.cells #[.int .i64 k0, .int .i64 k1] 65)
  rw [show (w.alloc (.cells #[.int .i64 k0, .int .i64 k1, .int .i64 k2, .int .i64 k3] 30)).heap.size = w.heap.size + 1 by simp] at h2
  obtain ⟨w2, hw2⟩ : ∃ w2, (w.alloc (.cells #[.int .i64 k0, .int .i64 k1, .int .i64 k2, .int .i64 k3] 30)).alloc (.cells #[.int .i64 k0, .int .i64 k1] 65) = w2 := ⟨_, rfl⟩
  rw [hw2] at h2
  have HW2 := Lib.hid hw2
  clear hw2
  have c8 := (h2.pull 2 _ rfl).blk 8
  have g0 := cells_of h2.heap 0
  have g1 := cells_of h2.heap 1
  simp [storeCells] at c8 g0 g1
  obtain ⟨vk, HK, hlk, h3, hback, hput⟩ := (h2.drew.pull 6 _ rfl).look_or (x0 := []) Tryz.underlying51 (fun w => by kernel_rfl) (fun I w l h => h.row_nil _ _) ⟨k0, k1⟩
  have hlk := hlk _ (Below.refl _ _) false
  simp only [grpKT, G2.val] at hlk
  have hks : (get (⟨k0, k1⟩ : G2) S.keys).getD [] = keysAt S (K4.mk k0 k1 k2 k3).grp := rfl
  rw [hks] at h3 hback
  have H2 := Lib.hid h2
  have H3 := Lib.hid h3
  have HB := Lib.hid hback
  have HP' := Lib.hid hput
  obtain ⟨ks, hks2⟩ : ∃ ks, ks = keysAt S (K4.mk k0 k1 k2 k3).grp := ⟨_, rfl⟩
  have HKS := Lib.hid hks2
  rw [← hks2] at H3 HB hr hn hk
  clear hks hks2 h2 h3 hback hput
  have hx2 := (H2.out.pull 1 _ rfl).heap
  obtain ⟨Av, cv, rfl⟩ := is_slice H3.out.row_owns
  have HX2 := Lib.hid hx2
  have HR := Lib.hid hr
  have HKM := Lib.hid hk
  clear hx2 h hr hk
  go_enter Tryz.func54, Tryz.ntmps54
  go_wp2_with fail
  rw [HW2.out]
  refine wp_region_calm [] [0, 1, 2, 3, 4, 5, 6] [] (by kernel_rfl) (by kernel_rfl) ?_
  simp only [pickL, List.getElem?_cons_zero, List.getElem?_cons_succ]
  repeat (refine wpPlain_step _ (Or.inl ⟨by rfl, by intro w; go_simp; try with_reducible rfl⟩) ?_; (try simp only [Act.put, List.setIfInBounds_toArray, List.set_cons_zero, List.set_cons_succ]))
  refine wpPlain_nil ?_
  repeat still_step
  refine wpStill_nil ?_
  go_wp2_with fail
  refine NoPanic.normal ?_
  have x0 := cells_of (w := w2.drew) HX2.out 0
  have x1 := cells_of (w := w2.drew) HX2.out 1
  have x2 := cells_of (w := w2.drew) HX2.out 2
  have x3 := cells_of (w := w2.drew) HX2.out 3
  simp at x0 x1 x2 x3
  clear hlk c8 g0 g1
  go_wp2_with fail
  refine (search_spec ⟨k0, k1, k2, k3⟩ H3.out (by omega) HR.out).mono ?_
  rintro e w4 ⟨hb4, i, hpl, rfl⟩
  have HPL := Lib.hid hpl
  have hin : decide (ks[i]? = some ⟨k0, k1, k2, k3⟩) = false := by
    rw [decide_eq_false_iff_not]; exact fun q => HKM.out ((place_mem HR.out HPL.out).1 q)
  rw [hin]
  have h4 := H3.out.keep hb4
  have H4 := Lib.hid h4
  have HIN := Lib.hid hin
  clear hb4 hpl h4 hin x0 x1 x2 x3
  have h4 : St W I w4 (keysHP (.slice Av ks.length cv) ks :: HK :: HP.pt (w.heap.size + 1) (.cells #[.int .i64 k0, .int .i64 k1] 65) :: HP.pt w.heap.size (.cells #[.int .i64 k0, .int .i64 k1, .int .i64 k2, .int .i64 k3] 30) :: storeBlk p S B :: X :: dryHP B S :: lateHP B S :: l) := H4.out
  have c5 := (h4.pull 4 _ rfl).blk 5
  have hxk := (h4.pull 3 _ rfl).heap
  have x0 := cells_of hxk 0
  have x1 := cells_of hxk 1
  have x2 := cells_of hxk 2
  have x3 := cells_of hxk 3
  simp [storeCells] at c5 x0 x1 x2 x3
  obtain ⟨w5, hr5, hs5, h5⟩ := hX.dels 0 (h4.drew.pull 5 _ rfl)
  simp only [keyKT, K4.val] at hr5
  have H5 := Lib.hid h5
  have HR5 := Lib.hid hr5
  clear h4 h5 hxk hr5
  go_wp2_with fail
  refine wp_region_calm [] [0, 1, 2, 3, 4] [5] (by kernel_rfl) (by kernel_rfl) ?_
  simp only [pickL, List.getElem?_cons_zero, List.getElem?_cons_succ]
  repeat (refine wpPlain_step _ (Or.inl ⟨by rfl, by intro w; go_simp; try with_reducible rfl⟩) ?_; (try simp only [Act.put, List.setIfInBounds_toArray, List.set_cons_zero, List.set_cons_succ]))
  refine wpPlain_nil ?_
  repeat still_step
  refine wpStill_nil ?_
  have hr5 := HR5.out
  go_wp2_with fail
  refine NoPanic.normal ?_
  clear c5 x0 x1 x2 x3 hr5
  have h5 : St W I w5 (keysHP (.slice Av ks.length cv) ks :: HK :: HP.pt (w.heap.size + 1) (.cells #[.int .i64 k0, .int .i64 k1] 65) :: storeBlk p S B :: HP.mapOf keyKT thingHP B.m1 (del ⟨k0, k1, k2, k3⟩ S.seen) :: dryHP B S :: lateHP B S :: l) := (H5.out.pull 4 _ rfl).drop.perm (by ((try simp only [List.eraseIdx_cons_succ, List.eraseIdx_cons_zero, List.cons_append, List.nil_append]); repeat (first | with_reducible exact List.Perm.refl _ | (apply perm_step; (· repeat (first | with_reducible exact find_here | with_reducible apply find_there))))))
  have hbk := HB.out I w5 _ h5
  have H7 := Lib.hid hbk
  clear h5 hbk
  go_wp2_with fail
  have h8 : St W I w5 (storeBlk p S B :: HP.mapOf keyKT thingHP B.m1 (del ⟨k0, k1, k2, k3⟩ S.seen) :: dryHP B S :: lateHP B S :: HP.mapOf grpKT keysHP B.m4 S.keys :: l) := (H7.out.pull 1 _ rfl).drop.perm (by ((try simp only [List.eraseIdx_cons_succ, List.eraseIdx_cons_zero, List.cons_append, List.nil_append]); repeat (first | with_reducible exact List.Perm.refl _ | (apply perm_step; (· repeat (first | with_reducible exact find_here | with_reducible apply find_there))))))
  have c1 := h8.blk 1
  have f1 := frozen_of_row h8.heap 1
  simp [storeCells] at c1
  have H8 := Lib.hid h8
  clear h8
  refine wp_region_keep (fun w' => w'.cell? ⟨p, 1, none⟩ = some (.int .i64 S.used)) [0, 1, 2, 3, 4, 6] [5, 7] [8, 9, 10, 11] (by kernel_rfl) (by kernel_rfl) (by (exact c1)) ?_
  simp only [pickL, List.getElem?_cons_zero, List.getElem?_cons_succ]
  repeat (refine wpFirst_step _ (Or.inl ⟨by rfl, by (intro w hSw; (try dsimp only at hSw); go_simp; try with_reducible rfl)⟩) ?_; (try simp only [Act.put, List.setIfInBounds_toArray, List.set_cons_zero, List.set_cons_succ]))
  refine wpFirst_nil ?_
  unfold wpHold
  go_wp2_with fail
  refine (size_nil _).mono ?_
  rintro e w9 ⟨rfl, rfl⟩
  go_wp2_with fail
  refine holdPost_normal c1 ?_
  unfold wpHold
  go_wp2_with fail
  refine holdPost_normal c1 ?_
  unfold wpHold
  go_wp2_with fail
  refine NoPanic.normal ?_
  clear c1 f1
  go_wp2_with fail
  go_end0
  refine ⟨rfl, ?_⟩
  have h9 := H8.out.drew.setCell 1 (.int .i64 (IntKind.i64.wrap (S.used + (0 - was))))
  have e1 : wrap64 (S.used + wrap64 (-was)) = IntKind.i64.wrap (S.used + (0 - was)) := by simp only [wrap64, IntKind.wrap_i64]; omega
  rw [e1]
  have hks3 := HKS.out
  have hkm3 := HKM.out
  rw [hks3] at hkm3
  have e2 : keyHP B (showS S ⟨k0, k1, k2, k3⟩ was none) = HP.mapOf grpKT keysHP B.m4 S.keys := by
    unfold keyHP showS
    (simp only [hkm3, if_true, if_false, hks3]) <;> rfl
  rw [e2]
  exact h9
theorem show_there_in {B : SB} {X : HP} {v : Value} {t : TS} (ht : t.small) (k : K4) (hX : Spot k B.m1 S.seen X) (was : Int) (h : St W I w (storeBlk p S B :: X :: dryHP B S :: lateHP B S :: keyHP B S :: thingHP v t :: l)) (hr : Rising (keysAt S k.grp)) (hn : (keysAt S k.grp).length ≤ 100000) (hk : k ∈ keysAt S k.grp) :
    Calls Tryz.prog 54 #[.pointer (some ⟨p, 0, none⟩), k.val, .int .i64 was, v] w fun e w' => e = .returned (.tuple #[]) ∧ St W I w' (storeBlk p (showS S k was (some t)) B :: thingHP v t :: HP.hole keyKT thingHP B.m1 k v (del k S.seen) :: dryHP B S :: lateHP B S :: keyHP B (showS S k was (some t)) :: l) := by
  obtain ⟨k0, k1, k2, k3⟩ := k
  unfold K4.val
  have h2 := (h.alloc (.cells #[.int .i64 k0, .int .i64 k1, .int .i64 k2, .int .i64 k3] 30)).alloc (.cells #[.int .i64 k0, .int .i64 k1] 65)
  rw [show (w.alloc (.cells #[.int .i64 k0, .int .i64 k1, .int .i64 k2, .int .i64 k3] 30)).heap.size = w.heap.size + 1 by simp] at h2
  obtain ⟨w2, hw2⟩ : ∃ w2, (w.alloc (.cells #[.int .i64 k0, .int .i64 k1, .int .i64 k2, .int .i64 k3] 30)).alloc (.cells #[.int .i64 k0, .int .i64 k1] 65) = w2 := ⟨_, rfl⟩
  rw [hw2] at h2
  have HW2 := Lib.hid hw2
  clear hw2
  have c8 := (h2.pull 2 _ rfl).blk 8
  have g0 := cells_of h2.heap 0
  have g1 := cells_of h2.heap 1
  simp [storeCells] at c8 g0 g1
  obtain ⟨vk, HK, hlk, h3, hback, hput⟩ := (h2.drew.pull 6 _ rfl).look_or (x0 := []) Tryz.underlying51 (fun w => by kernel_rfl) (fun I w l h => h.row_nil _ _) ⟨k0, k1⟩
  have hlk := hlk _ (Below.refl _ _) false
  simp only [grpKT, G2.val] at hlk
  have hks : (get (⟨k0, k1⟩ : G2) S.keys).getD [] = keysAt S (K4.mk k0 k1 k2 k3).grp := rfl
  rw [hks] at h3 hback
  have H2 := Lib.hid h2
  have H3 := Lib.hid h3
  have HB := Lib.hid hback
  have HP' := Lib.hid hput
  obtain ⟨ks, hks2⟩ : ∃ ks, ks = keysAt S (K4.mk k0 k1 k2 k3).grp := ⟨_, rfl⟩
  have HKS := Lib.hid hks2
  rw [← hks2] at H3 HB hr hn hk
  clear hks hks2 h2 h3 hback hput
  have hx2 := (H2.out.pull 1 _ rfl).heap
  obtain ⟨Av, cv, rfl⟩ := is_slice H3.out.row_owns
  have HX2 := Lib.hid hx2
  have HR := Lib.hid hr
  have HKM := Lib.hid hk
  clear hx2 h hr hk
  go_enter Tryz.func54, Tryz.ntmps54
  go_wp2_with fail
  rw [HW2.out]
  refine wp_region_calm [] [0, 1, 2, 3, 4, 5, 6] [] (by kernel_rfl) (by kernel_rfl) ?_
  simp only [pickL, List.getElem?_cons_zero, List.getElem?_cons_succ]
  repeat (refine wpPlain_step _ (Or.inl ⟨by rfl, by intro w; go_simp; try with_reducible rfl⟩) ?_; (try simp only [Act.put, List.setIfInBounds_toArray, List.set_cons_zero, List.set_cons_succ]))
  refine wpPlain_nil ?_
  repeat still_step
  refine wpStill_nil ?_
  go_wp2_with fail
  refine NoPanic.normal ?_
  have x0 := cells_of (w := w2.drew) HX2.out 0
  have x1 := cells_of (w := w2.drew) HX2.out 1
  have x2 := cells_of (w := w2.drew) HX2.out 2
  have x3 := cells_of (w := w2.drew) HX2.out 3
  simp at x0 x1 x2 x3
  clear hlk c8 g0 g1
  go_wp2_with fail
  refine (search_spec ⟨k0, k1, k2, k3⟩ H3.out (by omega) HR.out).mono ?_
  rintro e w4 ⟨hb4, i, hpl, rfl⟩
  have HPL := Lib.hid hpl
  have hin : decide (ks[i]? = some ⟨k0, k1, k2, k3⟩) = true := by
    simpa using (place_mem HR.out HPL.out).2 HKM.out
  rw [hin]
  have h4 := H3.out.keep hb4
  have H4 := Lib.hid h4
  have HIN := Lib.hid hin
  clear hb4 hpl h4 hin x0 x1 x2 x3
  have h4 : St W I w4 (keysHP (.slice Av ks.length cv) ks :: HK :: HP.pt (w.heap.size + 1) (.cells #[.int .i64 k0, .int .i64 k1] 65) :: HP.pt w.heap.size (.cells #[.int .i64 k0, .int .i64 k1, .int .i64 k2, .int .i64 k3] 30) :: storeBlk p S B :: X :: dryHP B S :: lateHP B S :: thingHP v t :: l) := H4.out
  have c5 := (h4.pull 4 _ rfl).blk 5
  have hxk := (h4.pull 3 _ rfl).heap
  have x0 := cells_of hxk 0
  have x1 := cells_of hxk 1
  have x2 := cells_of hxk 2
  have x3 := cells_of hxk 3
  simp [storeCells] at c5 x0 x1 x2 x3
  have h4' : St W I w4.drew (thingHP v t :: X :: keysHP (.slice Av ks.length cv) ks :: HK :: HP.pt (w.heap.size + 1) (.cells #[.int .i64 k0, .int .i64 k1] 65) :: HP.pt w.heap.size (.cells #[.int .i64 k0, .int .i64 k1, .int .i64 k2, .int .i64 k3] 30) :: storeBlk p S B :: dryHP B S :: lateHP B S :: l) := h4.drew.perm (by ((try simp only [List.eraseIdx_cons_succ, List.eraseIdx_cons_zero, List.cons_append, List.nil_append]); repeat (first | with_reducible exact List.Perm.refl _ | (apply perm_step; (· repeat (first | with_reducible exact find_here | with_reducible apply find_there))))))
  obtain ⟨w5, hr5, hs5, h5⟩ := hX.puts h4'
  simp only [keyKT, K4.val] at hr5
  obtain ⟨bt, mt, vbt, hve, _⟩ := h5.thing_open
  subst hve
  have H5 := Lib.hid h5
  have HR5 := Lib.hid hr5
  clear h4 h4' h5 hxk hr5 hs5
  go_wp2_with fail
  refine wp_region_calm [] [0, 1, 2, 3, 4, 5] [6] (by kernel_rfl) (by kernel_rfl) ?_
  simp only [pickL, List.getElem?_cons_zero, List.getElem?_cons_succ]
  repeat (refine wpPlain_step _ (Or.inl ⟨by rfl, by intro w; go_simp; try with_reducible rfl⟩) ?_; (try simp only [Act.put, List.setIfInBounds_toArray, List.set_cons_zero, List.set_cons_succ]))
  refine wpPlain_nil ?_
  repeat still_step
  refine wpStill_nil ?_
  have hr5 := HR5.out
  go_wp2_with fail
  refine NoPanic.normal ?_
  clear c5 x0 x1 x2 x3 hr5
  have h5 : St W I w5 (keysHP (.slice Av ks.length cv) ks :: HK :: HP.pt (w.heap.size + 1) (.cells #[.int .i64 k0, .int .i64 k1] 65) :: storeBlk p S B :: HP.pt w.heap.size (.cells #[.int .i64 k0, .int .i64 k1, .int .i64 k2, .int .i64 k3] 30) :: thingHP (.pointer (some ⟨bt, 0, none⟩)) t :: HP.hole keyKT thingHP B.m1 ⟨k0, k1, k2, k3⟩ (.pointer (some ⟨bt, 0, none⟩)) (del ⟨k0, k1, k2, k3⟩ S.seen) :: dryHP B S :: lateHP B S :: l) := H5.out.perm (by ((try simp only [List.eraseIdx_cons_succ, List.eraseIdx_cons_zero, List.cons_append, List.nil_append]); repeat (first | with_reducible exact List.Perm.refl _ | (apply perm_step; (· repeat (first | with_reducible exact find_here | with_reducible apply find_there))))))
  have hbk := HB.out I w5 _ h5
  have h8 : St W I w5 (storeBlk p S B :: thingHP (.pointer (some ⟨bt, 0, none⟩)) t :: HP.hole keyKT thingHP B.m1 ⟨k0, k1, k2, k3⟩ (.pointer (some ⟨bt, 0, none⟩)) (del ⟨k0, k1, k2, k3⟩ S.seen) :: dryHP B S :: lateHP B S :: HP.mapOf grpKT keysHP B.m4 S.keys :: l) := ((hbk.pull 1 _ rfl).drop.pull 2 _ rfl).drop.perm (by ((try simp only [List.eraseIdx_cons_succ, List.eraseIdx_cons_zero, List.cons_append, List.nil_append]); repeat (first | with_reducible exact List.Perm.refl _ | (apply perm_step; (· repeat (first | with_reducible exact find_here | with_reducible apply find_there))))))
  clear h5 hbk
  go_wp2_with fail
  have c1 := h8.blk 1
  simp [storeCells] at c1
  have H8 := Lib.hid h8
  clear h8
  refine wp_region_keep (fun w' => w'.cell? ⟨p, 1, none⟩ = some (.int .i64 S.used)) [0, 1, 2, 3, 4, 6] [5, 7] [8, 9, 10, 11] (by kernel_rfl) (by kernel_rfl) (by (exact c1)) ?_
  simp only [pickL, List.getElem?_cons_zero, List.getElem?_cons_succ]
  repeat (refine wpFirst_step _ (Or.inl ⟨by rfl, by (intro w hSw; (try dsimp only at hSw); go_simp; try with_reducible rfl)⟩) ?_; (try simp only [Act.put, List.setIfInBounds_toArray, List.set_cons_zero, List.set_cons_succ]))
  refine wpFirst_nil ?_
  unfold wpHold
  go_wp2_with fail
  refine (size_spec (H8.out.drew.pull 1 _ rfl) (by have := ht.1; omega)).mono ?_
  rintro e w9 ⟨rfl, h9⟩
  have c1' := (h9.pull 1 _ rfl).blk 1
  have f1 := frozen_of_row (h9.pull 1 _ rfl).heap 1
  simp [storeCells] at c1'
  have H9 := Lib.hid h9
  clear h9
  go_wp2_with fail
  refine holdPost_normal c1' ?_
  unfold wpHold
  go_wp2_with fail
  refine holdPost_normal c1' ?_
  unfold wpHold
  go_wp2_with fail
  refine NoPanic.normal ?_
  clear c1 f1 c1'
  go_wp2_with fail
  go_end0
  refine ⟨rfl, ?_⟩
  have h9 : St W I w9 (storeBlk p S B :: thingHP (.pointer (some ⟨bt, 0, none⟩)) t :: HP.hole keyKT thingHP B.m1 ⟨k0, k1, k2, k3⟩ (.pointer (some ⟨bt, 0, none⟩)) (del ⟨k0, k1, k2, k3⟩ S.seen) :: dryHP B S :: lateHP B S :: HP.mapOf grpKT keysHP B.m4 (S.keys) :: l) := H9.out.perm (by ((try simp only [List.eraseIdx_cons_succ, List.eraseIdx_cons_zero, List.cons_append, List.nil_append]); repeat (first | with_reducible exact List.Perm.refl _ | (apply perm_step; (· repeat (first | with_reducible exact find_here | with_reducible apply find_there))))))
  have h10 := h9.setCell 1 (.int .i64 (IntKind.i64.wrap (S.used + (t.size - was))))
  have e1 : wrap64 (S.used + wrap64 (wrap64 t.size - was)) = IntKind.i64.wrap (S.used + (t.size - was)) := by simp only [wrap64, IntKind.wrap_i64]; omega
  rw [e1]
  have hks3 := HKS.out
  have hkm3 := HKM.out
  rw [hks3] at hkm3
  have e2 : keyHP B (showS S ⟨k0, k1, k2, k3⟩ was (some t)) = HP.mapOf grpKT keysHP B.m4 (S.keys) := by
    unfold keyHP showS
    (simp only [hkm3, if_true, if_false, hks3]) <;> rfl
  rw [e2]
  exact h10
end
end Go.Proofs.YtagljjhfkhadpaaGreat
/- (*Store).show. -/
namespace Go.Proofs.YtagljjhfkhadpaaGreat
open Go.RowKit
section
variable {W w : World} {I : Hp} {l : List HP} {p : Nat} {S : Str}
set_option maxRecDepth 4000
set_option maxHeartbeats 2000000
theorem show_there_out {B : SB} {X : HP} {v : Value} {t : TS} (ht : t.small) (k : K4) (hX : Spot k B.m1 S.seen X) (was : Int) (h : St W I w (storeBlk p S B :: X :: dryHP B S :: lateHP B S :: keyHP B S :: thingHP v t :: l)) (hr : Rising (keysAt S k.grp)) (hn : (keysAt S k.grp).length ≤ 100000) (hk : k ∉ keysAt S k.grp) :
    Calls Tryz.prog 54 #[.pointer (some ⟨p, 0, none⟩), k.val, .int .i64 was, v] w fun e w' => e = .returned (.tuple #[]) ∧ St W I w' (storeBlk p (showS S k was (some t)) B :: thingHP v t :: HP.hole keyKT thingHP B.m1 k v (del k S.seen) :: dryHP B S :: lateHP B S :: keyHP B (showS S k was (some t)) :: l) := by
  obtain ⟨k0, k1, k2, k3⟩ := k
  unfold K4.val
  have h2 := (h.alloc (.cells #[.int .i64 k0, .int .i64 k1, .int .i64 k2, .int .i64 k3] 30)).alloc (.cells #[.int .i64 k0, .int .i64 k1] 65)
  rw [show (w.alloc (.cells #[.int .i64 k0, .int .i64 k1, .int .i64 k2, .int .i64 k3] 30)).heap.size = w.heap.size + 1 by simp] at h2
  obtain ⟨w2, hw2⟩ : ∃ w2, (w.alloc (.cells #[.int .i64 k0, .int .i64 k1, .int .i64 k2, .int .i64 k3] 30)).alloc (.cells #[.int .i64 k0, .int .i64 k1] 65) = w2 := ⟨_, rfl⟩
  rw [hw2] at h2
  have HW2 := Lib.hid hw2
  clear hw2
  have c8 := (h2.pull 2 _ rfl).blk 8
  have g0 := cells_of h2.heap 0
  have g1 := cells_of h2.heap 1
  simp [storeCells] at c8 g0 g1
  obtain ⟨vk, HK, hlk, h3, hback, hput⟩ := (h2.drew.pull 6 _ rfl).look_or (x0 := []) Tryz.underlying51 (fun w => by kernel_rfl) (fun I w l h => h.row_nil _ _) ⟨k0, k1⟩
  have hlk := hlk _ (Below.refl _ _) false
  simp only [grpKT, G2.val] at hlk
  have hks : (get (⟨k0, k1⟩ : G2) S.keys).getD [] = keysAt S (K4.mk k0 k1 k2 k3).grp := rfl
  rw [hks] at h3 hback
  have H2 := Lib.hid h2
  have H3 := Lib.hid h3
  have HB := Lib.hid hback
  have HP' := Lib.hid hput
  obtain ⟨ks, hks2⟩ : ∃ ks, ks = keysAt S (K4.mk k0 k1 k2 k3).grp := ⟨_, rfl⟩
  have HKS := Lib.hid hks2
  rw [← hks2] at H3 HB hr hn hk
  clear hks hks2 h2 h3 hback hput
  have hx2 := (H2.out.pull 1 _ rfl).heap
  obtain ⟨Av, cv, rfl⟩ := is_slice H3.out.row_owns
  have HX2 := Lib.hid hx2
  have HR := Lib.hid hr
  have HKM := Lib.hid hk
  clear hx2 h hr hk
  go_enter Tryz.func54, Tryz.ntmps54
  go_wp2_with fail
  rw [HW2.out]
  refine wp_region_calm [] [0, 1, 2, 3, 4, 5, 6] [] (by kernel_rfl) (by kernel_rfl) ?_
  simp only [pickL, List.getElem?_cons_zero, List.getElem?_cons_succ]
  repeat (refine wpPlain_step _ (Or.inl ⟨by rfl, by intro w; go_simp; try with_reducible rfl⟩) ?_; (try simp only [Act.put, List.setIfInBounds_toArray, List.set_cons_zero, List.set_cons_succ]))
  refine wpPlain_nil ?_
  repeat still_step
  refine wpStill_nil ?_
  go_wp2_with fail
  refine NoPanic.normal ?_
  have x0 := cells_of (w := w2.drew) HX2.out 0
  have x1 := cells_of (w := w2.drew) HX2.out 1
  have x2 := cells_of (w := w2.drew) HX2.out 2
  have x3 := cells_of (w := w2.drew) HX2.out 3
  simp at x0 x1 x2 x3
  clear hlk c8 g0 g1
  go_wp2_with fail
  refine (search_spec ⟨k0, k1, k2, k3⟩ H3.out (by omega) HR.out).mono ?_
  rintro e w4 ⟨hb4, i, hpl, rfl⟩
  have HPL := Lib.hid hpl
  have hin : decide (ks[i]? = some ⟨k0, k1, k2, k3⟩) = false := by
    rw [decide_eq_false_iff_not]; exact fun q => HKM.out ((place_mem HR.out HPL.out).1 q)
  rw [hin]
  have h4 := H3.out.keep hb4
  have H4 := Lib.hid h4
  have HIN := Lib.hid hin
  clear hb4 hpl h4 hin x0 x1 x2 x3
  have h4 : St W I w4 (keysHP (.slice Av ks.length cv) ks :: HK :: HP.pt (w.heap.size + 1) (.cells #[.int .i64 k0, .int .i64 k1] 65) :: HP.pt w.heap.size (.cells #[.int .i64 k0, .int .i64 k1, .int .i64 k2, .int .i64 k3] 30) :: storeBlk p S B :: X :: dryHP B S :: lateHP B S :: thingHP v t :: l) := H4.out
  have c5 := (h4.pull 4 _ rfl).blk 5
  have hxk := (h4.pull 3 _ rfl).heap
  have x0 := cells_of hxk 0
  have x1 := cells_of hxk 1
  have x2 := cells_of hxk 2
  have x3 := cells_of hxk 3
  simp [storeCells] at c5 x0 x1 x2 x3
  have h4' : St W I w4.drew (thingHP v t :: X :: keysHP (.slice Av ks.length cv) ks :: HK :: HP.pt (w.heap.size + 1) (.cells #[.int .i64 k0, .int .i64 k1] 65) :: HP.pt w.heap.size (.cells #[.int .i64 k0, .int .i64 k1, .int .i64 k2, .int .i64 k3] 30) :: storeBlk p S B :: dryHP B S :: lateHP B S :: l) := h4.drew.perm (by ((try simp only [List.eraseIdx_cons_succ, List.eraseIdx_cons_zero, List.cons_append, List.nil_append]); repeat (first | with_reducible exact List.Perm.refl _ | (apply perm_step; (· repeat (first | with_reducible exact find_here | with_reducible apply find_there))))))
  obtain ⟨w5, hr5, hs5, h5⟩ := hX.puts h4'
  simp only [keyKT, K4.val] at hr5
  obtain ⟨bt, mt, vbt, hve, _⟩ := h5.thing_open
  subst hve
  have H5 := Lib.hid h5
  have HR5 := Lib.hid hr5
  clear h4 h4' h5 hxk hr5 hs5
  go_wp2_with fail
  refine wp_region_calm [] [0, 1, 2, 3, 4, 5] [6] (by kernel_rfl) (by kernel_rfl) ?_
  simp only [pickL, List.getElem?_cons_zero, List.getElem?_cons_succ]
  repeat (refine wpPlain_step _ (Or.inl ⟨by rfl, by intro w; go_simp; try with_reducible rfl⟩) ?_; (try simp only [Act.put, List.setIfInBounds_toArray, List.set_cons_zero, List.set_cons_succ]))
  refine wpPlain_nil ?_
  repeat still_step
  refine wpStill_nil ?_
  have hr5 := HR5.out
  go_wp2_with fail
  refine NoPanic.normal ?_
  clear c5 x0 x1 x2 x3 hr5
  have h5 : St W I w5 (keysHP (.slice Av ks.length cv) ks :: HK :: HP.pt (w.heap.size + 1) (.cells #[.int .i64 k0, .int .i64 k1] 65) :: storeBlk p S B :: HP.pt w.heap.size (.cells #[.int .i64 k0, .int .i64 k1, .int .i64 k2, .int .i64 k3] 30) :: thingHP (.pointer (some ⟨bt, 0, none⟩)) t :: HP.hole keyKT thingHP B.m1 ⟨k0, k1, k2, k3⟩ (.pointer (some ⟨bt, 0, none⟩)) (del ⟨k0, k1, k2, k3⟩ S.seen) :: dryHP B S :: lateHP B S :: l) := H5.out.perm (by ((try simp only [List.eraseIdx_cons_succ, List.eraseIdx_cons_zero, List.cons_append, List.nil_append]); repeat (first | with_reducible exact List.Perm.refl _ | (apply perm_step; (· repeat (first | with_reducible exact find_here | with_reducible apply find_there))))))
  have hxk := (h5.pull 4 _ rfl).heap
  have x0 := cells_of hxk 0
  have x1 := cells_of hxk 1
  have x2 := cells_of hxk 2
  have x3 := cells_of hxk 3
  simp at x0 x1 x2 x3
  clear hxk
  have c8 := (h5.pull 3 _ rfl).blk 8
  have hg := (h5.pull 2 _ rfl).heap
  have g0 := cells_of hg 0
  have g1 := cells_of hg 1
  simp [storeCells] at c8 g0 g1
  have H5' := Lib.hid h5
  have z1 : IntKind.i64.wrap ((i : Int) + 1) = (i : Int) + 1 := by
    have := HPL.out.le
    rw [IntKind.wrap_i64]; omega
  clear h5 hg
  go_wp2_with fail
  refine wp_region_keep (fun w' => w'.cell? ⟨p, 8, none⟩ = some (.map (some B.m4)) ∧ w'.cell? ⟨w.heap.size + 1, 0, none⟩ = some (.int .i64 k0) ∧ w'.cell? ⟨w.heap.size + 1, 1, none⟩ = some (.int .i64 k1) ∧ w'.cell? ⟨w.heap.size, 0, none⟩ = some (.int .i64 k0) ∧ w'.cell? ⟨w.heap.size, 1, none⟩ = some (.int .i64 k1) ∧ w'.cell? ⟨w.heap.size, 2, none⟩ = some (.int .i64 k2) ∧ w'.cell? ⟨w.heap.size, 3, none⟩ = some (.int .i64 k3)) [0, 1, 2, 3, 4, 5, 6, 7] [8, 9] [10] (by kernel_rfl) (by kernel_rfl) (by (exact ⟨c8, g0, g1, x0, x1, x2, x3⟩)) ?_
  simp only [pickL, List.getElem?_cons_zero, List.getElem?_cons_succ]
  repeat (refine wpFirst_step _ (Or.inl ⟨by rfl, by (intro w hSw; (try dsimp only at hSw); go_simp; try with_reducible rfl)⟩) ?_; (try simp only [Act.put, List.setIfInBounds_toArray, List.set_cons_zero, List.set_cons_succ]))
  refine wpFirst_nil ?_
  unfold wpHold
  go_wp2_with fail
  have hs0 := (H5'.out.alloc (.cells #[.int .i64 k0, .int .i64 k1, .int .i64 k2, .int .i64 k3] 30)).drew
  obtain ⟨wn, hwn⟩ : ∃ wn, (w5.alloc (.cells #[.int .i64 k0, .int .i64 k1, .int .i64 k2, .int .i64 k3] 30)).drew = wn := ⟨_, rfl⟩
  rw [hwn] at hs0 ⊢
  clear hwn
  have c8b := (hs0.pull 4 _ rfl).blk 8
  have hgb := (hs0.pull 3 _ rfl).heap
  have hkb := (hs0.pull 5 _ rfl).heap
  have g0b := cells_of hgb 0
  have g1b := cells_of hgb 1
  have x0b := cells_of hkb 0
  have x1b := cells_of hkb 1
  have x2b := cells_of hkb 2
  have x3b := cells_of hkb 3
  simp [storeCells] at c8b g0b g1b x0b x1b x2b x3b
  have HS0 := Lib.hid hs0
  clear hs0 hgb hkb
  refine holdPost_normal ⟨c8b, g0b, g1b, x0b, x1b, x2b, x3b⟩ ?_
  unfold wpHold
  clear c8 g0 g1 x0 x1 x2 x3
  go_wp2_with fail
  refine (insert_spec ⟨k0, k1, k2, k3⟩ HS0.out (by omega) HPL.out.le).mono ?_
  rintro e w6 ⟨v6, rfl, h6⟩
  rw [place_ins HPL.out] at h6
  obtain ⟨A6, c6, rfl⟩ := is_slice h6.row_owns
  obtain ⟨w7, hr7, hs7, h7⟩ := HP'.out I w6 _ _ _ h6
  simp only [grpKT, G2.val] at hr7
  have c8' := (h6.pull 3 _ rfl).blk 8
  have hg' := (h6.pull 2 _ rfl).heap
  have hk' := (h6.pull 4 _ rfl).heap
  have g0' := cells_of hg' 0
  have g1' := cells_of hg' 1
  have x0' := cells_of hk' 0
  have x1' := cells_of hk' 1
  have x2' := cells_of hk' 2
  have x3' := cells_of hk' 3
  simp [storeCells] at c8' g0' g1' x0' x1' x2' x3'
  have H7 := Lib.hid h7
  have HR7 := Lib.hid hr7
  clear h6 h7 hr7 hg' hk' z1 c8b g0b g1b x0b x1b x2b x3b
  go_wp2_with fail
  refine holdPost_normal ⟨c8', g0', g1', x0', x1', x2', x3'⟩ ?_
  have hr7 := HR7.out
  unfold wpHold
  go_wp2_with fail
  refine NoPanic.normal ?_
  clear hr7 c8' g0' g1' x0' x1' x2' x3'
  go_wp2_with fail
  have h8 : St W I w7 (storeBlk p S B :: thingHP (.pointer (some ⟨bt, 0, none⟩)) t :: HP.hole keyKT thingHP B.m1 ⟨k0, k1, k2, k3⟩ (.pointer (some ⟨bt, 0, none⟩)) (del ⟨k0, k1, k2, k3⟩ S.seen) :: dryHP B S :: lateHP B S :: HP.mapOf grpKT keysHP B.m4 (put ⟨k0, k1⟩ (addK ⟨k0, k1, k2, k3⟩ ks) S.keys) :: l) := ((H7.out.pull 1 _ rfl).drop.pull 2 _ rfl).drop.perm (by ((try simp only [List.eraseIdx_cons_succ, List.eraseIdx_cons_zero, List.cons_append, List.nil_append]); repeat (first | with_reducible exact List.Perm.refl _ | (apply perm_step; (· repeat (first | with_reducible exact find_here | with_reducible apply find_there))))))
  have c1 := h8.blk 1
  simp [storeCells] at c1
  have H8 := Lib.hid h8
  clear h8
  refine wp_region_keep (fun w' => w'.cell? ⟨p, 1, none⟩ = some (.int .i64 S.used)) [0, 1, 2, 3, 4, 6] [5, 7] [8, 9, 10, 11] (by kernel_rfl) (by kernel_rfl) (by (exact c1)) ?_
  simp only [pickL, List.getElem?_cons_zero, List.getElem?_cons_succ]
  repeat (refine wpFirst_step _ (Or.inl ⟨by rfl, by (intro w hSw; (try dsimp only at hSw); go_simp; try with_reducible rfl)⟩) ?_; (try simp only [Act.put, List.setIfInBounds_toArray, List.set_cons_zero, List.set_cons_succ]))
  refine wpFirst_nil ?_
  unfold wpHold
  go_wp2_with fail
  refine (size_spec (H8.out.drew.pull 1 _ rfl) (by have := ht.1; omega)).mono ?_
  rintro e w9 ⟨rfl, h9⟩
  have c1' := (h9.pull 1 _ rfl).blk 1
  have f1 := frozen_of_row (h9.pull 1 _ rfl).heap 1
  simp [storeCells] at c1'
  have H9 := Lib.hid h9
  clear h9
  go_wp2_with fail
  refine holdPost_normal c1' ?_
  unfold wpHold
  go_wp2_with fail
  refine holdPost_normal c1' ?_
  unfold wpHold
  go_wp2_with fail
  refine NoPanic.normal ?_
  clear c1 f1 c1'
  go_wp2_with fail
  go_end0
  refine ⟨rfl, ?_⟩
  have h9 : St W I w9 (storeBlk p S B :: thingHP (.pointer (some ⟨bt, 0, none⟩)) t :: HP.hole keyKT thingHP B.m1 ⟨k0, k1, k2, k3⟩ (.pointer (some ⟨bt, 0, none⟩)) (del ⟨k0, k1, k2, k3⟩ S.seen) :: dryHP B S :: lateHP B S :: HP.mapOf grpKT keysHP B.m4 (put ⟨k0, k1⟩ (addK ⟨k0, k1, k2, k3⟩ ks) S.keys) :: l) := H9.out.perm (by ((try simp only [List.eraseIdx_cons_succ, List.eraseIdx_cons_zero, List.cons_append, List.nil_append]); repeat (first | with_reducible exact List.Perm.refl _ | (apply perm_step; (· repeat (first | with_reducible exact find_here | with_reducible apply find_there))))))
  have h10 := h9.setCell 1 (.int .i64 (IntKind.i64.wrap (S.used + (t.size - was))))
  have e1 : wrap64 (S.used + wrap64 (wrap64 t.size - was)) = IntKind.i64.wrap (S.used + (t.size - was)) := by simp only [wrap64, IntKind.wrap_i64]; omega
  rw [e1]
  have hks3 := HKS.out
  have hkm3 := HKM.out
  rw [hks3] at hkm3
  have e2 : keyHP B (showS S ⟨k0, k1, k2, k3⟩ was (some t)) = HP.mapOf grpKT keysHP B.m4 (put ⟨k0, k1⟩ (addK ⟨k0, k1, k2, k3⟩ ks) S.keys) := by
    unfold keyHP showS
    (simp only [hkm3, if_true, if_false, hks3]) <;> rfl
  rw [e2]
  exact h10
/-- An object is shown: it stays in sight. -/
theorem show_there_at {B : SB} {X : HP} {v : Value} {t : TS} (ht : t.small) (k : K4) (hX : Spot k B.m1 S.seen X) (was : Int) (h : St W I w (storeBlk p S B :: X :: dryHP B S :: lateHP B S :: keyHP B S :: thingHP v t :: l)) (hr : Rising (keysAt S k.grp)) (hn : (keysAt S k.grp).length ≤ 100000) :
    Calls Tryz.prog 54 #[.pointer (some ⟨p, 0, none⟩), k.val, .int .i64 was, v] w fun e w' => e = .returned (.tuple #[]) ∧ St W I w' (storeBlk p (showS S k was (some t)) B :: thingHP v t :: HP.hole keyKT thingHP B.m1 k v (del k S.seen) :: dryHP B (showS S k was (some t)) :: lateHP B (showS S k was (some t)) :: keyHP B (showS S k was (some t)) :: l) := by
  by_cases hk : k ∈ keysAt S k.grp
  · exact show_there_in ht k hX was h hr hn hk
  · exact show_there_out ht k hX was h hr hn hk
/-- What is shown of a key behind a deed. -/
theorem show_at {B : SB} {X : HP} {v : Value} {o : Option TS} (ho : smallO o) (k : K4) (hX : Spot k B.m1 S.seen X) (was : Int) (h : St W I w (storeBlk p S B :: X :: dryHP B S :: lateHP B S :: keyHP B S :: optHP v o :: l)) (hr : Rising (keysAt S k.grp)) (hn : (keysAt S k.grp).length ≤ 100000) :
    Calls Tryz.prog 54 #[.pointer (some ⟨p, 0, none⟩), k.val, .int .i64 was, v] w fun e w' => e = .returned (.tuple #[]) ∧ St W I w' (storeBlk p (showS S k was o) B :: seenHP B (showS S k was o) :: dryHP B (showS S k was o) :: lateHP B (showS S k was o) :: keyHP B (showS S k was o) :: l) := by
  cases o with
  | none =>
    obtain ⟨rfl, h1⟩ := (h.pull 5 _ rfl).pure_open
    by_cases hk : k ∈ keysAt S k.grp
    · exact show_gone_in k hX was h1 hr hn hk
    · exact show_gone_out k hX was h1 hr hn hk
  | some t =>
    refine (show_there_at ho k hX was h hr hn).mono ?_
    rintro e w' ⟨rfl, h1⟩
    exact ⟨rfl, (St.hole_back (h1.perm (m := thingHP v t :: HP.hole keyKT thingHP B.m1 k v (del k S.seen) :: storeBlk p (showS S k was (some t)) B :: dryHP B (showS S k was (some t)) :: lateHP B (showS S k was (some t)) :: keyHP B (showS S k was (some t)) :: l) (by ((try simp only [List.eraseIdx_cons_succ, List.eraseIdx_cons_zero, List.cons_append, List.nil_append]); repeat (first | with_reducible exact List.Perm.refl _ | (apply perm_step; (· repeat (first | with_reducible exact find_here | with_reducible apply find_there)))))))).pull 1 _ rfl⟩
theorem show_spec {B : SB} {v : Value} {o : Option TS} (ho : smallO o) (k : K4) (was : Int) (h : St W I w (storeBlk p S B :: seenHP B S :: dryHP B S :: lateHP B S :: keyHP B S :: optHP v o :: l)) (hr : Rising (keysAt S k.grp)) (hn : (keysAt S k.grp).length ≤ 100000) :
    Calls Tryz.prog 54 #[.pointer (some ⟨p, 0, none⟩), k.val, .int .i64 was, v] w fun e w' => e = .returned (.tuple #[]) ∧ St W I w' (storeBlk p (showS S k was o) B :: seenHP B (showS S k was o) :: dryHP B (showS S k was o) :: lateHP B (showS S k was o) :: keyHP B (showS S k was o) :: l) :=
  show_at ho k (spot_seen k B.m1 S.seen) was h hr hn
end
end Go.Proofs.YtagljjhfkhadpaaGreat
/- (*Store).Fuse. -/
namespace Go.Proofs.YtagljjhfkhadpaaGreat
open Go.RowKit
def fuseS (S : Str) (n : Int) (keep : List Int) (torn : Int) : Str :=
  if 0 ≤ n then { S with armed := true, fuse := n, keep := keep, torn := torn } else { S with armed := false, fuse := 0, keep := [], torn := 0 }
section
variable {W w : World} {I : Hp} {l : List HP} {p : Nat} {S : Str}
set_option maxRecDepth 4000
set_option maxHeartbeats 4000000
theorem ints_src (h : St W I w l) {v : Value} {q : List Int} (hb : IntsI I v q) : SliceSrc w 1 v q.length (q.map intV) := RowI.src hb h.imm (ints_one q) (by omega)
theorem ints_nil (I : Hp) : IntsI I (.slice none 0 0) [] := ⟨none, 0, rfl, rfl, Nat.le_refl _, by unfold maxLen; omega, fun _ => rfl, fun h => absurd h (by simp)⟩
theorem fuse_spec {B : SB} (n : Int) (kv : Value) (keep : List Int) (torn : Int) (h : St W I w (storeBlk p S B :: l)) (hk : IntsI I kv keep) (hn : keep.length ≤ 1000000) :
    Calls Tryz.prog 38 #[.pointer (some ⟨p, 0, none⟩), .int .i64 n, kv, .int .i64 torn] w fun e w' => e = .returned (.tuple #[]) ∧ ∃ vk I', I.sub I' ∧ IntsI I' vk (fuseS S n keep torn).keep ∧ St W I' w' (storeBlk p (fuseS S n keep torn) { B with vk := vk } :: l) := by
  have f9 := frozen_of_row h.heap 9
  have f10 := frozen_of_row h.heap 10
  have f11 := frozen_of_row h.heap 11
  have f12 := frozen_of_row h.heap 12
  have c9 := h.blk 9
  have c10 := h.blk 10
  have c11 := h.blk 11
  have c12 := h.blk 12
  simp [storeCells] at c9 c10 c11 c12
  have h2 : St W I ((((w.setCell ⟨p, 9, none⟩ (.bool false)).setCell ⟨p, 10, none⟩ (.int .i64 0)).setCell ⟨p, 12, none⟩ (.slice none 0 0)).setCell ⟨p, 11, none⟩ (.int .i64 0)) (storeBlk p { S with armed := false, fuse := 0, keep := [], torn := 0 } { B with vk := .slice none 0 0 } :: l) := (((h.setCell 9 (.bool false)).setCell 10 (.int .i64 0)).setCell 12 (.slice none 0 0)).setCell 11 (.int .i64 0)
  have H := Lib.hid h2
  have HK := Lib.hid (ints_src h2 hk)
  have HKI := Lib.hid hk
  obtain ⟨A, c, rfl, _⟩ := hk
  clear h h2
  by_cases h0 : 0 ≤ n
  · go_enter Tryz.func38, Tryz.ntmps38
    go_wp2_with fail
    generalize (((w.setCell ⟨p, 9, none⟩ (.bool false)).setCell ⟨p, 10, none⟩ (.int .i64 0)).setCell ⟨p, 12, none⟩ (.slice none 0 0)).setCell ⟨p, 11, none⟩ (.int .i64 0) = w2 at *
    refine (cloneI_spec _ _ _ _ HK.out hn).mono ?_
    rintro e w4 ⟨v4, rfl, ho4, hb4⟩
    obtain ⟨A4, k4, rfl⟩ := is_slice ho4
    obtain ⟨I', h1, h3, h4⟩ := (H.out.row_fresh hb4 ho4).freeze_row
    have f9' := frozen_of_row h4.heap 9
    have f10' := frozen_of_row h4.heap 10
    have f11' := frozen_of_row h4.heap 11
    have f12' := frozen_of_row h4.heap 12
    have c9' := h4.blk 9
    have c10' := h4.blk 10
    have c11' := h4.blk 11
    have c12' := h4.blk 12
    simp [storeCells] at c9' c10' c11' c12'
    have h5 := (((h4.setCell 9 (.bool true)).setCell 10 (.int .i64 n)).setCell 12 (.slice A4 keep.length k4)).setCell 11 (.int .i64 torn)
    have H5 := Lib.hid h5
    have HI := Lib.hid h1
    have HR := Lib.hid h3
    clear h5 h4 h3 h1 ho4 hb4 c9 c10 c11 c12 f9 f10 f11 f12
    go_wp2_with fail
    go_end0
    refine ⟨rfl, .slice A4 keep.length k4, I', HI.out, ?_, ?_⟩
    · rw [show (fuseS S n keep torn).keep = keep by simp [fuseS, h0]]
      exact HR.out
    · rw [show fuseS S n keep torn = { S with armed := true, fuse := n, keep := keep, torn := torn } by simp [fuseS, h0]]
      exact H5.out
  · go_enter Tryz.func38, Tryz.ntmps38
    go_wp2_with fail
    go_end0
    refine ⟨rfl, .slice none 0 0, I, Hp.sub.refl _, ?_, ?_⟩
    · rw [show (fuseS S n keep torn).keep = [] by unfold fuseS; rw [if_neg (by omega)]]
      exact ints_nil I
    · rw [show fuseS S n keep torn = { S with armed := false, fuse := 0, keep := [], torn := 0 } by unfold fuseS; rw [if_neg (by omega)]]
      exact H.out
end
end Go.Proofs.YtagljjhfkhadpaaGreat
/- maps.Keys of a map of keys that are structs, and slices.Collect over it. -/
namespace Go.Proofs.YtagljjhfkhadpaaGreat
open Go.RowKit Go.Shelf
attribute [local go_sem] Oper.semAt_some
section
theorem iter_left' {w : World} {m r : Nat} {L left : List (K4 × Value)} (h : (HP.iter keyKT m r L left).p Hp.nil w.hp) : w.rangeLeft m r = left.length := (iter_at h).iter_left
theorem iter_walks {w w' : World} {m r : Nat} {L left : List (K4 × Value)} (h : (HP.iter keyKT m r L left).p Hp.nil w.hp) (hk : KeepsWalks w w') : (HP.iter keyKT m r L left).p Hp.nil w'.hp := by
  obtain ⟨es, clock, L', since, seen, c0, h1, h2, h3, h4, h5⟩ := h
  exact ⟨es, clock, L', since, seen, c0, hk.same _ _ h1 rfl, h2, h3, hk.same _ _ h4 rfl, h5⟩
theorem iter_grown {w w' : World} {m r : Nat} {L left : List (K4 × Value)} (h : (HP.iter keyKT m r L left).p Hp.nil w.hp) (hg : w.grownBy w' none) : (HP.iter keyKT m r L left).p Hp.nil w'.hp := by
  obtain ⟨es, clock, L', since, seen, c0, h1, h2, h3, h4, h5⟩ := h
  have old : ∀ {b o}, w.hp b = some o → w'.hp b = some o := fun {b o} e => (hg.block b (Array.getElem?_eq_some_iff.1 (show w.heap[b]? = some o from e)).1 (by simp)).trans e
  exact ⟨es, clock, L', since, seen, c0, old h1, h2, h3, old h4, h5⟩
theorem iter_is {w : World} {m r : Nat} {L left : List (K4 × Value)} (h : (HP.iter keyKT m r L left).p Hp.nil w.hp) : ∃ o : Obj, w.heap[r]? = some o ∧ o.isWalk = true := by
  obtain ⟨es, clock, L', since, seen, c0, h1, h2, h3, h4, h5⟩ := h
  exact ⟨_, h4, rfl⟩
theorem iter_start {w : World} {m : Nat} {L : List (K4 × Value)} (h : (HP.map keyKT m L).p Hp.nil w.hp) : ∃ w', (Instr.range 50 (.map (some m))).run Tryz.prog w = .ok (.pointer (some ⟨w.heap.size, 0, none⟩)) w' ∧ (HP.iter keyKT m w.heap.size L L).p Hp.nil w'.hp ∧ w.grownBy w' none := by
  obtain ⟨es, clock, L1, hb, q, p⟩ := h
  have hrun := run_range_map (P := Tryz.prog) w _ _ _ m es clock Tryz.underlying50 hb
  have s : St { w with heap := #[] } Hp.nil w [HP.map keyKT m L] := ⟨rfl, rfl, rfl, fun c o e => by simp [World.hp] at e, Hp.nil_sub _, w.hp, Hp.sub.refl _, (Hp.disj_nil _).symm, w.hp, Hp.nil, Hp.disj_nil _, Hp.sub.refl _, Hp.nil_sub _, ⟨es, clock, L1, hb, q, p⟩, trivial⟩
  obtain ⟨w2, hr2, _, s2⟩ := s.range (P := Tryz.prog) Tryz.underlying50
  rw [hrun] at hr2
  cases hr2
  exact ⟨_, hrun, s2.iter_out, World.grownBy_alloc _ _ _⟩
set_option maxRecDepth 100000 in
set_option maxHeartbeats 2000000 in
theorem keys1_in (F : Fence) (n : Nat) (hF : F.fn 70) (hro : F.round = none) (hn : 1 ≤ n) (Bm m : Nat) (L : List (K4 × Value)) (w : World) (hBm : Bm < w.heap.size) (hmlt : m < w.heap.size)
    (hm : w.cell? ⟨Bm, 0, none⟩ = some (.map (some m))) (hL : (HP.map keyKT m L).p Hp.nil w.hp) :
    SeqStopsK F n Tryz.prog 70 #[.pointer (some ⟨Bm, 0, none⟩)] (fun k : K4 => #[k.val]) KeepsWalks (fun xs => xs.Perm (L.map (·.1))) (fun _ => True) L.length w := fun l J Jx W hW hJ hJx hY h0 => by
  have hm' := (hW.cell (p := ⟨Bm, 0, none⟩) hBm).trans hm
  have hL' : (HP.map keyKT m L).p Hp.nil W.hp := by
    obtain ⟨es, clock, L1, hb, q, p⟩ := hL
    exact ⟨es, clock, L1, (hW.block m hmlt).trans hb, q, p⟩
  obtain ⟨w0, hrun0, hit0, hg0⟩ := iter_start hL'
  refine callsIn_of_wp Tryz.func70 rfl hF ?_ hro
  simp only [Tryz.ntmps70, List.size_toArray, List.length_cons, List.length_nil, Nat.reduceAdd, Nat.reduceSub, Array.replicate_succ, Array.replicate_zero, List.push_toArray, List.append_toArray, List.nil_append, List.cons_append]
  have HJ := Lib.hid hJ
  have HY := Lib.hid hY
  have HIT0 := Lib.hid hit0
  have HJ0 := Lib.hid (hJ [] W w0 none h0 hg0 (fun r e => by cases e))
  clear hJ hY hit0 hJx hL' hL hW hm
  gi_wp2
  gi_loopw [3] (fun _ wr => ∃ (left : List (K4 × Value)) (done : List K4), (left.map (·.1) ++ done).Perm (L.map (·.1)) ∧ (HP.iter keyKT m W.heap.size L left).p Hp.nil wr.hp ∧ J done wr) (fun _ wr => wr.rangeLeft m W.heap.size)
  case atStart => exact ⟨L, [], by simp, HIT0.out, HJ0.out⟩
  case round =>
    obtain ⟨left, done, hp, hit, hJs⟩ := hrel
    have hlen : left.length + done.length = L.length := by have := hp.length_eq; simpa using this
    rcases next_plain (P := Tryz.prog) hit 0 with ⟨rfl, hrun⟩ | ⟨a, v, left', w2, hpl, hrun, hent, hit2, hg2⟩
    · have HP' := Lib.hid hp
      have HJS := Lib.hid hJs
      clear hp hJs hit hlen
      gi_wp2
      go_end0
      exact ⟨⟨_, rfl⟩, .inl ⟨done, by simpa using HP'.out, HJS.out⟩⟩
    · have hJ2 : J done w2 := HJ.out done wr w2 (some W.heap.size) hJs hg2 (fun r e => by cases e; exact ⟨Nat.le_refl _, iter_is hit⟩)
      obtain ⟨a0, a1, a2, a3⟩ := a
      simp only [keyKT, K4.val] at hrun hent
      have hg4 : w2.grownBy (w2.alloc (.cells #[.int .i64 a0, .int .i64 a1, .int .i64 a2, .int .i64 a3] 30)) none := World.grownBy_alloc _ _ _
      have hJ4 := HJ.out done w2 _ none hJ2 hg4 (fun r e => by cases e)
      have hit4 := iter_grown hit2 hg4
      have hlt : done.length < L.length := by have := hpl.length_eq; simp at this; omega
      obtain ⟨fn, tmps, assign, body, hy, hR⟩ := HY.out done ⟨a0, a1, a2, a3⟩ _ hJ4 hlt
      simp only [K4.val] at hy
      have HP' := Lib.hid hp
      have HPL := Lib.hid hpl
      have HIT := Lib.hid hit
      have HIT4 := Lib.hid hit4
      have HR := Lib.hid hR
      clear hp hpl hit hit4 hit2 hJ2 hJ4 hJs hg2 hg4 hlen hlt hR
      gi_wp2
      refine HR.out.mono ?_
      rintro e W3 (⟨rfl, hJ3, hk3⟩ | ⟨rfl, hJx3⟩)
      · have hit5 := iter_walks HIT4.out hk3
        have HIT5 := Lib.hid hit5
        clear hit5 hk3
        gi_wp2
        go_roundw
        case rel =>
          refine ⟨left', done ++ [⟨a0, a1, a2, a3⟩], ?_, HIT5.out, hJ3⟩
          refine List.Perm.trans ?_ HP'.out
          have h1 := (HPL.out.map (·.1)).append_right done
          refine List.Perm.trans ?_ h1.symm
          simp only [List.map_cons, List.cons_append]
          rw [← List.append_assoc]
          exact List.perm_append_comm (l₂ := [_])
        case measure =>
          rw [iter_left' HIT5.out, iter_left' HIT.out]
          have := HPL.out.length_eq
          simp at this
          omega
      · gi_wp2
        (try simp only [Exit.inBlock, Exit.then])
        refine bodyPost_ret (results_none rfl _ _ _) rfl ?_
        exact ⟨⟨_, rfl⟩, .inr ⟨_, trivial, hJx3⟩⟩
theorem block_own {β : Type} (B : Nat) (cs : Array Value) (t : TypeId) (f : Nat × Nat) : Own (fun (_ : β) W => W.heap[B]? = some (.cells cs t f)) := fun s X Y row hs hg hrow => by
  refine (hg.block B (Array.getElem?_eq_some_iff.1 hs).1 (fun e' => ?_)).trans hs
  obtain ⟨o, ho, hc⟩ := hrow B e'.symm
  rw [hs] at ho
  cases ho
  cases hc
set_option maxRecDepth 100000 in
set_option maxHeartbeats 2000000 in
theorem appendSeq_in (F : Fence) (n : Nat) (hF : F.fn 80) (hro : F.round = none) (hn : 2 ≤ n) (g : Nat) (lb : Array Value) (hFg : F.fn g) (eg : ∀ args w, (callFunc g args).run Tryz.prog w = .ok (.enter g args) w)
    (S Sp : List K4 → Prop) (N : Nat) (hN : N ≤ 1000000) (w : World) (hseq : SeqStopsK F (n - 1) Tryz.prog g lb (fun k : K4 => #[k.val]) KeepsWalks S Sp N w) :
    CallsIn F n Tryz.prog 80 #[.slice none 0 0, .func (.func g) #[] lb] w fun e w' => ∃ (v : Value) (ss : List K4), e = .returned v ∧ S ss ∧ w'.ownsRow w.heap.size 30 4 v ss.length (kflat ss) ∧ Below w.heap.size w w' := by
  have h1 : 1 ≤ n := by omega
  obtain ⟨i0, hi0, hz0, hz1, hz2⟩ := info_parts cloneK_info
  refine callsIn_of_wp_marks Tryz.func80 rfl hF ?_ hro
  simp only [Tryz.ntmps80, List.size_toArray, List.length_cons, List.length_nil, Nat.reduceAdd, Nat.reduceSub, Array.replicate_succ, Array.replicate_zero, List.push_toArray, List.append_toArray, List.nil_append, List.cons_append]
  gi_wp2
  refine wpIn_rangeFunc_ownH hro h1 (gf := g) (lb := lb) rfl hFg eg hseq walksK_t walksK_b ((Below.refl _ _).alloc (Nat.le_refl _) _) (fun _ => rfl)
    (fun pre W => (∃ v, Boxed W w.heap.size 66 v ∧ W.ownsRow w.heap.size 30 4 v pre.length (kflat pre) ∧ True) ∧ Below w.heap.size w W)
    (fun _ _ _ => False)
    (OwnFrom.and (Own.from (holdsRow_own w.heap.size w.heap.size 66 30 4 (fun pre : List K4 => pre.length) kflat (fun _ _ => True)) _) (ownFrom_below (Nat.le_refl _) (by simp)))
    (fun _ _ _ _ _ hs _ _ => hs) ⟨⟨_, Boxed.new w _ _, ⟨rfl, .inl ⟨rfl, rfl⟩⟩, trivial⟩, (Below.refl _ _).alloc (Nat.le_refl _) _⟩
    (fun x a' W => ∃ Bx, w.heap.size < Bx ∧ W.heap[Bx]? = some (.cells #[.int .i64 x.kind, .int .i64 x.img, .int .i64 x.num, .int .i64 x.snap] 30 (0, 0)) ∧ a' = { tmps := #[.slice none 0 0, .func (.func g) #[] lb, .pointer (some ⟨w.heap.size, 0, none⟩), undef, .slice none 0 0, .pointer (some ⟨Bx, 0, none⟩), .func (.func g) #[] lb, x.val, undef, undef, undef, undef, undef], defers := [] })
    (fun x a' => by
      rintro s X Y row ⟨Bx, h1, h2, h3⟩ hg hr
      exact ⟨Bx, h1, block_own (β := Unit) _ _ _ _ s X Y row h2 hg (fun r e => (hr r e).2), h3⟩) ?assign ?body ?done ?stop
  case assign =>
    rintro l pre ⟨x0, x1, x2, x3⟩ W K ⟨⟨v, hv, hr, _⟩, hB⟩ hK
    simp only [K4.val]
    have HK := Lib.hid hK
    clear hK
    have hlt := hv.lt
    gi_wp2
    exact HK.out _ _ ((KeepsOthers.alloc _ _).from _) (KeepsWalks.alloc _ _) ⟨⟨v, hv.alloc _, hr.alloc _, trivial⟩, (hB.trans ((Below.refl _ _).alloc hB.size _))⟩ ⟨W.heap.size, hlt, World.alloc_heap_new W _, rfl⟩
  case body =>
    rintro l pre ⟨x0, x1, x2, x3⟩ a' W hl ⟨rc, hrc⟩ ⟨⟨v, hv, hrow, _⟩, hB⟩ ⟨Bx, hBx, hx, rfl⟩ hlen
    simp only [K4.val]
    have hc := hv.cell
    have hf := hv.frozen
    have y0 : W.cell? ⟨Bx, 0, none⟩ = some (.int .i64 x0) := cells_of hx 0
    have y1 : W.cell? ⟨Bx, 1, none⟩ = some (.int .i64 x1) := cells_of hx 1
    have y2 : W.cell? ⟨Bx, 2, none⟩ = some (.int .i64 x2) := cells_of hx 2
    have y3 : W.cell? ⟨Bx, 3, none⟩ = some (.int .i64 x3) := cells_of hx 3
    have hnew : ∀ j u, [(.int .i64 x0 : Value), .int .i64 x1, .int .i64 x2, .int .i64 x3][j]? = some u → (W.alloc (.cells #[.int .i64 x0, .int .i64 x1, .int .i64 x2, .int .i64 x3] 30)).cell? ((⟨W.heap.size, 0, none⟩ : Addr).add j) = some u := fun j u hu => by
      rw [add_plain, Nat.zero_add]
      rw [cells_of (World.alloc_heap_new W _) j]
      simpa using hu
    have hpl : pre.length ≤ 1000000 := by omega
    clear hx hrc
    gi_wp2_with (gi_at_builtin; refine wpListIn_append_own _ rfl _ _ 66 rfl w.heap.size 30 i0 _ 4 32 Tryz.underlying66 hi0 hz0 hz1 hz2 rfl (by decide) _ _ _ rfl (hrow.alloc _) ⟨W.heap.size, 0, none⟩ 1 1 [.int .i64 x0, .int .i64 x1, .int .i64 x2, .int .i64 x3] rfl rfl hnew (by simp [Value.oneCell']) (by unfold maxLen; omega) (by omega) (by have := hB.size; simp; omega) ?_; intro v' w1 hown' hgrow _; obtain ⟨g', cap', rfl⟩ := ownsRow_succ hown'; obtain ⟨hv1, hv2, hr2, hk2, hb2⟩ := hv.appended (by decide) hrow hB.size (Nat.le_refl _) hown' hgrow; have hc1 := hv1.cell; have hf1 := hv1.frozen)
    have e1 : (pre ++ [(⟨x0, x1, x2, x3⟩ : K4)]).length = pre.length + 1 := by simp
    have e2 : kflat (pre ++ [(⟨x0, x1, x2, x3⟩ : K4)]) = kflat pre ++ [.int .i64 x0, .int .i64 x1, .int .i64 x2, .int .i64 x3] := kflat_append _ _
    refine ⟨hk2.from _, ⟨hk2.size, fun k o h hw => hk2.same k o h (Obj.not_cells_of_walk hw)⟩, ⟨_, hv2, ?_, trivial⟩, hB.trans hb2⟩
    rw [e1, e2]
    exact hr2
  case done =>
    rintro D ys W hD hS ⟨⟨v, hv, hr, _⟩, hB⟩ hK
    have hc := hv.cell
    have HS := Lib.hid hS
    have HR := Lib.hid hr
    have HB := Lib.hid hB
    have HK := Lib.hid hK
    clear hS hr hB hK
    gi_wp2
    refine ⟨by simp, .inl ⟨_, _, rfl, run_takeDeferred HK.out, ?_⟩⟩
    exact ⟨_, results_tmp rfl _ _ _, v, ys, rfl, HS.out, ownsRow_putObj HR.out _ HK.out rfl, HB.out.trans (belowK_b (w := w) (Nat.le_refl _) W D _ _ (by simp at hD; omega) HK.out rfl rfl)⟩
  case stop =>
    rintro D c pre W _ _ h _
    exact h.elim
set_option maxHeartbeats 1000000 in
theorem collect_in (F : Fence) (n : Nat) (hF : F.fn 68) (hF2 : F.fn 80) (hro : F.round = none) (hn : 3 ≤ n) (g : Nat) (lb : Array Value) (hFg : F.fn g) (eg : ∀ args w, (callFunc g args).run Tryz.prog w = .ok (.enter g args) w)
    (S Sp : List K4 → Prop) (N : Nat) (hN : N ≤ 1000000) (w : World) (hseq : SeqStopsK F (n - 1 - 1) Tryz.prog g lb (fun k : K4 => #[k.val]) KeepsWalks S Sp N w) :
    CallsIn F n Tryz.prog 68 #[.func (.func g) #[] lb] w fun e w' => ∃ (v : Value) (ss : List K4), e = .returned v ∧ S ss ∧ w'.ownsRow w.heap.size 30 4 v ss.length (kflat ss) ∧ Below w.heap.size w w' := by
  have h1 : 1 ≤ n := by omega
  refine callsIn_of_wp Tryz.func68 rfl hF ?_ hro
  simp only [Tryz.ntmps68, List.size_toArray, List.length_cons, List.length_nil, Nat.reduceAdd, Nat.reduceSub, Array.replicate_succ, Array.replicate_zero, List.push_toArray, List.append_toArray, List.nil_append, List.cons_append]
  gi_wp2_with (gi_at_call 80; refine (appendSeq_in F (n - 1) hF2 hro (by omega) g lb hFg eg S Sp N hN _ hseq).mono ?_; rintro e w' ⟨v, ss, rfl, hS, hrow, hb⟩)
  go_ret
  exact ⟨v, ss, rfl, hS, hrow, hb⟩
/-- slices.Collect(maps.Keys(m)): the keys, in some order. -/
theorem collect_keys (Bm m : Nat) (L : List (K4 × Value)) (w : World) (hBm : Bm < w.heap.size) (hmlt : m < w.heap.size) (hm : w.cell? ⟨Bm, 0, none⟩ = some (.map (some m))) (hL : (HP.map keyKT m L).p Hp.nil w.hp) (hN : L.length ≤ 1000000) :
    Calls Tryz.prog 68 #[.func (.func 70) #[] #[.pointer (some ⟨Bm, 0, none⟩)]] w fun e w' => ∃ (v : Value) (ss : List K4), e = .returned v ∧ ss.Perm (L.map (·.1)) ∧ w'.ownsRow w.heap.size 30 4 v ss.length (kflat ss) ∧ Below w.heap.size w w' :=
  (callsIn_wide (n := 5)).1 (collect_in Fence.wide 5 trivial trivial rfl (by omega) _ _ trivial (enters_of Tryz.func70 (by kernel_rfl) rfl) _ _ L.length hN w (keys1_in Fence.wide 3 trivial rfl (by omega) Bm m L w hBm hmlt hm hL))
end
end Go.Proofs.YtagljjhfkhadpaaGreat
