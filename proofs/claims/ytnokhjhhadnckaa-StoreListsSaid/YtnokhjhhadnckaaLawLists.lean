/- StoreLists: the walk. -/
import Derived.Test.YtnokhjhhadnckaaArgs
import Derived.Test.YtnokhjhhadnckaaKnown3
import Derived.Test.YtnokhjhhadnckaaListsPlain
import Derived.Test.YtnokhjhhadnckaaSame10
set_option linter.unusedSimpArgs false
set_option linter.unusedVariables false
set_option linter.unusedSectionVars false
namespace Go.Proofs.Ytnokhjhhadnckaa
open Go.RowKit
def boolArr (T : Nat → Bool) : Array Value := ((List.range 64).map fun i => Value.bool (T i)).toArray
theorem boolArr_get (T : Nat → Bool) {n : Nat} (h : n < 64) : (boolArr T)[n]? = some (.bool (T n)) := by
  unfold boolArr
  simp [h]
theorem boolArr_set (T : Nat → Bool) {n : Nat} (h : n < 64) (b : Bool) : (boolArr T).setIfInBounds n (.bool b) = boolArr (updB T n b) := by
  apply Array.ext
  · simp [boolArr]
  · intro i h1 h2
    have hi : i < 64 := by simpa [boolArr] using h2
    simp only [boolArr, updB, Array.getElem_setIfInBounds, List.getElem_toArray, List.getElem_map, List.getElem_range]
    by_cases e : n = i
    · subst e; simp
    · simp [e, Ne.symm e]
theorem bool_info : (Try.prog.info? 4).map (fun i => (i.zero, i.size, i.bytes)) = some (some (.bool false), 1, 1) := by kernel_rfl
theorem make_bools (w : World) : (Instr.makeSlice 38 (.int .i64 64) (.int .i64 64)).run Try.prog w = .ok (.slice (some ⟨w.heap.size, 0, none⟩) 64 64) (w.alloc (.cells (boolArr fun _ => false) 4)) := by
  obtain ⟨i0, hi0, hz0, hz1, hz2⟩ := info_parts bool_info
  have h := run_makeSlice (P := Try.prog) w 38 4 i0 (.bool false) Try.underlying38 hi0 hz0 .i64 .i64 64 64 (by decide) (by decide) (by rw [hz1]; decide) (by rw [hz2]; decide) (by decide)
  rw [hz1, show madeCells (Value.bool false).cells ((64 : Int).toNat * 1) = boolArr fun _ => false by kernel_rfl] at h
  exact h
/-- What nobody writes is no block that is owned. -/
theorem St.imm_ne {W w : World} {I : Hp} {l : List HP} {b g : Nat} {o q : Obj} (h : St W I w (HP.pt g q :: l)) (hb : I b = some o) : b ≠ g := by
  rintro rfl
  obtain ⟨k, a, d, h1, h2, _, a', _, p, _⟩ := h.own
  rcases d b with e | e
  · rw [hb] at e; cases e
  · rw [a' _ _ (show h1 b = some q from p)] at e; cases e
/-- Is there a bool at i, and which; where it lies. -/
theorem drop_case {I : Hp} {A : Option Addr} {n c : Nat} {bs : List Bool} {i : Nat} (h : RowI I 1 (.slice A n c) bs.length (bs.map boolV)) :
    decide (i < bs.length) = false ∨
    (∃ b o, A = some ⟨b, o, none⟩ ∧ i < bs.length ∧ bs[i]? = some false ∧ (∀ {W w : World} {I' : Hp} {l : List HP}, I.sub I' → St W I' w l → w.cell? ⟨b, o + i, none⟩ = some (.bool false)) ∧ (∀ {W w : World} {I' : Hp} {g : Nat} {q : Obj} {l : List HP}, I.sub I' → St W I' w (HP.pt g q :: l) → b ≠ g)) ∨
    (∃ b o, A = some ⟨b, o, none⟩ ∧ i < bs.length ∧ bs[i]? = some true ∧ (∀ {W w : World} {I' : Hp} {l : List HP}, I.sub I' → St W I' w l → w.cell? ⟨b, o + i, none⟩ = some (.bool true)) ∧ (∀ {W w : World} {I' : Hp} {g : Nat} {q : Obj} {l : List HP}, I.sub I' → St W I' w (HP.pt g q :: l) → b ≠ g)) := by
  by_cases hlt : i < bs.length
  · right
    obtain ⟨A', c', e, h1, h2, h3, h4, h5⟩ := h
    simp only [Value.slice.injEq] at e
    obtain ⟨rfl, rfl, rfl⟩ := e
    obtain ⟨b, off, cs, t, f, rfl, e2, e3⟩ := h5 (by omega)
    have hx : bs[i]? = some bs[i] := List.getElem?_eq_getElem hlt
    have hc : ∀ {W w : World} {I' : Hp} {l : List HP}, I.sub I' → St W I' w l → w.cell? ⟨b, off + i, none⟩ = some (.bool bs[i]) := fun hs hst => by
      rw [cells_of (hst.imm_heap (hs _ _ e2))]
      exact e3 i _ (by rw [List.getElem?_map, hx]; rfl)
    cases hb : bs[i] with
    | false => exact .inl ⟨b, off, rfl, hlt, by rw [hx, hb], (fun hs hst => by rw [hc hs hst, hb]), fun hs hst => hst.imm_ne (hs _ _ e2)⟩
    | true => exact .inr ⟨b, off, rfl, hlt, by rw [hx, hb], (fun hs hst => by rw [hc hs hst, hb]), fun hs hst => hst.imm_ne (hs _ _ e2)⟩
  · left
    rw [decide_eq_false_iff_not]; omega
section
variable {W w : World} {I : Hp} {l : List HP}
/-- append(v, v2...) of ints. -/
theorem St.ints_append {v v2 : Value} {n m : Nat} {xs ys : List Value} (ty : TypeId) (h : St W I w (HP.row 3 1 v n xs :: l)) (hs : SliceSrc w 1 v2 m ys) (hb : n + m ≤ 1000000000) :
    ∃ v' w', (Builtin.append_ #[34, 34] ty #[v, v2]).run Try.prog w = .ok v' w' ∧ St W I w' (HP.row 3 1 v' (n + m) (xs ++ ys) :: l) := by
  obtain ⟨A, c, rfl, hsrc, hA⟩ := hs
  obtain ⟨i0, hi0, hz0, hz1, hz2⟩ := info_parts cloneI_info
  obtain ⟨v', w', hr, ho', hgr, hv'⟩ := run_append_src (P := Try.prog) w 0 34 ty 3 i0 _ 1 8 Try.underlying34 hi0 hz0 hz1 hz2 rfl (by decide) v n xs h.row_owns A m c ys hsrc hA (by unfold maxLen; omega) (by omega) (Nat.zero_le _)
  exact ⟨v', w', hr, h.row_grown ho' hgr hv'⟩
theorem int_src (w : World) (x : Int) : SliceSrc (w.alloc (.cells #[.int .i64 x] 3)) 1 (.slice (some ⟨w.heap.size, 0, none⟩) 1 1) 1 [.int .i64 x] := by
  refine ⟨_, _, rfl, ⟨rfl, fun _ => ⟨_, rfl, fun j u hu => ?_⟩, fun u hu => by (rw [List.mem_singleton.1 hu]; rfl)⟩, fun e => by cases e⟩
  rw [add_plain, Nat.zero_add, cells_of (heap_alloc_new _ _) j, ← hu]
  simp
end
section
set_option maxRecDepth 4000
set_option maxHeartbeats 4000000
theorem storeLists_walk (v0 v1 : Value) (ns : List Int) (bs : List Bool) (kind : Int) (W : World) (h0 : IntsI W.hp v0 ns) (h1 : RowI W.hp 1 v1 bs.length (bs.map boolV)) (hn : ns.length ≤ maxLen) (hb : bs.length ≤ maxLen) :
    Calls Try.prog 4 #[v0, v1, .int .i64 kind] W fun e w' => e = .returned (.bool true) ∧ Below W.heap.size W w' := by
  have H0 := Lib.hid h0
  have HB1 := Lib.hid h1
  obtain ⟨A0, c0, rfl, _⟩ := h0
  obtain ⟨A1, c1, rfl, _⟩ := h1
  unfold maxLen at hn hb
  have hn1 : (ns.length : Int) ≤ 9223372036854775807 := by omega
  have hb1 : (bs.length : Int) ≤ 9223372036854775807 := by omega
  by_cases hbig : 40 < ns.length ∨ 40 < bs.length
  · by_cases h40 : 40 < ns.length
    · have hd : decide (40 < (ns.length : Int)) = true := by rw [decide_eq_true_eq]; omega
      clear hbig h40
      go_enter Try.func4, Try.ntmps4
      go_wp2_with fail
      refine (known3_spec W).mono ?_
      rintro e w1 ⟨rfl, hb⟩
      have HB := Lib.hid hb
      clear hb
      go_wp2_with fail
      go_ret
      exact ⟨rfl, HB.out⟩
    · have hd : decide (40 < (ns.length : Int)) = false := by rw [decide_eq_false_iff_not]; omega
      have hd2 : decide (40 < (bs.length : Int)) = true := by rw [decide_eq_true_eq]; omega
      clear hbig h40
      go_enter Try.func4, Try.ntmps4
      go_wp2_with fail
      refine (known3_spec W).mono ?_
      rintro e w1 ⟨rfl, hb⟩
      have HB := Lib.hid hb
      clear hb
      go_wp2_with fail
      go_ret
      exact ⟨rfl, HB.out⟩
  · have hn40 : ns.length ≤ 40 := by omega
    have hb40 : bs.length ≤ 40 := by omega
    have hd : decide (40 < (ns.length : Int)) = false := by rw [decide_eq_false_iff_not]; omega
    have hd2 : decide (40 < (bs.length : Int)) = false := by rw [decide_eq_false_iff_not]; omega
    clear hbig
    go_enter Try.func4, Try.ntmps4
    go_wp2_with fail
    refine (new_spec 1000 (St.init W)).mono ?_
    rintro e w1 ⟨p, rfl, h1⟩
    have h2 := h1.alloc (.cells (boolArr fun _ => false) 4)
    obtain ⟨tb, htb⟩ : ∃ tb, w1.heap.size = tb := ⟨_, rfl⟩
    have H2 := Lib.hid (h2.pull 1 _ rfl)
    clear h1 h2
    have hms := make_bools w1
    go_wp2_with fail
    rw [htb] at *
    clear hms
    go_loopw [9] (fun a9 wr => ∃ (i : Nat) (T : Nat → Bool) (S : Str) (I1 : Hp), a9 = .int .i64 i ∧ i ≤ ns.length ∧ LI S T i ∧ Keeps S (50000 - 4 * i) ∧ W.hp.sub I1 ∧ St W I1 wr (storeHP p S :: HP.pt tb (.cells (boolArr T) 4) :: [])) (fun a9 _ => ns.length - (intOf a9).toNat)
    case atStart =>
      refine ⟨0, fun _ => false, newS 1000, W.hp, rfl, Nat.zero_le _, LI.new, (keeps_new 1000).fewer (by omega), Hp.sub.refl _, ?_⟩
      exact H2.out
    case round =>
      obtain ⟨i, T, S, I1, rfl, hi, hli, hkp, hI1, hst⟩ := hrel
      by_cases hlt : i < ns.length
      · obtain ⟨x, hx⟩ : ∃ x, ns[i]? = some x := ⟨_, List.getElem?_eq_getElem hlt⟩
        obtain ⟨b, off, rfl, hc⟩ : ∃ b off, A0 = some ⟨b, off, none⟩ ∧ wr.cell? ⟨b, off + i, none⟩ = some (.int .i64 x) := by
          obtain ⟨b, off, e1, e2⟩ := intsI_cell hst ((intsIP _ _).mono hI1 H0.out) hx
          simp only [Value.slice.injEq] at e1
          exact ⟨b, off, e1.1, e2⟩
        obtain ⟨n, hn0⟩ : ∃ n : Nat, x % 64 = n := ⟨(x % 64).toNat, by omega⟩
        have hn64 : n < 64 := by omega
        have hand : bits .and .i64 x 63 = (n : Int) := (i64_and63 x).trans hn0
        have hand8 : bits .and .i64 (n : Int) 7 = ((n % 8 : Nat) : Int) := (i64_and7 _).trans (by omega)
        have HLI := Lib.hid hli
        have HKP := Lib.hid hkp
        have HI1 := Lib.hid hI1
        have HST := Lib.hid hst
        clear hx hn0 hli hkp hI1 hst
        have h2 := HST.out.alloc (.cells #[.int .i64 4, .int .i64 1, .int .i64 ((n : Int) / 8), .int .i64 ((n : Int) % 8)] 27)
        have HE2 := Lib.hid (h2.pull 1 _ rfl)
        have hmk := make_spec (kn n) HE2.out HKP.out
        have hkp2 : Keeps (makeS S (kn n)).2 (50000 - 4 * (i + 1) + 2) := makeS_keeps (HKP.out.fewer (by omega))
        obtain ⟨e0, S2, hm2, hli2, he⟩ : ∃ e0 S2, makeS S (kn n) = (e0, S2) ∧ LI S2 (updB T n true) (i + 1) ∧ ((T n = true ∧ e0 = 5) ∨ (T n = false ∧ e0 = 0)) := by
          cases ht : T n with
          | true =>
            have hu : updB T n true = T := by
              funext x
              unfold updB
              split
              · rename_i e; rw [e, ht]
              · rfl
            exact ⟨5, S, HLI.out.make_there hn64 ht, by rw [hu]; exact ⟨HLI.out.on, HLI.out.arm, HLI.out.seen, Nat.le_succ_of_le HLI.out.len, HLI.out.keys, HLI.out.other⟩, .inl ⟨rfl, rfl⟩⟩
          | false =>
            obtain ⟨S2, h1, h2⟩ := HLI.out.make hn64 ht (by omega)
            exact ⟨0, S2, h1, h2, .inr ⟨rfl, rfl⟩⟩
        rw [hm2] at hmk hkp2
        simp only [K4.val, kn] at hmk
        have HKP2 := Lib.hid hkp2
        have HLI2 := Lib.hid hli2
        have HMK := Lib.hid hmk
        clear h2 hkp2 hli2 hmk hm2
        have hdr := drop_case (bs := bs) (i := i) HB1.out
        rcases he with ⟨ht, rfl⟩ | ⟨ht, rfl⟩
        all_goals
          go_wp2_with fail
          refine HMK.out.mono ?_
          rintro e w2 ⟨I2, hs2, rfl, h3⟩
          have ct := boolArr_get T hn64
          rw [ht] at ct
          have ct2 : w2.cell? ⟨tb, n, none⟩ = _ := (cells_of (h3.pull 2 _ rfl).heap n).trans ct
          have ft := frozen_of_row (h3.pull 2 _ rfl).heap n
          have ltt := (h3.pull 2 _ rfl).lt
          have h4 := (h3.pull 2 _ rfl).setCell n (.bool true)
          rw [boolArr_set T hn64] at h4
          have hxk := (h3.pull 1 _ rfl).heap
          have x0 := cells_of hxk 0
          have x1 := cells_of hxk 1
          have x2 := cells_of hxk 2
          have x3 := cells_of hxk 3
          simp at x0 x1 x2 x3
          have ltx := (h3.pull 1 _ rfl).lt
          have htx : tb ≠ wr.heap.size := (h4.pull 2 _ rfl |>.perm (List.Perm.swap _ _ _)).ne
          have H4 := Lib.hid h4
          have HS2 := Lib.hid (HI1.out.trans hs2)
          have H3 := Lib.hid h3
          clear hs2 h3 h4 hxk ct ht HMK HE2
          rcases hdr with hd3 | ⟨bb, ob, rfl, hd3, hd4, hd5, hd6⟩ | ⟨bb, ob, rfl, hd3, hd4, hd5, hd6⟩
          · go_wp2_with fail
            go_roundw
            case rel => exact ⟨i + 1, updB T n true, S2, I2, by go_num, by omega, HLI2.out, HKP2.out.fewer (by omega), HS2.out, (H4.out.pull 2 _ rfl).drop.perm (by ((try simp only [List.eraseIdx_cons_succ, List.eraseIdx_cons_zero, List.cons_append, List.nil_append]); repeat (first | with_reducible exact List.Perm.refl _ | (apply perm_step; (· repeat (first | with_reducible exact find_here | with_reducible apply find_there))))))⟩
            case measure => simp [intOf]; omega
          · have c6 := hd5 HS2.out H3.out
            have lt6 : bb < w2.heap.size := World.block_lt_of_cell? w2 _ c6
            have hne6 : bb ≠ tb := hd6 HS2.out H4.out
            clear hd5 hd6
            go_wp2_with fail
            go_roundw
            case rel => exact ⟨i + 1, updB T n true, S2, I2, by go_num, by omega, HLI2.out, HKP2.out.fewer (by omega), HS2.out, (H4.out.pull 2 _ rfl).drop.perm (by ((try simp only [List.eraseIdx_cons_succ, List.eraseIdx_cons_zero, List.cons_append, List.nil_append]); repeat (first | with_reducible exact List.Perm.refl _ | (apply perm_step; (· repeat (first | with_reducible exact find_here | with_reducible apply find_there))))))⟩
            case measure => simp [intOf]; omega
          · have c6 := hd5 HS2.out H3.out
            have lt6 : bb < w2.heap.size := World.block_lt_of_cell? w2 _ c6
            have hne6 : bb ≠ tb := hd6 HS2.out H4.out
            clear hd5 hd6
            go_wp2_with fail
            have hu : updB T n true n = true := by simp [updB]
            obtain ⟨S3, hm3, hli3⟩ := HLI2.out.drop hn64 hu
            have hkp3 : Keeps (dropS S2 (kn n)).2 (50000 - 4 * (i + 1)) := dropS_keeps HKP2.out
            have hdp := drop_spec (kn n) (H4.out.pull 1 _ rfl) HKP2.out
            rw [hm3] at hdp hkp3
            simp only [K4.val, kn] at hdp
            refine hdp.mono ?_
            rintro e w4 ⟨I4, hs4, rfl, h5⟩
            have ct4 := (cells_of (h5.pull 1 _ rfl).heap n).trans (boolArr_get (updB T n true) hn64)
            have ft4 := frozen_of_row (h5.pull 1 _ rfl).heap n
            have ltt4 := (h5.pull 1 _ rfl).lt
            have h6 := (h5.pull 1 _ rfl).setCell n (.bool false)
            rw [boolArr_set _ hn64] at h6
            have H6 := Lib.hid h6
            have HS4 := Lib.hid (HS2.out.trans hs4)
            have HLI3 := Lib.hid hli3
            have HKP3 := Lib.hid hkp3
            clear hdp hm3 hli3 hkp3 hs4 h5 h6 hu
            go_wp2_with fail
            go_roundw
            case rel => exact ⟨i + 1, updB (updB T n true) n false, S3, I4, by go_num, by omega, HLI3.out, HKP3.out, HS4.out, (H6.out.pull 2 _ rfl).drop.perm (by ((try simp only [List.eraseIdx_cons_succ, List.eraseIdx_cons_zero, List.cons_append, List.nil_append]); repeat (first | with_reducible exact List.Perm.refl _ | (apply perm_step; (· repeat (first | with_reducible exact find_here | with_reducible apply find_there))))))⟩
            case measure => simp [intOf]; omega
      · obtain rfl : i = ns.length := by omega
        have hkn : (keysAt S ⟨4, 1⟩).length ≤ 1000000 := Nat.le_trans (Nat.le_trans (Nat.le_add_right _ _) (hkp.inv.many ⟨4, 1⟩)) (by omega)
        have hcl := keys_of 4 1 hst hkn
        rw [hli.told] at hcl
        have HCL := Lib.hid hcl
        have HLI := Lib.hid hli
        have HKP := Lib.hid hkp
        have HI1 := Lib.hid hI1
        have HST := Lib.hid hst
        clear hcl hli hkp hI1 hst hkn
        go_wp2_with fail
        refine HCL.out.mono ?_
        rintro e w2 ⟨vk, rfl, hb2, ho2⟩
        have h2 := HST.out.row_fresh hb2 ho2
        have hll : (LL T).length ≤ 64 := by
          unfold LL
          rw [List.length_map]
          exact Nat.le_trans (List.length_filter_le _ _) (by simp)
        obtain ⟨Ak, ck, rfl⟩ := is_slice ho2
        have H2' := Lib.hid h2
        clear hb2 ho2 h2 HCL HST
        go_wp2_with fail
        go_loopw [14, 16] (fun a14 a16 wr => ∃ (j : Nat) (A : Option Addr) (c : Nat), a16 = .int .i64 j ∧ a14 = .slice A (gotOf ((LL T).take j)).length c ∧ j ≤ (LL T).length ∧
          St W I1 wr (HP.row 27 4 (.slice Ak (LL T).length ck) (LL T).length (kflat (LL T)) :: storeHP p S :: HP.pt tb (.cells (boolArr T) 4) :: HP.row 3 1 (.slice A (gotOf ((LL T).take j)).length c) (gotOf ((LL T).take j)).length ((gotOf ((LL T).take j)).map intV) :: [])) (fun _ a16 _ => (LL T).length - (intOf a16).toNat)
        case atStart =>
          refine ⟨0, none, 0, rfl, rfl, Nat.zero_le _, ?_⟩
          exact (H2'.out.row_nil 3 1).perm (m := HP.row 27 4 (.slice Ak (LL T).length ck) (LL T).length (kflat (LL T)) :: storeHP p S :: HP.pt tb (.cells (boolArr T) 4) :: HP.row 3 1 (.slice none 0 0) 0 [] :: []) (by ((try simp only [List.eraseIdx_cons_succ, List.eraseIdx_cons_zero, List.cons_append, List.nil_append]); repeat (first | with_reducible exact List.Perm.refl _ | (apply perm_step; (· repeat (first | with_reducible exact find_here | with_reducible apply find_there))))))
        case round =>
          obtain ⟨j, A, c, rfl, rfl, hj, hsq⟩ := hrel
          by_cases hlj : j < (LL T).length
          · obtain ⟨k, hkj⟩ : ∃ k, (LL T)[j]? = some k := ⟨_, List.getElem?_eq_getElem hlj⟩
            obtain ⟨n, hn64, _, rfl⟩ := mem_LL.1 (List.mem_of_getElem? hkj)
            obtain ⟨g, rfl⟩ : ∃ g, Ak = some ⟨g, 0, none⟩ := by
              rcases hsq.row_owns.2 with ⟨_, e2⟩ | ⟨g, cap, cur, e1, _⟩
              · omega
              · cases e1; exact ⟨g, rfl⟩
            have y2 := key_cell hsq.row_owns hkj 2 (by omega)
            have y3 := key_cell hsq.row_owns hkj 3 (by omega)
            have ltg : g < wr.heap.size := World.block_lt_of_cell? wr _ y2
            simp [K4.vals, kn] at y2 y3
            have hmul : IntKind.i64.wrap ((n : Int) / 8 * 8) = (n : Int) / 8 * 8 := IntWalk.i64_in _ (by omega)
            have hsum : IntKind.i64.wrap ((n : Int) / 8 * 8 + (n : Int) % 8) = (n : Int) := by rw [IntKind.wrap_i64]; omega
            have htk : gotOf ((LL T).take (j + 1)) = gotOf ((LL T).take j) ++ [(n : Int)] := by
              rw [List.take_add_one, hkj]
              unfold gotOf
              rw [List.map_append]
              simp [kn]
              omega
            have hgl : (gotOf ((LL T).take j)).length ≤ 64 := by
              unfold gotOf
              rw [List.length_map, List.length_take]; omega
            have h3 := hsq.drew.keep (below_alloc wr.drew (.cells #[.int .i64 (n : Int)] 3))
            obtain ⟨v4, w4, hr4, h4⟩ := St.ints_append 34 (h3.pull 3 _ rfl) (int_src wr.drew (n : Int)) (by omega)
            obtain ⟨A4, c4, rfl⟩ := is_slice h4.row_owns
            have e4 : (gotOf ((LL T).take j)).length + 1 = (gotOf ((LL T).take (j + 1))).length := by rw [htk]; simp
            have e5 : (gotOf ((LL T).take j)).map intV ++ [.int .i64 (n : Int)] = (gotOf ((LL T).take (j + 1))).map intV := by rw [htk, List.map_append]; rfl
            rw [e5, e4] at h4
            rw [e4] at hr4
            have z2 := key_cell h3.row_owns hkj 2 (by omega)
            have z3 := key_cell h3.row_owns hkj 3 (by omega)
            simp only [K4.vals, kn, List.getElem?_cons_succ, List.getElem?_cons_zero] at z2 z3
            have HR4 := Lib.hid hr4
            have H4 := Lib.hid h4
            have HSQ := Lib.hid hsq
            clear hsq hkj htk h3 h4 hr4 e4 e5
            go_wp2_with fail
            refine wp_region_keep (fun w' => w'.cell? ⟨g, j * 4 + 2, none⟩ = some (.int .i64 ((n : Int) / 8)) ∧ w'.cell? ⟨g, j * 4 + 3, none⟩ = some (.int .i64 ((n : Int) % 8))) [0, 1, 2, 3, 4, 5, 6, 7, 8, 9, 10, 11, 12] [13] [14, 15] (by kernel_rfl) (by kernel_rfl) (by (exact ⟨y2, y3⟩)) ?_
            simp only [pickL, List.getElem?_cons_zero, List.getElem?_cons_succ]
            repeat (refine wpFirst_step _ (Or.inl ⟨by rfl, by (intro w hSw; (try dsimp only at hSw); go_simp; try with_reducible rfl)⟩) ?_; (try simp only [Act.put, List.setIfInBounds_toArray, List.set_cons_zero, List.set_cons_succ]))
            refine wpFirst_nil ?_
            unfold wpHold
            go_wp2_with fail
            refine holdPost_normal ⟨z2, z3⟩ ?_
            unfold wpHold
            clear y2 y3 z2 z3 hmul hsum
            go_wp2_with (at_builtin; refine Lib.wpList_append_run _ rfl (.tmp 93) (.tmp 106) 34 34 rfl _ _ rfl rfl _ _ HR4.out ?_)
            refine NoPanic.normal ?_
            go_wp2_with fail
            go_roundw
            case rel => exact ⟨j + 1, A4, c4, by go_num, rfl, by omega, H4.out.perm (by ((try simp only [List.eraseIdx_cons_succ, List.eraseIdx_cons_zero, List.cons_append, List.nil_append]); repeat (first | with_reducible exact List.Perm.refl _ | (apply perm_step; (· repeat (first | with_reducible exact find_here | with_reducible apply find_there))))))⟩
            case measure => simp [intOf]; omega
          · obtain rfl : j = (LL T).length := by omega
            have htk : (LL T).take (LL T).length = LL T := List.take_of_length_le (Nat.le_refl _)
            rw [htk, got_LL] at hsq
            rw [htk, got_LL]
            have HSQ := Lib.hid hsq
            have hnl : (numsOf T 64).length ≤ 64 := by
              unfold numsOf
              rw [List.length_map]
              exact Nat.le_trans (List.length_filter_le _ _) (by simp)
            clear hsq htk
            go_wp2_with fail
            go_loopw [15, 17] (fun a15 a17 wr => ∃ (j : Nat) (B : Option Addr) (d : Nat), a17 = .int .i64 j ∧ a15 = .slice B (numsOf T j).length d ∧ j ≤ 64 ∧
              St W I1 wr (HP.pt tb (.cells (boolArr T) 4) :: HP.row 3 1 (.slice B (numsOf T j).length d) (numsOf T j).length ((numsOf T j).map intV) :: storeHP p S :: HP.row 3 1 (.slice A (numsOf T 64).length c) (numsOf T 64).length ((numsOf T 64).map intV) :: [])) (fun _ a17 _ => 64 - (intOf a17).toNat)
            case atStart =>
              refine ⟨0, none, 0, rfl, by simp [numsOf], Nat.zero_le _, ?_⟩
              have e0 : numsOf T 0 = [] := by simp [numsOf]
              rw [e0]
              exact (((HSQ.out.drop).row_nil 3 1)).perm (m := HP.pt tb (.cells (boolArr T) 4) :: HP.row 3 1 (.slice none 0 0) 0 [] :: storeHP p S :: HP.row 3 1 (.slice A (numsOf T 64).length c) (numsOf T 64).length ((numsOf T 64).map intV) :: []) (by ((try simp only [List.eraseIdx_cons_succ, List.eraseIdx_cons_zero, List.cons_append, List.nil_append]); repeat (first | with_reducible exact List.Perm.refl _ | (apply perm_step; (· repeat (first | with_reducible exact find_here | with_reducible apply find_there))))))
            case round =>
              obtain ⟨j, B, d, rfl, rfl, hj, hsq⟩ := hrel
              by_cases hlj : j < 64
              · have ct : wr.cell? ⟨tb, j, none⟩ = _ := (cells_of hsq.heap j).trans (boolArr_get T hlj)
                have hns := numsOf_succ T j
                have hjl : (numsOf T j).length ≤ 64 := by
                  unfold numsOf
                  rw [List.length_map]
                  exact Nat.le_trans (List.length_filter_le _ _) (by simp; omega)
                have hj64 : (j : Int) < 64 := by omega
                cases ht : T j with
                | true =>
                  rw [ht, if_pos rfl] at hns
                  rw [ht] at ct
                  have h3 := hsq.keep (below_alloc wr (.cells #[.int .i64 (j : Int)] 3))
                  obtain ⟨v4, w4, hr4, h4⟩ := St.ints_append 34 (h3.pull 1 _ rfl) (int_src wr (j : Int)) (by omega)
                  obtain ⟨A4, c4, rfl⟩ := is_slice h4.row_owns
                  have e4 : (numsOf T j).length + 1 = (numsOf T (j + 1)).length := by rw [hns]; simp
                  have e5 : (numsOf T j).map intV ++ [.int .i64 (j : Int)] = (numsOf T (j + 1)).map intV := by rw [hns, List.map_append]; rfl
                  rw [e5, e4] at h4
                  rw [e4] at hr4
                  have HR4 := Lib.hid hr4
                  have H4 := Lib.hid h4
                  clear hsq hns h3 h4 hr4 e4 e5 ht
                  go_wp2_with (at_builtin; refine Lib.wpList_append_run _ rfl (.tmp 116) (.tmp 118) 34 34 rfl _ _ rfl rfl _ _ HR4.out ?_)
                  go_roundw
                  case rel => exact ⟨j + 1, A4, c4, by go_num, rfl, by omega, H4.out.pull 1 _ rfl⟩
                  case measure => simp [intOf]; omega
                | false =>
                  rw [ht] at hns ct
                  simp only [Bool.false_eq_true, if_false, List.append_nil] at hns
                  rw [← hns] at hsq
                  have HE := Lib.hid (congrArg List.length hns)
                  have H4 := Lib.hid hsq
                  clear hsq hns ht
                  go_wp2_with fail
                  go_roundw
                  case rel =>
                    refine ⟨j + 1, B, d, by go_num, by rw [HE.out], by omega, ?_⟩
                    have := H4.out
                    rw [HE.out] at this ⊢
                    exact this
                  case measure => simp [intOf]; omega
              · obtain rfl : j = 64 := by omega
                have HSQ := Lib.hid hsq
                clear hsq
                have hsm := same_true (.slice A (numsOf T 64).length c) (.slice B (numsOf T 64).length d) (numsOf T 64) wr (SliceSrc.of_owns (HSQ.out.pull 3 _ rfl).row_owns (ints_one _)) (SliceSrc.of_owns (HSQ.out.pull 1 _ rfl).row_owns (ints_one _)) (by omega)
                have HSM := Lib.hid hsm
                have hm : ∀ g, (keysAt S g).length ≤ 1000000 := fun g => Nat.le_trans (Nat.le_trans (Nat.le_add_right _ _) (HKP.out.inv.many g)) (by omega)
                have HM := Lib.hid hm
                clear hsm hm
                by_cases hk4 : kind = 4
                · have hkb : (kind == 4) = true := by simpa using hk4
                  clear hk4
                  go_wp2_with fail
                  refine HSM.out.mono ?_
                  rintro e w6 ⟨rfl, hb6⟩
                  have h6 := HSQ.out.keep hb6
                  have hcl := keys_of 4 0 (h6.pull 2 _ rfl) (HM.out _)
                  rw [HLI.out.told_none (by decide)] at hcl
                  have H6 := Lib.hid h6
                  have HCL := Lib.hid hcl
                  clear hb6 h6 hcl HSM
                  go_wp2_with fail
                  refine HCL.out.mono ?_
                  rintro e w7 ⟨v7, rfl, hb7, ho7⟩
                  obtain ⟨A7, c7, rfl⟩ := is_slice ho7
                  have H7 := Lib.hid (H6.out.keep hb7)
                  clear hb7 ho7 HCL
                  go_wp2_with fail
                  refine (known3_spec w7).mono ?_
                  rintro e w9 ⟨rfl, hb9⟩
                  have HB := Lib.hid (H7.out.below.trans (hb9.mono H7.out.below.size))
                  clear hb9
                  go_wp2_with fail
                  go_ret
                  exact ⟨rfl, HB.out⟩
                · have hkb : (kind == 4) = false := by simpa using hk4
                  have hkg : (⟨kind, 1⟩ : G2) ≠ ⟨4, 1⟩ := fun e => hk4 (by simpa using e)
                  have HKG := Lib.hid hkg
                  clear hk4 hkg
                  go_wp2_with fail
                  refine HSM.out.mono ?_
                  rintro e w6 ⟨rfl, hb6⟩
                  have h6 := HSQ.out.keep hb6
                  have hcl := keys_of kind 1 (h6.pull 2 _ rfl) (HM.out _)
                  rw [HLI.out.told_none HKG.out] at hcl
                  have H6 := Lib.hid h6
                  have HCL := Lib.hid hcl
                  clear hb6 h6 hcl HSM
                  go_wp2_with fail
                  refine HCL.out.mono ?_
                  rintro e w7 ⟨v7, rfl, hb7, ho7⟩
                  obtain ⟨A7, c7, rfl⟩ := is_slice ho7
                  have h7 := H6.out.keep hb7
                  have hcl := keys_of 4 0 (h7.pull 2 _ rfl) (HM.out _)
                  rw [HLI.out.told_none (by decide)] at hcl
                  have H7 := Lib.hid h7
                  have HCL2 := Lib.hid hcl
                  clear hb7 h7 hcl HCL ho7
                  go_wp2_with fail
                  refine HCL2.out.mono ?_
                  rintro e w8 ⟨v8, rfl, hb8, ho8⟩
                  obtain ⟨A8, c8, rfl⟩ := is_slice ho8
                  have H8 := Lib.hid (H7.out.keep hb8)
                  clear hb8 ho8 HCL2
                  go_wp2_with fail
                  refine (known3_spec w8).mono ?_
                  rintro e w9 ⟨rfl, hb9⟩
                  have HB := Lib.hid (H8.out.below.trans (hb9.mono H8.out.below.size))
                  clear hb9
                  go_wp2_with fail
                  go_ret
                  exact ⟨rfl, HB.out⟩
end
end Go.Proofs.Ytnokhjhhadnckaa
