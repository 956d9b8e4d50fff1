/- (*Store).Fall. -/
import Derived.Test.YtnokhjhhadnckaaFallFns
import Derived.Test.YtnokhjhhadnckaaRegions
set_option linter.unusedSimpArgs false
set_option linter.unusedVariables false
set_option linter.unusedSectionVars false
namespace Go.Proofs.Ytnokhjhhadnckaa
open Go.RowKit
section
variable {W w : World} {I : Hp} {l : List HP} {p : Nat} {S : Str}
set_option maxRecDepth 4000
set_option maxHeartbeats 16000000
theorem keys_call (m : Nat) (w : World) : Calls Try.prog 56 #[.map (some m)] w fun e w' => e = .returned (.func (.func 93) #[] #[.pointer (some ⟨w.heap.size, 0, none⟩)]) ∧ w.alloc (.cells #[.map (some m)] 86) = w' := by
  go_enter Try.func56, Try.ntmps56
  go_wp2
  go_ret
  exact ⟨rfl, rfl⟩
theorem fall_off {B : SB} (kv : Value) (torn : Int) (h : St W I w (storeBlk p S B :: l)) (hon : S.on = false) :
    Calls Try.prog 18 #[.pointer (some ⟨p, 0, none⟩), kv, .int .i64 torn] w fun e w' => e = .returned (.int .i64 0) ∧ w = w' := by
  have c4 := h.blk 4
  simp [storeCells, hon] at c4
  clear h
  go_enter Try.func18, Try.ntmps18
  go_wp2_with fail
  go_ret
  exact ⟨rfl, rfl⟩
theorem intsI_cell {v : Value} {q : List Int} {j : Nat} {x : Int} (h : St W I w l) (hv : IntsI I v q) (hj : q[j]? = some x) : ∃ b off, v = .slice (some ⟨b, off, none⟩) q.length (match v with | .slice _ _ c => c | _ => 0) ∧ w.cell? ⟨b, off + j, none⟩ = some (.int .i64 x) := by
  obtain ⟨A, c', rfl, h2, h3, h4, h5, h6⟩ := hv
  have hjl := (List.getElem?_eq_some_iff.1 hj).1
  obtain ⟨b, off, cs, t, f, rfl, e2, e3⟩ := h6 (by omega)
  refine ⟨b, off, rfl, ?_⟩
  rw [cells_of (h.imm_heap e2)]
  exact e3 j _ (by simp [hj, intV])
theorem fall_on {B : SB} (kv : Value) (keep : List Int) (torn : Int) (h : St W I w (storeBlk p S B :: seenHP B S :: dryHP B S :: lateHP B S :: keyHP B S :: l)) (hon : S.on = true) (hk : IntsI I kv keep) (hkn : keep.length ≤ 1000000) (hi : Inv S S.late.length) :
    Calls Try.prog 18 #[.pointer (some ⟨p, 0, none⟩), kv, .int .i64 torn] w fun e w' => ∃ ss B' I', Rising ss ∧ ss.Perm (S.late.map (·.1)) ∧ I.sub I' ∧ e = .returned (.int .i64 (fallL keep torn ss 0 S 0).2) ∧ IntsI I' B'.vk [] ∧
      St W I' w' (storeBlk p (fallEnd (fallL keep torn ss 0 S 0).1) B' :: seenHP B' (fallEnd (fallL keep torn ss 0 S 0).1) :: dryHP B' (fallEnd (fallL keep torn ss 0 S 0).1) :: lateHP B' (fallEnd (fallL keep torn ss 0 S 0).1) :: keyHP B' (fallEnd (fallL keep torn ss 0 S 0).1) :: l) := by
  have c4 := h.blk 4
  have c7 := h.blk 7
  simp [storeCells, hon] at c4 c7
  have hnd := (h.pull 3 _ rfl).mapOf_nodup
  have hln : S.late.length ≤ 100000 := by have := hi.many ⟨0, 0⟩; omega
  obtain ⟨M, hM, h1⟩ := (h.pull 3 _ rfl).mapOf_open
  have hmp : (HP.map keyKT B.m3 (M.map fst3)).p Hp.nil (w.alloc (.cells #[.map (some B.m3)] 86)).hp := by
    obtain ⟨es, clock, L', q, r, s⟩ := h1.map_open
    exact ⟨es, clock, L', (Below.heap_alloc w _ _ s.lt).trans s.heap, q, r⟩
  have hml : B.m3 < w.heap.size := by
    obtain ⟨es, clock, L', q, r, s⟩ := h1.map_open
    exact s.lt
  have hML : (M.map fst3).length = S.late.length := by have := hM.length_eq; simpa using this
  have hMk : ((M.map fst3).map (·.1)).Perm (S.late.map (·.1)) := by rw [fst3_keys]; exact hM.map _
  have hsk := sort_keys w.heap.size B.m3 (M.map fst3) (w.alloc (.cells #[.map (some B.m3)] 86)) (by simp) (by simp; omega) (cells_of (heap_alloc_new w _) 0) hmp (by omega) (hMk.nodup_iff.2 hnd)
  have HSK := Lib.hid hsk
  have HMK := Lib.hid hMk
  have HM := Lib.hid hM
  have HINV0 := Lib.hid hi
  have HK := Lib.hid hk
  have H := Lib.hid h
  obtain ⟨A0, c0, rfl, _⟩ := hk
  have hnb := h.alloc (.cells #[.map (some B.m3)] 86)
  have HNB := Lib.hid hnb
  clear h h1 hmp hml hML hMk hsk hM hnd hnb hi
  go_enter Try.func18, Try.ntmps18
  go_wp2_with fail
  refine (keys_call B.m3 w).mono ?_
  rintro e w1 ⟨rfl, hw1⟩
  rw [hw1] at HSK HNB
  clear hw1 c4 c7
  go_wp2_with fail
  refine HSK.out.mono ?_
  rintro e w2 ⟨vs, ss, rfl, hri, hpe, ho2, hb2⟩
  have hssn : ss.length ≤ 100000 := by
    have h1 := (hpe.trans HMK.out).length_eq
    simp at h1
    omega
  have hst2 : St W I w2 (keysHP vs ss :: storeBlk p S B :: seenHP B S :: dryHP B S :: lateHP B S :: keyHP B S :: l) := ((HNB.out.row_fresh hb2 ho2).pull 1 _ rfl).drop
  have HST2 := Lib.hid hst2
  have HRI := Lib.hid hri
  have HPE := Lib.hid (hpe.trans HMK.out)
  obtain ⟨A, c, rfl⟩ := is_slice ho2
  clear hst2 hri hpe ho2 hb2
  go_wp2_with fail
  go_loopw [7, 29] (fun v7 v29 wr => ∃ (j : Nat) (Sj : Str) (nj : Int) (I1 : Hp), v29 = .int .i64 j ∧ v7 = .int .i64 nj ∧ j ≤ ss.length ∧ fallL keep torn (ss.drop j) j Sj nj = fallL keep torn ss 0 S 0 ∧ Inv Sj (ss.length - j) ∧ Sj.late = S.late ∧ I.sub I1 ∧
    St W I1 wr (keysHP (.slice A ss.length c) ss :: storeBlk p Sj B :: seenHP B Sj :: dryHP B Sj :: lateHP B Sj :: keyHP B Sj :: l)) (fun _ v29 _ => ss.length - (intOf v29).toNat)
  case atStart =>
    refine ⟨0, S, 0, I, rfl, rfl, by omega, rfl, ?_, rfl, Hp.sub.refl _, HST2.out⟩
    have h1 := HPE.out.length_eq
    simp at h1
    rw [Nat.sub_zero, h1]
    exact HINV0.out
  case round =>
    obtain ⟨j, Sj, nj, I1, rfl, rfl, hj, hfold, hinv, hlate, hI1, hst⟩ := hrel
    by_cases hlt : j < ss.length
    · obtain ⟨g, rfl⟩ : ∃ g, A = some ⟨g, 0, none⟩ := by
        rcases hst.row_owns.2 with ⟨_, e2⟩ | ⟨g, cap, cur, e1, _⟩
        · omega
        · cases e1; exact ⟨g, rfl⟩
      obtain ⟨k, hkj⟩ : ∃ k, ss[j]? = some k := ⟨_, List.getElem?_eq_getElem hlt⟩
      have hro := hst.row_owns
      have y0 := key_cell hro hkj 0 (by omega)
      have y1 := key_cell hro hkj 1 (by omega)
      have y2 := key_cell hro hkj 2 (by omega)
      have y3 := key_cell hro hkj 3 (by omega)
      obtain ⟨k0, k1, k2, k3⟩ := k
      simp [K4.vals] at y0 y1 y2 y3
      have hgk : ss[j] = ⟨k0, k1, k2, k3⟩ := (List.getElem?_eq_some_iff.1 hkj).2
      have hI2 : I.sub I1 := hI1
      have hik : ∀ x, keep[j]? = some x → ∃ b off, A0 = some ⟨b, off, none⟩ ∧ wr.cell? ⟨b, off + j, none⟩ = some (.int .i64 x) := fun x hx => by
        obtain ⟨b, off, e1, e2⟩ := intsI_cell hst ((intsIP _ _).mono hI1 HK.out) hx
        simp only [Value.slice.injEq] at e1
        exact ⟨b, off, e1.1, e2⟩
      have HIK := Lib.hid hik
      have HGET := Lib.hid hgk
      have HST := Lib.hid hst
      have HFOLD := Lib.hid hfold
      have HINV := Lib.hid hinv
      have HLATE := Lib.hid hlate
      have HI1 := Lib.hid hI1
      clear hst hfold hinv hlate hI1 hgk hkj hro hI2 hik
      by_cases hjk : j < keep.length
      · obtain ⟨x, hx⟩ : ∃ x, keep[j]? = some x := ⟨_, List.getElem?_eq_getElem hjk⟩
        obtain ⟨bk, offk, rfl, hck⟩ := HIK.out x hx
        have hnk : keepAt keep j = x := by unfold keepAt; rw [hx]; rfl
        have hbk : bk < wr.heap.size := World.block_lt_of_cell? wr _ hck
        have HNK := Lib.hid hnk
        clear hx hnk
        go_wp2_with fail
        have hsml := left_small (k := (⟨k0, k1, k2, k3⟩ : K4)) (n := x) (torn := torn) HINV.out
        have HSML := Lib.hid hsml
        have hst1 : St W I1 (wr.alloc (.cells #[.int .i64 k0, .int .i64 k1, .int .i64 k2, .int .i64 k3] 27)) (storeBlk p Sj B :: dryHP B Sj :: lateHP B Sj :: HP.pt wr.heap.size (.cells #[.int .i64 k0, .int .i64 k1, .int .i64 k2, .int .i64 k3] 27) :: keysHP (.slice (some ⟨g, 0, none⟩) ss.length c) ss :: seenHP B Sj :: keyHP B Sj :: l) := (HST.out.alloc (.cells #[.int .i64 k0, .int .i64 k1, .int .i64 k2, .int .i64 k3] 27)).perm (by ((try simp only [List.eraseIdx_cons_succ, List.eraseIdx_cons_zero, List.cons_append, List.nil_append]); repeat (first | with_reducible exact List.Perm.refl _ | (apply perm_step; (· repeat (first | with_reducible exact find_here | with_reducible apply find_there))))))
        have HST1 := Lib.hid hst1
        clear hsml hst1 y0 y1 y2 y3
        refine (left_spec (⟨k0, k1, k2, k3⟩ : K4) x torn HST1.out HINV.out.dry HINV.out.late (HINV.out.lateAt _).1).mono ?_
        rintro e w6 ⟨vt, I6, hI6, rfl, h6⟩
        have HI6 := Lib.hid hI6
        clear hI6
        cases ht : (leftS Sj (⟨k0, k1, k2, k3⟩ : K4) x torn).1 with
        | none =>
          rw [ht] at h6
          obtain ⟨hvt, h6n⟩ := h6.pure_open
          subst hvt
          clear h6
          have h6 := h6n
          clear h6n
          have HT := Lib.hid ht
          clear ht
          have hk6 := (h6.drew.pull 3 _ rfl).heap
          have x06 := cells_of hk6 0
          have x16 := cells_of hk6 1
          have x26 := cells_of hk6 2
          have x36 := cells_of hk6 3
          simp at x06 x16 x26 x36
          clear hk6
          obtain ⟨v0, H0, hl0, h7, hback⟩ := (h6.drew.pull 5 _ rfl).look_opt (⟨k0, k1, k2, k3⟩ : K4)
          have hl1 := hl0 _ (Below.refl _ _)
          simp only [keyKT, K4.val] at hl1
          have c5 := (h6.drew.pull 0 _ rfl).blk 5
          simp [storeCells] at c5
          have H7 := Lib.hid h7
          have HBK := Lib.hid hback
          clear h6 h7 hl0 hback
          go_wp2_with fail
          refine wp_region_keep (fun w' => w'.cell? ⟨wr.heap.size, 0, none⟩ = some (.int .i64 k0) ∧ w'.cell? ⟨wr.heap.size, 1, none⟩ = some (.int .i64 k1) ∧ w'.cell? ⟨wr.heap.size, 2, none⟩ = some (.int .i64 k2) ∧ w'.cell? ⟨wr.heap.size, 3, none⟩ = some (.int .i64 k3) ∧ w'.cell? ⟨p, 5, none⟩ = some (.map (some B.m1))) [0, 1, 2, 3, 4, 5, 6, 9] [7, 8] [10] (by kernel_rfl) (by kernel_rfl) (by (exact ⟨x06, x16, x26, x36, c5⟩)) ?_
          simp only [pickL, List.getElem?_cons_zero, List.getElem?_cons_succ]
          repeat (refine wpFirst_step _ (Or.inl ⟨by rfl, by (intro w hSw; (try dsimp only at hSw); go_simp; try with_reducible rfl)⟩) ?_; (try simp only [Act.put, List.setIfInBounds_toArray, List.set_cons_zero, List.set_cons_succ]))
          refine wpFirst_nil ?_
          unfold wpHold
          go_wp2_with fail
          refine holdPost_normal ⟨x06, x16, x26, x36, c5⟩ ?_
          unfold wpHold
          go_wp2_with fail
          refine (size_opt H7.out (get_small HINV.out.seen _)).mono ?_
          rintro e w8 ⟨rfl, h8⟩
          have hk8 := (h8.pull 5 _ rfl).heap
          have x08 := cells_of hk8 0
          have x18 := cells_of hk8 1
          have x28 := cells_of hk8 2
          have x38 := cells_of hk8 3
          simp at x08 x18 x28 x38
          clear hk8
          have c58 := (h8.pull 2 _ rfl).blk 5
          simp [storeCells] at c58
          have h8b := HBK.out _ _ _ h8
          have H8 := Lib.hid h8b
          clear h8 h8b x06 x16 x26 x36 hl1 c5
          go_wp2_with fail
          refine holdPost_normal ⟨x08, x18, x28, x38, c58⟩ ?_
          unfold wpHold
          go_wp2_with fail

          have h8d : St W I6 w8 (storeBlk p Sj B :: HP.mapOf keyKT thingHP B.m1 Sj.seen :: dryHP B Sj :: lateHP B Sj :: keyHP B Sj :: HP.pt wr.heap.size (.cells #[.int .i64 k0, .int .i64 k1, .int .i64 k2, .int .i64 k3] 27) :: keysHP (.slice (some ⟨g, 0, none⟩) ss.length c) ss :: l) := H8.out.perm (by ((try simp only [List.eraseIdx_cons_succ, List.eraseIdx_cons_zero, List.cons_append, List.nil_append]); repeat (first | with_reducible exact List.Perm.refl _ | (apply perm_step; (· repeat (first | with_reducible exact find_here | with_reducible apply find_there))))))
          have h8e : St W I6 w8 (optHP (.pointer none) none :: storeBlk p Sj B :: seenHP B Sj :: dryHP B Sj :: lateHP B Sj :: keyHP B Sj :: HP.pt wr.heap.size (.cells #[.int .i64 k0, .int .i64 k1, .int .i64 k2, .int .i64 k3] 27) :: keysHP (.slice (some ⟨g, 0, none⟩) ss.length c) ss :: l) := St.pure_shut rfl h8d
          have h8c : St W I6 w8 (storeBlk p Sj B :: seenHP B Sj :: dryHP B Sj :: lateHP B Sj :: keyHP B Sj :: optHP (.pointer none) none :: HP.pt wr.heap.size (.cells #[.int .i64 k0, .int .i64 k1, .int .i64 k2, .int .i64 k3] 27) :: keysHP (.slice (some ⟨g, 0, none⟩) ss.length c) ss :: l) := h8e.perm (by ((try simp only [List.eraseIdx_cons_succ, List.eraseIdx_cons_zero, List.cons_append, List.nil_append]); repeat (first | with_reducible exact List.Perm.refl _ | (apply perm_step; (· repeat (first | with_reducible exact find_here | with_reducible apply find_there))))))
          clear h8d h8e
          have hmany : (keysAt Sj ((⟨k0, k1, k2, k3⟩ : K4)).grp).length ≤ 100000 := by have := HINV.out.many ((⟨k0, k1, k2, k3⟩ : K4)).grp; omega
          refine (show_spec (o := none) trivial (⟨k0, k1, k2, k3⟩ : K4) _ h8c (HINV.out.rise _) hmany).mono ?_
          rintro e w9 ⟨rfl, h9⟩
          have hk9 := (h9.pull 5 _ rfl).heap
          have x09 := cells_of hk9 0
          have x19 := cells_of hk9 1
          have x29 := cells_of hk9 2
          have x39 := cells_of hk9 3
          simp at x09 x19 x29 x39
          clear hk9
          have c6 := h9.blk 6
          simp [storeCells] at c6
          obtain ⟨w10, hr10, hs10, h10⟩ := (h9.drew.pull 2 _ rfl).mapOf_del (P := Try.prog) (ty := 0) Try.underlying85 (⟨k0, k1, k2, k3⟩ : K4)
          simp only [keyKT, K4.val] at hr10
          have H10 := Lib.hid h10
          have HR10 := Lib.hid hr10
          clear h8c h9 h10 hr10 hs10 x08 x18 x28 x38 c58 hmany
          go_wp2_with fail
          refine NoPanic.normal ?_
          go_wp2_with fail
          refine wp_region_calm [] [0, 1, 2, 3, 4] [5] (by kernel_rfl) (by kernel_rfl) ?_
          simp only [pickL, List.getElem?_cons_zero, List.getElem?_cons_succ]
          repeat (refine wpPlain_step _ (Or.inl ⟨by rfl, by intro w; go_simp; try with_reducible rfl⟩) ?_; (try simp only [Act.put, List.setIfInBounds_toArray, List.set_cons_zero, List.set_cons_succ]))
          refine wpPlain_nil ?_
          repeat still_step
          refine wpStill_nil ?_
          have hr10 := HR10.out
          go_wp2_with fail
          refine NoPanic.normal ?_
          clear hr10 c6 x09 x19 x29 x39
          go_wp2_with fail
          go_roundw
          case rel =>
            refine ⟨j + 1, fallK Sj (⟨k0, k1, k2, k3⟩ : K4) x torn, _, I6, by go_num, rfl, by omega, ?_, ?_, HLATE.out, HI1.out.trans HI6.out, ?_⟩
            · rw [← HFOLD.out, List.drop_eq_getElem_cons hlt, HGET.out]
              show fallL keep torn _ _ _ _ = fallL keep torn _ _ (fallK Sj (⟨k0, k1, k2, k3⟩ : K4) (keepAt keep j) torn) _
              rw [HNK.out]
            · exact fall_inv (HINV.out.less (by omega))
            · have e1 : fallK Sj (⟨k0, k1, k2, k3⟩ : K4) x torn = { showS Sj (⟨k0, k1, k2, k3⟩ : K4) (wrap64 (sizeO (get (⟨k0, k1, k2, k3⟩ : K4) Sj.seen))) none with dry := del (⟨k0, k1, k2, k3⟩ : K4) Sj.dry } := by
                unfold fallK dryPut
                rw [HT.out]
              rw [e1]
              exact ((H10.out.pull 5 _ rfl).drop).perm (m := keysHP (.slice (some ⟨g, 0, none⟩) ss.length c) ss :: storeBlk p (showS Sj (⟨k0, k1, k2, k3⟩ : K4) (wrap64 (sizeO (get (⟨k0, k1, k2, k3⟩ : K4) Sj.seen))) none) B :: seenHP B (showS Sj (⟨k0, k1, k2, k3⟩ : K4) (wrap64 (sizeO (get (⟨k0, k1, k2, k3⟩ : K4) Sj.seen))) none) :: HP.mapOf keyKT thingHP B.m2 (del (⟨k0, k1, k2, k3⟩ : K4) (showS Sj (⟨k0, k1, k2, k3⟩ : K4) (wrap64 (sizeO (get (⟨k0, k1, k2, k3⟩ : K4) Sj.seen))) none).dry) :: lateHP B (showS Sj (⟨k0, k1, k2, k3⟩ : K4) (wrap64 (sizeO (get (⟨k0, k1, k2, k3⟩ : K4) Sj.seen))) none) :: keyHP B (showS Sj (⟨k0, k1, k2, k3⟩ : K4) (wrap64 (sizeO (get (⟨k0, k1, k2, k3⟩ : K4) Sj.seen))) none) :: l) (by ((try simp only [List.eraseIdx_cons_succ, List.eraseIdx_cons_zero, List.cons_append, List.nil_append]); repeat (first | with_reducible exact List.Perm.refl _ | (apply perm_step; (· repeat (first | with_reducible exact find_here | with_reducible apply find_there))))))
          case measure => simp [intOf]; omega
        | some t =>
          rw [ht] at h6 HSML
          have HT := Lib.hid ht
          obtain ⟨bt, mt, vbt, hve, _⟩ := St.thing_open (v := vt) (t := t) h6
          subst hve
          clear ht
          have hk6 := (h6.drew.pull 4 _ rfl).heap
          have x06 := cells_of hk6 0
          have x16 := cells_of hk6 1
          have x26 := cells_of hk6 2
          have x36 := cells_of hk6 3
          simp at x06 x16 x26 x36
          clear hk6
          obtain ⟨v0, H0, hl0, h7, hback⟩ := (h6.drew.pull 6 _ rfl).look_opt (⟨k0, k1, k2, k3⟩ : K4)
          have hl1 := hl0 _ (Below.refl _ _)
          simp only [keyKT, K4.val] at hl1
          have c5 := (h6.drew.pull 1 _ rfl).blk 5
          simp [storeCells] at c5
          have H7 := Lib.hid h7
          have HBK := Lib.hid hback
          clear h6 h7 hl0 hback
          go_wp2_with fail
          refine wp_region_keep (fun w' => w'.cell? ⟨wr.heap.size, 0, none⟩ = some (.int .i64 k0) ∧ w'.cell? ⟨wr.heap.size, 1, none⟩ = some (.int .i64 k1) ∧ w'.cell? ⟨wr.heap.size, 2, none⟩ = some (.int .i64 k2) ∧ w'.cell? ⟨wr.heap.size, 3, none⟩ = some (.int .i64 k3) ∧ w'.cell? ⟨p, 5, none⟩ = some (.map (some B.m1))) [0, 1, 2, 3, 4, 5, 6, 9] [7, 8] [10] (by kernel_rfl) (by kernel_rfl) (by (exact ⟨x06, x16, x26, x36, c5⟩)) ?_
          simp only [pickL, List.getElem?_cons_zero, List.getElem?_cons_succ]
          repeat (refine wpFirst_step _ (Or.inl ⟨by rfl, by (intro w hSw; (try dsimp only at hSw); go_simp; try with_reducible rfl)⟩) ?_; (try simp only [Act.put, List.setIfInBounds_toArray, List.set_cons_zero, List.set_cons_succ]))
          refine wpFirst_nil ?_
          unfold wpHold
          go_wp2_with fail
          refine holdPost_normal ⟨x06, x16, x26, x36, c5⟩ ?_
          unfold wpHold
          go_wp2_with fail
          refine (size_opt H7.out (get_small HINV.out.seen _)).mono ?_
          rintro e w8 ⟨rfl, h8⟩
          have hk8 := (h8.pull 6 _ rfl).heap
          have x08 := cells_of hk8 0
          have x18 := cells_of hk8 1
          have x28 := cells_of hk8 2
          have x38 := cells_of hk8 3
          simp at x08 x18 x28 x38
          clear hk8
          have c58 := (h8.pull 3 _ rfl).blk 5
          simp [storeCells] at c58
          have h8b := HBK.out _ _ _ h8
          have H8 := Lib.hid h8b
          clear h8 h8b x06 x16 x26 x36 hl1 c5
          go_wp2_with fail
          refine holdPost_normal ⟨x08, x18, x28, x38, c58⟩ ?_
          unfold wpHold
          go_wp2_with fail

          have h8e : St W I6 w8 (HP.mapOf keyKT thingHP B.m1 Sj.seen :: thingHP (.pointer (some ⟨bt, 0, none⟩)) t :: storeBlk p Sj B :: dryHP B Sj :: lateHP B Sj :: HP.pt wr.heap.size (.cells #[.int .i64 k0, .int .i64 k1, .int .i64 k2, .int .i64 k3] 27) :: keysHP (.slice (some ⟨g, 0, none⟩) ss.length c) ss :: keyHP B Sj :: l) := H8.out
          have h8c : St W I6 w8 (storeBlk p Sj B :: HP.mapOf keyKT thingHP B.m1 Sj.seen :: dryHP B Sj :: lateHP B Sj :: keyHP B Sj :: thingHP (.pointer (some ⟨bt, 0, none⟩)) t :: HP.pt wr.heap.size (.cells #[.int .i64 k0, .int .i64 k1, .int .i64 k2, .int .i64 k3] 27) :: keysHP (.slice (some ⟨g, 0, none⟩) ss.length c) ss :: l) := h8e.perm (by ((try simp only [List.eraseIdx_cons_succ, List.eraseIdx_cons_zero, List.cons_append, List.nil_append]); repeat (first | with_reducible exact List.Perm.refl _ | (apply perm_step; (· repeat (first | with_reducible exact find_here | with_reducible apply find_there))))))
          clear h8e
          have hmany : (keysAt Sj ((⟨k0, k1, k2, k3⟩ : K4)).grp).length ≤ 100000 := by have := HINV.out.many ((⟨k0, k1, k2, k3⟩ : K4)).grp; omega
          refine (show_there_at HSML.out (⟨k0, k1, k2, k3⟩ : K4) (spot_seen _ _ _) _ h8c (HINV.out.rise _) hmany).mono ?_
          rintro e w9 ⟨rfl, h9⟩
          have hk9 := (h9.pull 6 _ rfl).heap
          have x09 := cells_of hk9 0
          have x19 := cells_of hk9 1
          have x29 := cells_of hk9 2
          have x39 := cells_of hk9 3
          simp at x09 x19 x29 x39
          clear hk9
          have c6 := h9.blk 6
          simp [storeCells] at c6
          have H9 := Lib.hid h9
          clear h8c h9 x08 x18 x28 x38 c58 hmany
          go_wp2_with fail
          refine NoPanic.normal ?_
          go_wp2_with fail
          refine wp_region_keep (fun w' => w'.cell? ⟨wr.heap.size, 0, none⟩ = some (.int .i64 k0) ∧ w'.cell? ⟨wr.heap.size, 1, none⟩ = some (.int .i64 k1) ∧ w'.cell? ⟨wr.heap.size, 2, none⟩ = some (.int .i64 k2) ∧ w'.cell? ⟨wr.heap.size, 3, none⟩ = some (.int .i64 k3) ∧ w'.cell? ⟨p, 6, none⟩ = some (.map (some B.m2))) [0, 1, 2, 3, 4, 5] [6] [7] (by kernel_rfl) (by kernel_rfl) (by (exact ⟨x09, x19, x29, x39, c6⟩)) ?_
          simp only [pickL, List.getElem?_cons_zero, List.getElem?_cons_succ]
          repeat (refine wpFirst_step _ (Or.inl ⟨by rfl, by (intro w hSw; (try dsimp only at hSw); go_simp; try with_reducible rfl)⟩) ?_; (try simp only [Act.put, List.setIfInBounds_toArray, List.set_cons_zero, List.set_cons_succ]))
          refine wpFirst_nil ?_
          unfold wpHold
          go_wp2_with fail
          refine (own_spec (H9.out.drew.pull 1 _ rfl) (by have := HSML.out.1; omega) (fun x hx => by have := HSML.out.2 x hx; omega)).mono ?_
          rintro e w10 ⟨vo, I10, rfl, hI10, h10⟩
          have h10a : St W I10 w10 (thingHP vo t :: dryHP B (showS Sj (⟨k0, k1, k2, k3⟩ : K4) (wrap64 (sizeO (get (⟨k0, k1, k2, k3⟩ : K4) Sj.seen))) (some t)) :: thingHP (.pointer (some ⟨bt, 0, none⟩)) t :: HP.hole keyKT thingHP B.m1 (⟨k0, k1, k2, k3⟩ : K4) (.pointer (some ⟨bt, 0, none⟩)) (del (⟨k0, k1, k2, k3⟩ : K4) Sj.seen) :: storeBlk p (showS Sj (⟨k0, k1, k2, k3⟩ : K4) (wrap64 (sizeO (get (⟨k0, k1, k2, k3⟩ : K4) Sj.seen))) (some t)) B :: lateHP B (showS Sj (⟨k0, k1, k2, k3⟩ : K4) (wrap64 (sizeO (get (⟨k0, k1, k2, k3⟩ : K4) Sj.seen))) (some t)) :: keyHP B (showS Sj (⟨k0, k1, k2, k3⟩ : K4) (wrap64 (sizeO (get (⟨k0, k1, k2, k3⟩ : K4) Sj.seen))) (some t)) :: HP.pt wr.heap.size (.cells #[.int .i64 k0, .int .i64 k1, .int .i64 k2, .int .i64 k3] 27) :: keysHP (.slice (some ⟨g, 0, none⟩) ss.length c) ss :: l) := h10.perm (by ((try simp only [List.eraseIdx_cons_succ, List.eraseIdx_cons_zero, List.cons_append, List.nil_append]); repeat (first | with_reducible exact List.Perm.refl _ | (apply perm_step; (· repeat (first | with_reducible exact find_here | with_reducible apply find_there))))))
          have hkA := (h10a.pull 7 _ rfl).heap
          have x0A := cells_of hkA 0
          have x1A := cells_of hkA 1
          have x2A := cells_of hkA 2
          have x3A := cells_of hkA 3
          simp at x0A x1A x2A x3A
          clear hkA
          have c6a := (h10a.pull 4 _ rfl).blk 6
          simp [storeCells] at c6a
          obtain ⟨bo, mo, vbo, hvo, _⟩ := h10a.thing_open
          obtain ⟨w11, hr11, hs11, h11⟩ := h10a.mapOf_put (P := Try.prog) Try.underlying85 (⟨k0, k1, k2, k3⟩ : K4)
          simp only [keyKT, K4.val] at hr11
          subst hvo
          have H11 := Lib.hid h11
          have HR11 := Lib.hid hr11
          have HI10 := Lib.hid hI10
          clear h10 h10a h11 hr11 hs11 hI10 x09 x19 x29 x39 c6
          go_wp2_with fail
          refine holdPost_normal ⟨x0A, x1A, x2A, x3A, c6a⟩ ?_
          have hr11 := HR11.out
          unfold wpHold
          go_wp2_with fail
          refine NoPanic.normal ?_
          clear hr11 c6a x0A x1A x2A x3A
          go_wp2_with fail
          go_roundw
          case rel =>
            refine ⟨j + 1, fallK Sj (⟨k0, k1, k2, k3⟩ : K4) x torn, _, I10, by go_num, rfl, by omega, ?_, ?_, HLATE.out, (HI1.out.trans HI6.out).trans HI10.out, ?_⟩
            · rw [← HFOLD.out, List.drop_eq_getElem_cons hlt, HGET.out]
              show fallL keep torn _ _ _ _ = fallL keep torn _ _ (fallK Sj (⟨k0, k1, k2, k3⟩ : K4) (keepAt keep j) torn) _
              rw [HNK.out]
            · exact fall_inv (HINV.out.less (by omega))
            · have e1 : fallK Sj (⟨k0, k1, k2, k3⟩ : K4) x torn = { showS Sj (⟨k0, k1, k2, k3⟩ : K4) (wrap64 (sizeO (get (⟨k0, k1, k2, k3⟩ : K4) Sj.seen))) (some t) with dry := put (⟨k0, k1, k2, k3⟩ : K4) t Sj.dry } := by
                unfold fallK dryPut
                rw [HT.out]
              rw [e1]
              have h12 := St.hole_back ((H11.out.pull 1 _ rfl).perm (m := thingHP (.pointer (some ⟨bt, 0, none⟩)) t :: HP.hole keyKT thingHP B.m1 (⟨k0, k1, k2, k3⟩ : K4) (.pointer (some ⟨bt, 0, none⟩)) (del (⟨k0, k1, k2, k3⟩ : K4) Sj.seen) :: HP.mapOf keyKT thingHP B.m2 (put (⟨k0, k1, k2, k3⟩ : K4) t (showS Sj (⟨k0, k1, k2, k3⟩ : K4) (wrap64 (sizeO (get (⟨k0, k1, k2, k3⟩ : K4) Sj.seen))) (some t)).dry) :: storeBlk p (showS Sj (⟨k0, k1, k2, k3⟩ : K4) (wrap64 (sizeO (get (⟨k0, k1, k2, k3⟩ : K4) Sj.seen))) (some t)) B :: lateHP B (showS Sj (⟨k0, k1, k2, k3⟩ : K4) (wrap64 (sizeO (get (⟨k0, k1, k2, k3⟩ : K4) Sj.seen))) (some t)) :: keyHP B (showS Sj (⟨k0, k1, k2, k3⟩ : K4) (wrap64 (sizeO (get (⟨k0, k1, k2, k3⟩ : K4) Sj.seen))) (some t)) :: HP.pt wr.heap.size (.cells #[.int .i64 k0, .int .i64 k1, .int .i64 k2, .int .i64 k3] 27) :: keysHP (.slice (some ⟨g, 0, none⟩) ss.length c) ss :: l) (by ((try simp only [List.eraseIdx_cons_succ, List.eraseIdx_cons_zero, List.cons_append, List.nil_append]); repeat (first | with_reducible exact List.Perm.refl _ | (apply perm_step; (· repeat (first | with_reducible exact find_here | with_reducible apply find_there)))))))
              exact ((h12.pull 5 _ rfl).drop).perm (m := keysHP (.slice (some ⟨g, 0, none⟩) ss.length c) ss :: storeBlk p (showS Sj (⟨k0, k1, k2, k3⟩ : K4) (wrap64 (sizeO (get (⟨k0, k1, k2, k3⟩ : K4) Sj.seen))) (some t)) B :: HP.mapOf keyKT thingHP B.m1 (((⟨k0, k1, k2, k3⟩ : K4), t) :: del (⟨k0, k1, k2, k3⟩ : K4) Sj.seen) :: HP.mapOf keyKT thingHP B.m2 (put (⟨k0, k1, k2, k3⟩ : K4) t (showS Sj (⟨k0, k1, k2, k3⟩ : K4) (wrap64 (sizeO (get (⟨k0, k1, k2, k3⟩ : K4) Sj.seen))) (some t)).dry) :: lateHP B (showS Sj (⟨k0, k1, k2, k3⟩ : K4) (wrap64 (sizeO (get (⟨k0, k1, k2, k3⟩ : K4) Sj.seen))) (some t)) :: keyHP B (showS Sj (⟨k0, k1, k2, k3⟩ : K4) (wrap64 (sizeO (get (⟨k0, k1, k2, k3⟩ : K4) Sj.seen))) (some t)) :: l) (by ((try simp only [List.eraseIdx_cons_succ, List.eraseIdx_cons_zero, List.cons_append, List.nil_append]); repeat (first | with_reducible exact List.Perm.refl _ | (apply perm_step; (· repeat (first | with_reducible exact find_here | with_reducible apply find_there))))))
          case measure => simp [intOf]; omega
      · have hnk : keepAt keep j = 0 := by unfold keepAt; rw [List.getElem?_eq_none (by omega)]; rfl
        have HNK := Lib.hid hnk
        clear hnk
        go_wp2_with fail
        have hsml := left_small (k := (⟨k0, k1, k2, k3⟩ : K4)) (n := 0) (torn := torn) HINV.out
        have HSML := Lib.hid hsml
        have hst1 : St W I1 (wr.alloc (.cells #[.int .i64 k0, .int .i64 k1, .int .i64 k2, .int .i64 k3] 27)) (storeBlk p Sj B :: dryHP B Sj :: lateHP B Sj :: HP.pt wr.heap.size (.cells #[.int .i64 k0, .int .i64 k1, .int .i64 k2, .int .i64 k3] 27) :: keysHP (.slice (some ⟨g, 0, none⟩) ss.length c) ss :: seenHP B Sj :: keyHP B Sj :: l) := (HST.out.alloc (.cells #[.int .i64 k0, .int .i64 k1, .int .i64 k2, .int .i64 k3] 27)).perm (by ((try simp only [List.eraseIdx_cons_succ, List.eraseIdx_cons_zero, List.cons_append, List.nil_append]); repeat (first | with_reducible exact List.Perm.refl _ | (apply perm_step; (· repeat (first | with_reducible exact find_here | with_reducible apply find_there))))))
        have HST1 := Lib.hid hst1
        clear hsml hst1 y0 y1 y2 y3
        refine (left_spec (⟨k0, k1, k2, k3⟩ : K4) 0 torn HST1.out HINV.out.dry HINV.out.late (HINV.out.lateAt _).1).mono ?_
        rintro e w6 ⟨vt, I6, hI6, rfl, h6⟩
        have HI6 := Lib.hid hI6
        clear hI6
        cases ht : (leftS Sj (⟨k0, k1, k2, k3⟩ : K4) 0 torn).1 with
        | none =>
          rw [ht] at h6
          obtain ⟨hvt, h6n⟩ := h6.pure_open
          subst hvt
          clear h6
          have h6 := h6n
          clear h6n
          have HT := Lib.hid ht
          clear ht
          have hk6 := (h6.drew.pull 3 _ rfl).heap
          have x06 := cells_of hk6 0
          have x16 := cells_of hk6 1
          have x26 := cells_of hk6 2
          have x36 := cells_of hk6 3
          simp at x06 x16 x26 x36
          clear hk6
          obtain ⟨v0, H0, hl0, h7, hback⟩ := (h6.drew.pull 5 _ rfl).look_opt (⟨k0, k1, k2, k3⟩ : K4)
          have hl1 := hl0 _ (Below.refl _ _)
          simp only [keyKT, K4.val] at hl1
          have c5 := (h6.drew.pull 0 _ rfl).blk 5
          simp [storeCells] at c5
          have H7 := Lib.hid h7
          have HBK := Lib.hid hback
          clear h6 h7 hl0 hback
          go_wp2_with fail
          refine wp_region_keep (fun w' => w'.cell? ⟨wr.heap.size, 0, none⟩ = some (.int .i64 k0) ∧ w'.cell? ⟨wr.heap.size, 1, none⟩ = some (.int .i64 k1) ∧ w'.cell? ⟨wr.heap.size, 2, none⟩ = some (.int .i64 k2) ∧ w'.cell? ⟨wr.heap.size, 3, none⟩ = some (.int .i64 k3) ∧ w'.cell? ⟨p, 5, none⟩ = some (.map (some B.m1))) [0, 1, 2, 3, 4, 5, 6, 9] [7, 8] [10] (by kernel_rfl) (by kernel_rfl) (by (exact ⟨x06, x16, x26, x36, c5⟩)) ?_
          simp only [pickL, List.getElem?_cons_zero, List.getElem?_cons_succ]
          repeat (refine wpFirst_step _ (Or.inl ⟨by rfl, by (intro w hSw; (try dsimp only at hSw); go_simp; try with_reducible rfl)⟩) ?_; (try simp only [Act.put, List.setIfInBounds_toArray, List.set_cons_zero, List.set_cons_succ]))
          refine wpFirst_nil ?_
          unfold wpHold
          go_wp2_with fail
          refine holdPost_normal ⟨x06, x16, x26, x36, c5⟩ ?_
          unfold wpHold
          go_wp2_with fail
          refine (size_opt H7.out (get_small HINV.out.seen _)).mono ?_
          rintro e w8 ⟨rfl, h8⟩
          have hk8 := (h8.pull 5 _ rfl).heap
          have x08 := cells_of hk8 0
          have x18 := cells_of hk8 1
          have x28 := cells_of hk8 2
          have x38 := cells_of hk8 3
          simp at x08 x18 x28 x38
          clear hk8
          have c58 := (h8.pull 2 _ rfl).blk 5
          simp [storeCells] at c58
          have h8b := HBK.out _ _ _ h8
          have H8 := Lib.hid h8b
          clear h8 h8b x06 x16 x26 x36 hl1 c5
          go_wp2_with fail
          refine holdPost_normal ⟨x08, x18, x28, x38, c58⟩ ?_
          unfold wpHold
          go_wp2_with fail

          have h8d : St W I6 w8 (storeBlk p Sj B :: HP.mapOf keyKT thingHP B.m1 Sj.seen :: dryHP B Sj :: lateHP B Sj :: keyHP B Sj :: HP.pt wr.heap.size (.cells #[.int .i64 k0, .int .i64 k1, .int .i64 k2, .int .i64 k3] 27) :: keysHP (.slice (some ⟨g, 0, none⟩) ss.length c) ss :: l) := H8.out.perm (by ((try simp only [List.eraseIdx_cons_succ, List.eraseIdx_cons_zero, List.cons_append, List.nil_append]); repeat (first | with_reducible exact List.Perm.refl _ | (apply perm_step; (· repeat (first | with_reducible exact find_here | with_reducible apply find_there))))))
          have h8e : St W I6 w8 (optHP (.pointer none) none :: storeBlk p Sj B :: seenHP B Sj :: dryHP B Sj :: lateHP B Sj :: keyHP B Sj :: HP.pt wr.heap.size (.cells #[.int .i64 k0, .int .i64 k1, .int .i64 k2, .int .i64 k3] 27) :: keysHP (.slice (some ⟨g, 0, none⟩) ss.length c) ss :: l) := St.pure_shut rfl h8d
          have h8c : St W I6 w8 (storeBlk p Sj B :: seenHP B Sj :: dryHP B Sj :: lateHP B Sj :: keyHP B Sj :: optHP (.pointer none) none :: HP.pt wr.heap.size (.cells #[.int .i64 k0, .int .i64 k1, .int .i64 k2, .int .i64 k3] 27) :: keysHP (.slice (some ⟨g, 0, none⟩) ss.length c) ss :: l) := h8e.perm (by ((try simp only [List.eraseIdx_cons_succ, List.eraseIdx_cons_zero, List.cons_append, List.nil_append]); repeat (first | with_reducible exact List.Perm.refl _ | (apply perm_step; (· repeat (first | with_reducible exact find_here | with_reducible apply find_there))))))
          clear h8d h8e
          have hmany : (keysAt Sj ((⟨k0, k1, k2, k3⟩ : K4)).grp).length ≤ 100000 := by have := HINV.out.many ((⟨k0, k1, k2, k3⟩ : K4)).grp; omega
          refine (show_spec (o := none) trivial (⟨k0, k1, k2, k3⟩ : K4) _ h8c (HINV.out.rise _) hmany).mono ?_
          rintro e w9 ⟨rfl, h9⟩
          have hk9 := (h9.pull 5 _ rfl).heap
          have x09 := cells_of hk9 0
          have x19 := cells_of hk9 1
          have x29 := cells_of hk9 2
          have x39 := cells_of hk9 3
          simp at x09 x19 x29 x39
          clear hk9
          have c6 := h9.blk 6
          simp [storeCells] at c6
          obtain ⟨w10, hr10, hs10, h10⟩ := (h9.drew.pull 2 _ rfl).mapOf_del (P := Try.prog) (ty := 0) Try.underlying85 (⟨k0, k1, k2, k3⟩ : K4)
          simp only [keyKT, K4.val] at hr10
          have H10 := Lib.hid h10
          have HR10 := Lib.hid hr10
          clear h8c h9 h10 hr10 hs10 x08 x18 x28 x38 c58 hmany
          go_wp2_with fail
          refine NoPanic.normal ?_
          go_wp2_with fail
          refine wp_region_calm [] [0, 1, 2, 3, 4] [5] (by kernel_rfl) (by kernel_rfl) ?_
          simp only [pickL, List.getElem?_cons_zero, List.getElem?_cons_succ]
          repeat (refine wpPlain_step _ (Or.inl ⟨by rfl, by intro w; go_simp; try with_reducible rfl⟩) ?_; (try simp only [Act.put, List.setIfInBounds_toArray, List.set_cons_zero, List.set_cons_succ]))
          refine wpPlain_nil ?_
          repeat still_step
          refine wpStill_nil ?_
          have hr10 := HR10.out
          go_wp2_with fail
          refine NoPanic.normal ?_
          clear hr10 c6 x09 x19 x29 x39
          go_wp2_with fail
          go_roundw
          case rel =>
            refine ⟨j + 1, fallK Sj (⟨k0, k1, k2, k3⟩ : K4) 0 torn, _, I6, by go_num, rfl, by omega, ?_, ?_, HLATE.out, HI1.out.trans HI6.out, ?_⟩
            · rw [← HFOLD.out, List.drop_eq_getElem_cons hlt, HGET.out]
              show fallL keep torn _ _ _ _ = fallL keep torn _ _ (fallK Sj (⟨k0, k1, k2, k3⟩ : K4) (keepAt keep j) torn) _
              rw [HNK.out]
            · exact fall_inv (HINV.out.less (by omega))
            · have e1 : fallK Sj (⟨k0, k1, k2, k3⟩ : K4) 0 torn = { showS Sj (⟨k0, k1, k2, k3⟩ : K4) (wrap64 (sizeO (get (⟨k0, k1, k2, k3⟩ : K4) Sj.seen))) none with dry := del (⟨k0, k1, k2, k3⟩ : K4) Sj.dry } := by
                unfold fallK dryPut
                rw [HT.out]
              rw [e1]
              exact ((H10.out.pull 5 _ rfl).drop).perm (m := keysHP (.slice (some ⟨g, 0, none⟩) ss.length c) ss :: storeBlk p (showS Sj (⟨k0, k1, k2, k3⟩ : K4) (wrap64 (sizeO (get (⟨k0, k1, k2, k3⟩ : K4) Sj.seen))) none) B :: seenHP B (showS Sj (⟨k0, k1, k2, k3⟩ : K4) (wrap64 (sizeO (get (⟨k0, k1, k2, k3⟩ : K4) Sj.seen))) none) :: HP.mapOf keyKT thingHP B.m2 (del (⟨k0, k1, k2, k3⟩ : K4) (showS Sj (⟨k0, k1, k2, k3⟩ : K4) (wrap64 (sizeO (get (⟨k0, k1, k2, k3⟩ : K4) Sj.seen))) none).dry) :: lateHP B (showS Sj (⟨k0, k1, k2, k3⟩ : K4) (wrap64 (sizeO (get (⟨k0, k1, k2, k3⟩ : K4) Sj.seen))) none) :: keyHP B (showS Sj (⟨k0, k1, k2, k3⟩ : K4) (wrap64 (sizeO (get (⟨k0, k1, k2, k3⟩ : K4) Sj.seen))) none) :: l) (by ((try simp only [List.eraseIdx_cons_succ, List.eraseIdx_cons_zero, List.cons_append, List.nil_append]); repeat (first | with_reducible exact List.Perm.refl _ | (apply perm_step; (· repeat (first | with_reducible exact find_here | with_reducible apply find_there))))))
          case measure => simp [intOf]; omega
        | some t =>
          rw [ht] at h6 HSML
          have HT := Lib.hid ht
          obtain ⟨bt, mt, vbt, hve, _⟩ := St.thing_open (v := vt) (t := t) h6
          subst hve
          clear ht
          have hk6 := (h6.drew.pull 4 _ rfl).heap
          have x06 := cells_of hk6 0
          have x16 := cells_of hk6 1
          have x26 := cells_of hk6 2
          have x36 := cells_of hk6 3
          simp at x06 x16 x26 x36
          clear hk6
          obtain ⟨v0, H0, hl0, h7, hback⟩ := (h6.drew.pull 6 _ rfl).look_opt (⟨k0, k1, k2, k3⟩ : K4)
          have hl1 := hl0 _ (Below.refl _ _)
          simp only [keyKT, K4.val] at hl1
          have c5 := (h6.drew.pull 1 _ rfl).blk 5
          simp [storeCells] at c5
          have H7 := Lib.hid h7
          have HBK := Lib.hid hback
          clear h6 h7 hl0 hback
          go_wp2_with fail
          refine wp_region_keep (fun w' => w'.cell? ⟨wr.heap.size, 0, none⟩ = some (.int .i64 k0) ∧ w'.cell? ⟨wr.heap.size, 1, none⟩ = some (.int .i64 k1) ∧ w'.cell? ⟨wr.heap.size, 2, none⟩ = some (.int .i64 k2) ∧ w'.cell? ⟨wr.heap.size, 3, none⟩ = some (.int .i64 k3) ∧ w'.cell? ⟨p, 5, none⟩ = some (.map (some B.m1))) [0, 1, 2, 3, 4, 5, 6, 9] [7, 8] [10] (by kernel_rfl) (by kernel_rfl) (by (exact ⟨x06, x16, x26, x36, c5⟩)) ?_
          simp only [pickL, List.getElem?_cons_zero, List.getElem?_cons_succ]
          repeat (refine wpFirst_step _ (Or.inl ⟨by rfl, by (intro w hSw; (try dsimp only at hSw); go_simp; try with_reducible rfl)⟩) ?_; (try simp only [Act.put, List.setIfInBounds_toArray, List.set_cons_zero, List.set_cons_succ]))
          refine wpFirst_nil ?_
          unfold wpHold
          go_wp2_with fail
          refine holdPost_normal ⟨x06, x16, x26, x36, c5⟩ ?_
          unfold wpHold
          go_wp2_with fail
          refine (size_opt H7.out (get_small HINV.out.seen _)).mono ?_
          rintro e w8 ⟨rfl, h8⟩
          have hk8 := (h8.pull 6 _ rfl).heap
          have x08 := cells_of hk8 0
          have x18 := cells_of hk8 1
          have x28 := cells_of hk8 2
          have x38 := cells_of hk8 3
          simp at x08 x18 x28 x38
          clear hk8
          have c58 := (h8.pull 3 _ rfl).blk 5
          simp [storeCells] at c58
          have h8b := HBK.out _ _ _ h8
          have H8 := Lib.hid h8b
          clear h8 h8b x06 x16 x26 x36 hl1 c5
          go_wp2_with fail
          refine holdPost_normal ⟨x08, x18, x28, x38, c58⟩ ?_
          unfold wpHold
          go_wp2_with fail

          have h8e : St W I6 w8 (HP.mapOf keyKT thingHP B.m1 Sj.seen :: thingHP (.pointer (some ⟨bt, 0, none⟩)) t :: storeBlk p Sj B :: dryHP B Sj :: lateHP B Sj :: HP.pt wr.heap.size (.cells #[.int .i64 k0, .int .i64 k1, .int .i64 k2, .int .i64 k3] 27) :: keysHP (.slice (some ⟨g, 0, none⟩) ss.length c) ss :: keyHP B Sj :: l) := H8.out
          have h8c : St W I6 w8 (storeBlk p Sj B :: HP.mapOf keyKT thingHP B.m1 Sj.seen :: dryHP B Sj :: lateHP B Sj :: keyHP B Sj :: thingHP (.pointer (some ⟨bt, 0, none⟩)) t :: HP.pt wr.heap.size (.cells #[.int .i64 k0, .int .i64 k1, .int .i64 k2, .int .i64 k3] 27) :: keysHP (.slice (some ⟨g, 0, none⟩) ss.length c) ss :: l) := h8e.perm (by ((try simp only [List.eraseIdx_cons_succ, List.eraseIdx_cons_zero, List.cons_append, List.nil_append]); repeat (first | with_reducible exact List.Perm.refl _ | (apply perm_step; (· repeat (first | with_reducible exact find_here | with_reducible apply find_there))))))
          clear h8e
          have hmany : (keysAt Sj ((⟨k0, k1, k2, k3⟩ : K4)).grp).length ≤ 100000 := by have := HINV.out.many ((⟨k0, k1, k2, k3⟩ : K4)).grp; omega
          refine (show_there_at HSML.out (⟨k0, k1, k2, k3⟩ : K4) (spot_seen _ _ _) _ h8c (HINV.out.rise _) hmany).mono ?_
          rintro e w9 ⟨rfl, h9⟩
          have hk9 := (h9.pull 6 _ rfl).heap
          have x09 := cells_of hk9 0
          have x19 := cells_of hk9 1
          have x29 := cells_of hk9 2
          have x39 := cells_of hk9 3
          simp at x09 x19 x29 x39
          clear hk9
          have c6 := h9.blk 6
          simp [storeCells] at c6
          have H9 := Lib.hid h9
          clear h8c h9 x08 x18 x28 x38 c58 hmany
          go_wp2_with fail
          refine NoPanic.normal ?_
          go_wp2_with fail
          refine wp_region_keep (fun w' => w'.cell? ⟨wr.heap.size, 0, none⟩ = some (.int .i64 k0) ∧ w'.cell? ⟨wr.heap.size, 1, none⟩ = some (.int .i64 k1) ∧ w'.cell? ⟨wr.heap.size, 2, none⟩ = some (.int .i64 k2) ∧ w'.cell? ⟨wr.heap.size, 3, none⟩ = some (.int .i64 k3) ∧ w'.cell? ⟨p, 6, none⟩ = some (.map (some B.m2))) [0, 1, 2, 3, 4, 5] [6] [7] (by kernel_rfl) (by kernel_rfl) (by (exact ⟨x09, x19, x29, x39, c6⟩)) ?_
          simp only [pickL, List.getElem?_cons_zero, List.getElem?_cons_succ]
          repeat (refine wpFirst_step _ (Or.inl ⟨by rfl, by (intro w hSw; (try dsimp only at hSw); go_simp; try with_reducible rfl)⟩) ?_; (try simp only [Act.put, List.setIfInBounds_toArray, List.set_cons_zero, List.set_cons_succ]))
          refine wpFirst_nil ?_
          unfold wpHold
          go_wp2_with fail
          refine (own_spec (H9.out.drew.pull 1 _ rfl) (by have := HSML.out.1; omega) (fun x hx => by have := HSML.out.2 x hx; omega)).mono ?_
          rintro e w10 ⟨vo, I10, rfl, hI10, h10⟩
          have h10a : St W I10 w10 (thingHP vo t :: dryHP B (showS Sj (⟨k0, k1, k2, k3⟩ : K4) (wrap64 (sizeO (get (⟨k0, k1, k2, k3⟩ : K4) Sj.seen))) (some t)) :: thingHP (.pointer (some ⟨bt, 0, none⟩)) t :: HP.hole keyKT thingHP B.m1 (⟨k0, k1, k2, k3⟩ : K4) (.pointer (some ⟨bt, 0, none⟩)) (del (⟨k0, k1, k2, k3⟩ : K4) Sj.seen) :: storeBlk p (showS Sj (⟨k0, k1, k2, k3⟩ : K4) (wrap64 (sizeO (get (⟨k0, k1, k2, k3⟩ : K4) Sj.seen))) (some t)) B :: lateHP B (showS Sj (⟨k0, k1, k2, k3⟩ : K4) (wrap64 (sizeO (get (⟨k0, k1, k2, k3⟩ : K4) Sj.seen))) (some t)) :: keyHP B (showS Sj (⟨k0, k1, k2, k3⟩ : K4) (wrap64 (sizeO (get (⟨k0, k1, k2, k3⟩ : K4) Sj.seen))) (some t)) :: HP.pt wr.heap.size (.cells #[.int .i64 k0, .int .i64 k1, .int .i64 k2, .int .i64 k3] 27) :: keysHP (.slice (some ⟨g, 0, none⟩) ss.length c) ss :: l) := h10.perm (by ((try simp only [List.eraseIdx_cons_succ, List.eraseIdx_cons_zero, List.cons_append, List.nil_append]); repeat (first | with_reducible exact List.Perm.refl _ | (apply perm_step; (· repeat (first | with_reducible exact find_here | with_reducible apply find_there))))))
          have hkA := (h10a.pull 7 _ rfl).heap
          have x0A := cells_of hkA 0
          have x1A := cells_of hkA 1
          have x2A := cells_of hkA 2
          have x3A := cells_of hkA 3
          simp at x0A x1A x2A x3A
          clear hkA
          have c6a := (h10a.pull 4 _ rfl).blk 6
          simp [storeCells] at c6a
          obtain ⟨bo, mo, vbo, hvo, _⟩ := h10a.thing_open
          obtain ⟨w11, hr11, hs11, h11⟩ := h10a.mapOf_put (P := Try.prog) Try.underlying85 (⟨k0, k1, k2, k3⟩ : K4)
          simp only [keyKT, K4.val] at hr11
          subst hvo
          have H11 := Lib.hid h11
          have HR11 := Lib.hid hr11
          have HI10 := Lib.hid hI10
          clear h10 h10a h11 hr11 hs11 hI10 x09 x19 x29 x39 c6
          go_wp2_with fail
          refine holdPost_normal ⟨x0A, x1A, x2A, x3A, c6a⟩ ?_
          have hr11 := HR11.out
          unfold wpHold
          go_wp2_with fail
          refine NoPanic.normal ?_
          clear hr11 c6a x0A x1A x2A x3A
          go_wp2_with fail
          go_roundw
          case rel =>
            refine ⟨j + 1, fallK Sj (⟨k0, k1, k2, k3⟩ : K4) 0 torn, _, I10, by go_num, rfl, by omega, ?_, ?_, HLATE.out, (HI1.out.trans HI6.out).trans HI10.out, ?_⟩
            · rw [← HFOLD.out, List.drop_eq_getElem_cons hlt, HGET.out]
              show fallL keep torn _ _ _ _ = fallL keep torn _ _ (fallK Sj (⟨k0, k1, k2, k3⟩ : K4) (keepAt keep j) torn) _
              rw [HNK.out]
            · exact fall_inv (HINV.out.less (by omega))
            · have e1 : fallK Sj (⟨k0, k1, k2, k3⟩ : K4) 0 torn = { showS Sj (⟨k0, k1, k2, k3⟩ : K4) (wrap64 (sizeO (get (⟨k0, k1, k2, k3⟩ : K4) Sj.seen))) (some t) with dry := put (⟨k0, k1, k2, k3⟩ : K4) t Sj.dry } := by
                unfold fallK dryPut
                rw [HT.out]
              rw [e1]
              have h12 := St.hole_back ((H11.out.pull 1 _ rfl).perm (m := thingHP (.pointer (some ⟨bt, 0, none⟩)) t :: HP.hole keyKT thingHP B.m1 (⟨k0, k1, k2, k3⟩ : K4) (.pointer (some ⟨bt, 0, none⟩)) (del (⟨k0, k1, k2, k3⟩ : K4) Sj.seen) :: HP.mapOf keyKT thingHP B.m2 (put (⟨k0, k1, k2, k3⟩ : K4) t (showS Sj (⟨k0, k1, k2, k3⟩ : K4) (wrap64 (sizeO (get (⟨k0, k1, k2, k3⟩ : K4) Sj.seen))) (some t)).dry) :: storeBlk p (showS Sj (⟨k0, k1, k2, k3⟩ : K4) (wrap64 (sizeO (get (⟨k0, k1, k2, k3⟩ : K4) Sj.seen))) (some t)) B :: lateHP B (showS Sj (⟨k0, k1, k2, k3⟩ : K4) (wrap64 (sizeO (get (⟨k0, k1, k2, k3⟩ : K4) Sj.seen))) (some t)) :: keyHP B (showS Sj (⟨k0, k1, k2, k3⟩ : K4) (wrap64 (sizeO (get (⟨k0, k1, k2, k3⟩ : K4) Sj.seen))) (some t)) :: HP.pt wr.heap.size (.cells #[.int .i64 k0, .int .i64 k1, .int .i64 k2, .int .i64 k3] 27) :: keysHP (.slice (some ⟨g, 0, none⟩) ss.length c) ss :: l) (by ((try simp only [List.eraseIdx_cons_succ, List.eraseIdx_cons_zero, List.cons_append, List.nil_append]); repeat (first | with_reducible exact List.Perm.refl _ | (apply perm_step; (· repeat (first | with_reducible exact find_here | with_reducible apply find_there)))))))
              exact ((h12.pull 5 _ rfl).drop).perm (m := keysHP (.slice (some ⟨g, 0, none⟩) ss.length c) ss :: storeBlk p (showS Sj (⟨k0, k1, k2, k3⟩ : K4) (wrap64 (sizeO (get (⟨k0, k1, k2, k3⟩ : K4) Sj.seen))) (some t)) B :: HP.mapOf keyKT thingHP B.m1 (((⟨k0, k1, k2, k3⟩ : K4), t) :: del (⟨k0, k1, k2, k3⟩ : K4) Sj.seen) :: HP.mapOf keyKT thingHP B.m2 (put (⟨k0, k1, k2, k3⟩ : K4) t (showS Sj (⟨k0, k1, k2, k3⟩ : K4) (wrap64 (sizeO (get (⟨k0, k1, k2, k3⟩ : K4) Sj.seen))) (some t)).dry) :: lateHP B (showS Sj (⟨k0, k1, k2, k3⟩ : K4) (wrap64 (sizeO (get (⟨k0, k1, k2, k3⟩ : K4) Sj.seen))) (some t)) :: keyHP B (showS Sj (⟨k0, k1, k2, k3⟩ : K4) (wrap64 (sizeO (get (⟨k0, k1, k2, k3⟩ : K4) Sj.seen))) (some t)) :: l) (by ((try simp only [List.eraseIdx_cons_succ, List.eraseIdx_cons_zero, List.cons_append, List.nil_append]); repeat (first | with_reducible exact List.Perm.refl _ | (apply perm_step; (· repeat (first | with_reducible exact find_here | with_reducible apply find_there))))))
          case measure => simp [intOf]; omega
    · obtain rfl : ss.length = j := by omega
      have hf2 : fallL keep torn ss 0 S 0 = (Sj, nj) := by rw [← hfold, List.drop_length]; rfl
      have hmm := @run_makeMap Try.prog
      have hst1 := hst.pull 1 _ rfl
      have c7 := hst1.blk 7
      have c3 := hst1.blk 3
      have c4 := hst1.blk 4
      have f7 := frozen_of_row hst1.heap 7
      have f3 := frozen_of_row hst1.heap 3
      have f4 := frozen_of_row hst1.heap 4
      have hpl := hst1.lt
      simp [storeCells] at c7 c3 c4 f7 f3 f4
      have hs3 := ((hst1.setCell 7 (.map (some wr.heap.size))).setCell 3 (.int .i64 0)).setCell 4 (.bool false)
      have hs4 := hs3.alloc (.map #[] 0)
      simp only [World.size_setCell] at hs4
      have hs4 : St W I1 ((((wr.setCell ⟨p, 7, none⟩ (.map (some wr.heap.size))).setCell ⟨p, 3, none⟩ (.int .i64 0)).setCell ⟨p, 4, none⟩ (.bool false)).alloc (.map #[] 0)) (storeBlk p { Sj with late := [], wet := 0, on := false } { B with m3 := wr.heap.size } :: _) := (hs4.mapOf_made (T := keyKT) (own := deedsHP)).pull 1 _ rfl
      have HS4 := Lib.hid hs4
      have HF2 := Lib.hid hf2
      have HI1 := Lib.hid hI1
      clear hst hst1 hfold hinv hlate hI1 hs3 hs4 hf2
      go_wp2_with fail
      refine (fuse_spec (-1) (.slice none 0 0) [] 0 HS4.out (ints_nil _) (by simp)).mono ?_
      rintro e w9 ⟨rfl, vk, I9, hI9, hvk, h9⟩
      have H9 := Lib.hid h9
      have HVK := Lib.hid hvk
      have HI9 := Lib.hid hI9
      clear h9 hvk hI9 c7 c3 c4 f7 f3 f4
      go_wp2_with fail
      go_ret
      have hre : (fallL keep torn ss 0 S 0) = (Sj, nj) := HF2.out
      refine ⟨ss, { B with m3 := wr.heap.size, vk := vk }, I9, HRI.out, HPE.out, HI1.out.trans HI9.out, ?_⟩
      rw [hre]
      refine ⟨rfl, HVK.out, ?_⟩
      have h10 : St W I9 w9 (storeBlk p (fallEnd Sj) { B with m3 := wr.heap.size, vk := vk } :: HP.mapOf keyKT deedsHP wr.heap.size [] :: keysHP (.slice A ss.length c) ss :: seenHP B Sj :: dryHP B Sj :: lateHP B Sj :: keyHP B Sj :: l) := H9.out
      exact ((h10.pull 2 _ rfl).drop.pull 4 _ rfl).drop.perm (m := storeBlk p (fallEnd Sj) { B with m3 := wr.heap.size, vk := vk } :: seenHP B Sj :: dryHP B Sj :: HP.mapOf keyKT deedsHP wr.heap.size [] :: keyHP B Sj :: l) (by ((try simp only [List.eraseIdx_cons_succ, List.eraseIdx_cons_zero, List.cons_append, List.nil_append]); repeat (first | with_reducible exact List.Perm.refl _ | (apply perm_step; (· repeat (first | with_reducible exact find_here | with_reducible apply find_there))))))
end
end Go.Proofs.Ytnokhjhhadnckaa
