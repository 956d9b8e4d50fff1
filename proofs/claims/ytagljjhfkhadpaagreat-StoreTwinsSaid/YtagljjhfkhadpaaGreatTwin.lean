/- (*Store).Twin. -/
import Derived.Test.YtagljjhfkhadpaaGreatStoreOps
import Derived.Test.YtagljjhfkhadpaaGreatTools
set_option linter.unusedSimpArgs false
set_option linter.unusedVariables false
set_option linter.unusedSectionVars false
namespace Go.Proofs.YtagljjhfkhadpaaGreat
open Go.RowKit
section
variable {W w : World} {I : Hp} {l : List HP} {p p2 : Nat} {S : Str}
theorem thing_shape {v : Value} {t : TS} (h : St W I w (thingHP v t :: l)) : ∃ b, v = .pointer (some ⟨b, 0, none⟩) := by
  obtain ⟨b, m, vb, e, _⟩ := h.thing_open
  exact ⟨b, e⟩
theorem deeds_shape {v : Value} {ds : List Dd} (h : St W I w (deedsHP v ds :: l)) : ∃ A c, v = .slice A ds.length c := by
  obtain ⟨ps, _, h⟩ := h.deeds_open
  exact is_slice h.row_owns
theorem keys_shape {v : Value} {ks : List K4} (h : St W I w (keysHP v ks :: l)) : ∃ A c, v = .slice A ks.length c := is_slice (St.row_owns (e := 30) h)
theorem dcells_one {ds : List Dd} {ps : List Value} (h : (psIP ds ps).p I) : ∀ u ∈ dcells ds ps, u.oneCell' = true := by
  obtain ⟨hl, hb⟩ := h
  induction ds generalizing ps with
  | nil => intro u hu; cases ps <;> simp [dcells] at hu
  | cons d ds ih =>
    cases ps with
    | nil => simp at hl
    | cons q ps =>
      intro u hu
      simp only [dcells, List.mem_cons] at hu
      rcases hu with rfl | rfl | rfl | rfl | hu
      · rfl
      · rfl
      · obtain ⟨A, c, e, _⟩ := hb 0 d u rfl rfl
        rw [e]; rfl
      · rfl
      · exact ih (by simpa using hl) (fun i d' q' e f => hb (i + 1) d' q' (by simpa using e) (by simpa using f)) u hu
theorem dclone_spec {v : Value} {ds : List Dd} (h : St W I w (deedsHP v ds :: l)) (hn : ds.length ≤ 1000000) :
    Calls Tryz.prog 26 #[v] w fun e w' => ∃ v' I', e = .returned v' ∧ I.sub I' ∧ St W I' w' (deedsHP v' ds :: deedsHP v ds :: l) := by
  obtain ⟨ps, hps, h1⟩ := h.deeds_open
  refine (cloneD_spec v _ _ w (SliceSrc.of_owns h1.row_owns (dcells_one hps)) hn).mono ?_
  rintro e w' ⟨v', rfl, ho, hb⟩
  have h2 := h1.row_fresh hb ho
  exact ⟨v', I, rfl, Hp.sub.refl _, St.deeds_shut hps (((St.deeds_shut hps (h2.perm (List.Perm.swap _ _ _)))).perm (List.Perm.swap _ _ _))⟩
theorem kclone_spec {v : Value} {ks : List K4} (h : St W I w (keysHP v ks :: l)) (hn : ks.length ≤ 1000000) :
    Calls Tryz.prog 27 #[v] w fun e w' => ∃ v' I', e = .returned v' ∧ I.sub I' ∧ St W I' w' (keysHP v' ks :: keysHP v ks :: l) := by
  have h1 : St W I w (HP.row 30 4 v ks.length (ks.flatMap K4.vals) :: l) := h
  refine (cloneK_spec v _ _ w (SliceSrc.of_owns h1.row_owns (keys_one ks)) hn).mono ?_
  rintro e w' ⟨v', rfl, ho, hb⟩
  exact ⟨v', I, rfl, Hp.sub.refl _, h1.row_fresh hb ho⟩
end
section
variable {P : Program} {k : TypeId} {K : Type} [DecidableEq K] {α : Type} {T : KT P k K} {own : Value → α → HP} {W w : World} {I : Hp} {l : List HP} {b : Nat} {L : List (K × α)}
theorem St.mapOf_hold (h : St W I w (HP.mapOf T own b L :: l)) : ∃ M : List (K × Value × α), (M.map dat3).Perm L ∧ (M.map (·.1)).Nodup ∧ St W I w (HP.map T b (M.map fst3) :: HP.all (M.map (own3 own)) :: l) := by
  obtain ⟨M, hM, h4⟩ := h.mapOf_open
  have hn := h4.map_nodup
  refine ⟨M, hM, by simpa [List.map_map, fst3, Function.comp_def] using hn, ?_⟩
  exact (St.all_shut (h4.perm (m := M.map (own3 own) ++ (HP.map T b (M.map fst3) :: l)) List.perm_middle.symm)).perm (List.Perm.swap _ _ _)
theorem St.mapOf_back {M : List (K × Value × α)} (h : St W I w (HP.map T b (M.map fst3) :: HP.all (M.map (own3 own)) :: l)) (hM : (M.map dat3).Perm L) : St W I w (HP.mapOf T own b L :: l) :=
  St.mapOf_shut (((St.all_open (h.perm (List.Perm.swap _ _ _)))).perm List.perm_middle) hM
theorem St.all_take {M M' : List (K × Value × α)} {m : K × Value × α} (h : St W I w (HP.all (M.map (own3 own)) :: l)) (hp : M.Perm (m :: M')) : St W I w (own m.2.1 m.2.2 :: HP.all (M'.map (own3 own)) :: l) := by
  have h2 : St W I w ((m :: M').map (own3 own) ++ l) := (St.all_open h).perm ((hp.map _).append_right l)
  exact (St.all_shut (l := M'.map (own3 own)) (h2.perm (m := M'.map (own3 own) ++ (own m.2.1 m.2.2 :: l)) List.perm_middle.symm)).perm (List.Perm.swap _ _ _)
theorem St.all_lay {M M' : List (K × Value × α)} {m : K × Value × α} (h : St W I w (own m.2.1 m.2.2 :: HP.all (M'.map (own3 own)) :: l)) (hp : M.Perm (m :: M')) : St W I w (HP.all (M.map (own3 own)) :: l) := by
  have h2 := St.all_open (h.perm (List.Perm.swap _ _ _))
  exact St.all_shut ((h2.perm (m := (m :: M').map (own3 own) ++ l) List.perm_middle).perm ((hp.map _).append_right l).symm)
theorem mem_perm_of {lm dn lm' M : List (K × Value × α)} {m : K × Value × α} (h : (lm ++ dn).Perm M) (hl : lm.Perm (m :: lm')) : ∃ M', M.Perm (m :: M') := ⟨lm' ++ dn, h.symm.trans (hl.append_right dn)⟩
theorem put_done3 {lm dn lm' M : List (K × Value × α)} {m : K × Value × α} (hn : (M.map (·.1)).Nodup) (h : (lm ++ dn).Perm M) (hl : lm.Perm (m :: lm')) :
    (lm' ++ m :: dn).Perm M ∧ put m.1 m.2.2 (dn.map dat3) = (m :: dn).map dat3 := by
  have h1 : (m :: (lm' ++ dn)).Perm M := ((hl.append_right dn).symm).trans h
  refine ⟨List.perm_middle.trans h1, ?_⟩
  have h2 : ((m :: (lm' ++ dn)).map (·.1)).Nodup := (h1.map _).nodup_iff.2 hn
  have h3 : ∀ q ∈ dn.map dat3, q.1 ≠ m.1 := fun q hq e => by
    obtain ⟨y, hy, rfl⟩ := List.mem_map.1 hq
    exact (List.nodup_cons.1 h2).1 (List.mem_map.2 ⟨y, List.mem_append_right _ hy, e⟩)
  unfold put
  rw [del_of_none (get_none.2 h3)]
  rfl
end
section
variable {W w : World} {I : Hp} {l : List HP} {p p2 : Nat} {S : Str}
set_option maxRecDepth 4000
set_option maxHeartbeats 8000000
theorem twin_loop1 {a b : Code} {Q : Exit → Act → World → Prop} {K : Act → World → Prop} (hK : ∀ x y, b.wp Tryz.prog Q x y → K x y) (hC : (Tryz.f9).body.bind (fromR 5) = some (.seq a b)) {x1 x2 x4 x5 x6 x7 x8 x9 x10 x11 x12 x13 x14 x15 x16 x17 x18 x19 x20 x21 x22 x23 x24 x25 x26 x27 x28 x29 x30 x31 x32 x33 x34 x35 x36 x37 x38 x39 x40 x41 x42 x43 x44 x45 x46 x47 x48 x49 x50 x51 x52 x53 x54 x55 x56 x57 x58 x59 x60 x61 x62 x63 x64 x65 x66 x67 x68 x69 x70 x71 x72 x73 x74 x75 x76 x77 x78 x79 x80 x81 x82 x83 x84 x85 x86 x87 x88 x89 x90 : Value} {B B2 : SB}
    (h : St W I w (HP.mapOf keyKT thingHP B.m1 S.seen :: storeBlk p S B :: storeBlk p2 S B2 :: HP.mapOf keyKT thingHP B2.m1 [] :: l)) (hsm : ∀ x ∈ S.seen, x.2.small)
    (hQ : ∀ (y1 y2 y4 y5 y6 y7 y8 y9 y10 y11 y12 y13 y14 y15 y16 y17 y18 y19 y20 y21 y22 y23 y24 y25 y26 y27 y28 y29 y30 y31 y32 y33 y34 y35 y36 y37 y38 y39 y40 y41 y42 y43 y44 y45 y46 y47 y48 y49 y50 y51 y52 y53 y54 y55 y56 y57 y58 y59 y60 y61 y62 y63 y64 y65 y66 y67 y68 y69 y70 y71 y72 y73 y74 y75 y76 y77 y78 y79 y80 y81 y82 y83 y84 y85 y86 y87 y88 y89 y90 : Value) (I' : Hp) (w' : World), I.sub I' → St W I' w' (HP.mapOf keyKT thingHP B.m1 S.seen :: storeBlk p S B :: storeBlk p2 S B2 :: HP.mapOf keyKT thingHP B2.m1 S.seen :: l) →
      Q .normal ⟨#[.pointer (some ⟨p, 0, none⟩), y1, y2, .pointer (some ⟨p2, 0, none⟩), y4, y5, y6, y7, y8, y9, y10, y11, y12, y13, y14, y15, y16, y17, y18, y19, y20, y21, y22, y23, y24, y25, y26, y27, y28, y29, y30, y31, y32, y33, y34, y35, y36, y37, y38, y39, y40, y41, y42, y43, y44, y45, y46, y47, y48, y49, y50, y51, y52, y53, y54, y55, y56, y57, y58, y59, y60, y61, y62, y63, y64, y65, y66, y67, y68, y69, y70, y71, y72, y73, y74, y75, y76, y77, y78, y79, y80, y81, y82, y83, y84, y85, y86, y87, y88, y89, y90], []⟩ w') :
    a.wp Tryz.prog (Exit.then K Q) ⟨#[.pointer (some ⟨p, 0, none⟩), x1, x2, .pointer (some ⟨p2, 0, none⟩), x4, x5, x6, x7, x8, x9, x10, x11, x12, x13, x14, x15, x16, x17, x18, x19, x20, x21, x22, x23, x24, x25, x26, x27, x28, x29, x30, x31, x32, x33, x34, x35, x36, x37, x38, x39, x40, x41, x42, x43, x44, x45, x46, x47, x48, x49, x50, x51, x52, x53, x54, x55, x56, x57, x58, x59, x60, x61, x62, x63, x64, x65, x66, x67, x68, x69, x70, x71, x72, x73, x74, x75, x76, x77, x78, x79, x80, x81, x82, x83, x84, x85, x86, x87, x88, x89, x90], []⟩ w := by
  injection hC with hC
  injection hC with hC1 hC2
  subst hC1 hC2
  have c5 := (h.pull 1 _ rfl).blk 5
  have ltp := (h.pull 1 _ rfl).lt
  simp [storeCells] at c5
  obtain ⟨M, hM, hnd, h5⟩ := h.mapOf_hold
  obtain ⟨w3, hrun, hsz, h6⟩ := h5.range (P := Tryz.prog) Tryz.underlying49
  have HQ := Lib.hid hQ
  have HM := Lib.hid hM
  have HND := Lib.hid hnd
  have HSM := Lib.hid hsm
  have H6 := Lib.hid h6
  clear hQ h hM hnd hsm h5 h6
  go_wp2_with fail
  go_loopw [4] (fun _ wr => ∃ (lm dn : List (K4 × Value × TS)) (I1 : Hp), (lm ++ dn).Perm M ∧ I.sub I1 ∧
    St W I1 wr (HP.iter keyKT B.m1 w.heap.size (M.map fst3) (lm.map fst3) :: HP.all (M.map (own3 thingHP)) :: storeBlk p S B :: storeBlk p2 S B2 :: HP.mapOf keyKT thingHP B2.m1 (dn.map dat3) :: l)) (fun _ wr => wr.rangeLeft B.m1 w.heap.size)
  case atStart => exact ⟨M, [], I, by simp, Hp.sub.refl _, H6.out⟩
  case round =>
    obtain ⟨lm, dn, I1, hpm, hI1, hst⟩ := hrel
    rcases hst.nextM 0 with ⟨rfl, hrun⟩ | ⟨a, v, x, lm', w4, hlm, hrun, hsz2, hent, hst2⟩
    · have h8 := St.mapOf_back hst.iter_shut_map HM.out
      have h9 := (h8.pull 3 _ rfl).mapOf_perm ((hpm.map dat3).trans HM.out)
      have H9 := Lib.hid (h9.perm (m := HP.mapOf keyKT thingHP B.m1 S.seen :: storeBlk p S B :: storeBlk p2 S B2 :: HP.mapOf keyKT thingHP B2.m1 S.seen :: l) (by ((try simp only [List.eraseIdx_cons_succ, List.eraseIdx_cons_zero, List.cons_append, List.nil_append]); repeat (first | with_reducible exact List.Perm.refl _ | (apply perm_step; (· repeat (first | with_reducible exact find_here | with_reducible apply find_there)))))))
      have HI1 := Lib.hid hI1
      clear h8 h9 hst hpm hI1
      go_wp2_with fail
      exact HQ.out _ _ _ _ _ _ _ _ _ _ _ _ _ _ _ _ _ _ _ _ _ _ _ _ _ _ _ _ _ _ _ _ _ _ _ _ _ _ _ _ _ _ _ _ _ _ _ _ _ _ _ _ _ _ _ _ _ _ _ _ _ _ _ _ _ _ _ _ _ _ _ _ _ _ _ _ _ _ _ _ _ _ _ _ _ _ _ _ _ I1 _ HI1.out H9.out
    · obtain ⟨M', hM'⟩ := mem_perm_of hpm hlm
      have hxS : (a, x) ∈ S.seen := HM.out.mem_iff.1 (List.mem_map.2 ⟨(a, v, x), hM'.mem_iff.2 (by simp), rfl⟩)
      have hsm := HSM.out _ hxS
      simp only at hsm
      have h7a := St.all_take (hst2.pull 1 _ rfl) hM'
      simp only at h7a
      obtain ⟨b_, rfl⟩ := thing_shape h7a
      obtain ⟨a0, a1, a2, a3⟩ := a
      simp only [keyKT, K4.val] at hrun hent
      have h7 := h7a.alloc (.cells #[.int .i64 a0, .int .i64 a1, .int .i64 a2, .int .i64 a3] 30)
      rw [hsz2] at h7
      have HS := Lib.hid hst
      have HPM := Lib.hid hpm
      have HLM := Lib.hid hlm
      have HI1 := Lib.hid hI1
      have HMP := Lib.hid hM'
      have HSX := Lib.hid hsm
      clear hst hpm hI1 hst2 hlm hM' hxS hsm h7a
      go_wp2_with fail
      obtain ⟨w5, hw5⟩ : ∃ w5, w4.alloc (.cells #[.int .i64 a0, .int .i64 a1, .int .i64 a2, .int .i64 a3] 30) = w5 := ⟨_, rfl⟩
      rw [hw5] at h7 ⊢
      have x0 := cells_of h7.heap 0
      have x1 := cells_of h7.heap 1
      have x2 := cells_of h7.heap 2
      have x3 := cells_of h7.heap 3
      have c6 := (h7.pull 5 _ rfl).blk 5
      simp [storeCells] at x0 x1 x2 x3 c6
      have H7 := Lib.hid h7
      clear h7 hw5 hrun hent
      refine wp_region_keep (fun w' => w'.cell? ⟨wr.heap.size, 0, none⟩ = some (.int .i64 a0) ∧ w'.cell? ⟨wr.heap.size, 1, none⟩ = some (.int .i64 a1) ∧ w'.cell? ⟨wr.heap.size, 2, none⟩ = some (.int .i64 a2) ∧ w'.cell? ⟨wr.heap.size, 3, none⟩ = some (.int .i64 a3) ∧ w'.cell? ⟨p2, 5, none⟩ = some (.map (some B2.m1))) [0, 1, 2, 3] [4] [5] (by kernel_rfl) (by kernel_rfl) (by (exact ⟨x0, x1, x2, x3, c6⟩)) ?_
      simp only [pickL, List.getElem?_cons_zero, List.getElem?_cons_succ]
      repeat (refine wpFirst_step _ (Or.inl ⟨by rfl, by (intro w hSw; (try dsimp only at hSw); go_simp; try with_reducible rfl)⟩) ?_; (try simp only [Act.put, List.setIfInBounds_toArray, List.set_cons_zero, List.set_cons_succ]))
      refine wpFirst_nil ?_
      unfold wpHold
      go_wp2_with fail
      refine (own_spec (H7.out.drew.pull 1 _ rfl) (by have := HSX.out.1; omega) (fun x hx => by have := HSX.out.2 x hx; omega)).mono ?_
      rintro e w10 ⟨vo, I10, rfl, hI10, h10⟩
      obtain ⟨bo, hvo⟩ := thing_shape h10
      subst hvo
      have hkA := (h10.pull 2 _ rfl).heap
      have y0 := cells_of hkA 0
      have y1 := cells_of hkA 1
      have y2 := cells_of hkA 2
      have y3 := cells_of hkA 3
      have y6 := (h10.pull 6 _ rfl).blk 5
      simp [storeCells] at y0 y1 y2 y3 y6
      obtain ⟨w11, hr11, hs11, h11⟩ := (h10.perm (m := thingHP (.pointer (some ⟨bo, 0, none⟩)) x :: HP.mapOf keyKT thingHP B2.m1 (dn.map dat3) :: thingHP (.pointer (some ⟨b_, 0, none⟩)) x :: HP.all (M'.map (own3 thingHP)) :: HP.pt wr.heap.size (.cells #[.int .i64 a0, .int .i64 a1, .int .i64 a2, .int .i64 a3] 30) :: HP.iter keyKT B.m1 w.heap.size (M.map fst3) (lm'.map fst3) :: storeBlk p S B :: storeBlk p2 S B2 :: l) (by ((try simp only [List.eraseIdx_cons_succ, List.eraseIdx_cons_zero, List.cons_append, List.nil_append]); repeat (first | with_reducible exact List.Perm.refl _ | (apply perm_step; (· repeat (first | with_reducible exact find_here | with_reducible apply find_there))))))).mapOf_put (P := Tryz.prog) Tryz.underlying49 (⟨a0, a1, a2, a3⟩ : K4)
      simp only [keyKT, K4.val] at hr11
      have H11 := Lib.hid h11
      have HR11 := Lib.hid hr11
      have HI10 := Lib.hid hI10
      clear h10 h11 hr11 hs11 hI10 x0 x1 x2 x3 c6 hkA
      go_wp2_with fail
      refine holdPost_normal ⟨y0, y1, y2, y3, y6⟩ ?_
      have hr11 := HR11.out
      unfold wpHold
      go_wp2_with fail
      refine NoPanic.normal ?_
      clear hr11 y0 y1 y2 y3 y6
      go_wp2_with fail
      obtain ⟨hpd, hput⟩ := put_done3 HND.out HPM.out HLM.out
      simp only at hput
      have h12 := H11.out
      rw [hput] at h12
      have h13 := St.all_lay (M := M) (m := ((⟨a0, a1, a2, a3⟩ : K4), (.pointer (some ⟨b_, 0, none⟩)), x)) ((h12.pull 1 _ rfl).perm (m := thingHP (.pointer (some ⟨b_, 0, none⟩)) x :: HP.all (M'.map (own3 thingHP)) :: HP.mapOf keyKT thingHP B2.m1 ((((⟨a0, a1, a2, a3⟩ : K4), (.pointer (some ⟨b_, 0, none⟩)), x) :: dn).map dat3) :: HP.pt wr.heap.size (.cells #[.int .i64 a0, .int .i64 a1, .int .i64 a2, .int .i64 a3] 30) :: HP.iter keyKT B.m1 w.heap.size (M.map fst3) (lm'.map fst3) :: storeBlk p S B :: storeBlk p2 S B2 :: l) (by ((try simp only [List.eraseIdx_cons_succ, List.eraseIdx_cons_zero, List.cons_append, List.nil_append]); repeat (first | with_reducible exact List.Perm.refl _ | (apply perm_step; (· repeat (first | with_reducible exact find_here | with_reducible apply find_there))))))) HMP.out
      have H13 := Lib.hid (((h13.pull 2 _ rfl).drop).perm (m := HP.iter keyKT B.m1 w.heap.size (M.map fst3) (lm'.map fst3) :: HP.all (M.map (own3 thingHP)) :: storeBlk p S B :: storeBlk p2 S B2 :: HP.mapOf keyKT thingHP B2.m1 ((((⟨a0, a1, a2, a3⟩ : K4), (.pointer (some ⟨b_, 0, none⟩)), x) :: dn).map dat3) :: l) (by ((try simp only [List.eraseIdx_cons_succ, List.eraseIdx_cons_zero, List.cons_append, List.nil_append]); repeat (first | with_reducible exact List.Perm.refl _ | (apply perm_step; (· repeat (first | with_reducible exact find_here | with_reducible apply find_there)))))))
      have HPD := Lib.hid hpd
      clear h12 h13 hpd hput
      go_roundw
      case rel => exact ⟨lm', ((⟨a0, a1, a2, a3⟩ : K4), (.pointer (some ⟨b_, 0, none⟩)), x) :: dn, I10, HPD.out, HI1.out.trans HI10.out, H13.out⟩
      case measure =>
        rw [H13.out.iter_left, HS.out.iter_left]
        simp [HLM.out.length_eq]
end
section
variable {W w : World} {I : Hp} {l : List HP} {p p2 : Nat} {S : Str}
set_option maxRecDepth 4000
set_option maxHeartbeats 8000000
theorem twin_loop2 {a b : Code} {Q : Exit → Act → World → Prop} {K : Act → World → Prop} (hK : ∀ x y, b.wp Tryz.prog Q x y → K x y) (hC : (Tryz.f9).body.bind (fromR 9) = some (.seq a b)) {x1 x2 x4 x5 x6 x7 x8 x9 x10 x11 x12 x13 x14 x15 x16 x17 x18 x19 x20 x21 x22 x23 x24 x25 x26 x27 x28 x29 x30 x31 x32 x33 x34 x35 x36 x37 x38 x39 x40 x41 x42 x43 x44 x45 x46 x47 x48 x49 x50 x51 x52 x53 x54 x55 x56 x57 x58 x59 x60 x61 x62 x63 x64 x65 x66 x67 x68 x69 x70 x71 x72 x73 x74 x75 x76 x77 x78 x79 x80 x81 x82 x83 x84 x85 x86 x87 x88 x89 x90 : Value} {B B2 : SB}
    (h : St W I w (HP.mapOf keyKT thingHP B.m2 S.dry :: storeBlk p S B :: storeBlk p2 S B2 :: HP.mapOf keyKT thingHP B2.m2 [] :: l)) (hsm : ∀ x ∈ S.dry, x.2.small)
    (hQ : ∀ (y1 y2 y4 y5 y6 y7 y8 y9 y10 y11 y12 y13 y14 y15 y16 y17 y18 y19 y20 y21 y22 y23 y24 y25 y26 y27 y28 y29 y30 y31 y32 y33 y34 y35 y36 y37 y38 y39 y40 y41 y42 y43 y44 y45 y46 y47 y48 y49 y50 y51 y52 y53 y54 y55 y56 y57 y58 y59 y60 y61 y62 y63 y64 y65 y66 y67 y68 y69 y70 y71 y72 y73 y74 y75 y76 y77 y78 y79 y80 y81 y82 y83 y84 y85 y86 y87 y88 y89 y90 : Value) (I' : Hp) (w' : World), I.sub I' → St W I' w' (HP.mapOf keyKT thingHP B.m2 S.dry :: storeBlk p S B :: storeBlk p2 S B2 :: HP.mapOf keyKT thingHP B2.m2 S.dry :: l) →
      Q .normal ⟨#[.pointer (some ⟨p, 0, none⟩), y1, y2, .pointer (some ⟨p2, 0, none⟩), y4, y5, y6, y7, y8, y9, y10, y11, y12, y13, y14, y15, y16, y17, y18, y19, y20, y21, y22, y23, y24, y25, y26, y27, y28, y29, y30, y31, y32, y33, y34, y35, y36, y37, y38, y39, y40, y41, y42, y43, y44, y45, y46, y47, y48, y49, y50, y51, y52, y53, y54, y55, y56, y57, y58, y59, y60, y61, y62, y63, y64, y65, y66, y67, y68, y69, y70, y71, y72, y73, y74, y75, y76, y77, y78, y79, y80, y81, y82, y83, y84, y85, y86, y87, y88, y89, y90], []⟩ w') :
    a.wp Tryz.prog (Exit.then K Q) ⟨#[.pointer (some ⟨p, 0, none⟩), x1, x2, .pointer (some ⟨p2, 0, none⟩), x4, x5, x6, x7, x8, x9, x10, x11, x12, x13, x14, x15, x16, x17, x18, x19, x20, x21, x22, x23, x24, x25, x26, x27, x28, x29, x30, x31, x32, x33, x34, x35, x36, x37, x38, x39, x40, x41, x42, x43, x44, x45, x46, x47, x48, x49, x50, x51, x52, x53, x54, x55, x56, x57, x58, x59, x60, x61, x62, x63, x64, x65, x66, x67, x68, x69, x70, x71, x72, x73, x74, x75, x76, x77, x78, x79, x80, x81, x82, x83, x84, x85, x86, x87, x88, x89, x90], []⟩ w := by
  injection hC with hC
  injection hC with hC1 hC2
  subst hC1 hC2
  have c5 := (h.pull 1 _ rfl).blk 6
  have ltp := (h.pull 1 _ rfl).lt
  simp [storeCells] at c5
  obtain ⟨M, hM, hnd, h5⟩ := h.mapOf_hold
  obtain ⟨w3, hrun, hsz, h6⟩ := h5.range (P := Tryz.prog) Tryz.underlying49
  have HQ := Lib.hid hQ
  have HM := Lib.hid hM
  have HND := Lib.hid hnd
  have HSM := Lib.hid hsm
  have H6 := Lib.hid h6
  clear hQ h hM hnd hsm h5 h6
  go_wp2_with fail
  go_loopw [6] (fun _ wr => ∃ (lm dn : List (K4 × Value × TS)) (I1 : Hp), (lm ++ dn).Perm M ∧ I.sub I1 ∧
    St W I1 wr (HP.iter keyKT B.m2 w.heap.size (M.map fst3) (lm.map fst3) :: HP.all (M.map (own3 thingHP)) :: storeBlk p S B :: storeBlk p2 S B2 :: HP.mapOf keyKT thingHP B2.m2 (dn.map dat3) :: l)) (fun _ wr => wr.rangeLeft B.m2 w.heap.size)
  case atStart => exact ⟨M, [], I, by simp, Hp.sub.refl _, H6.out⟩
  case round =>
    obtain ⟨lm, dn, I1, hpm, hI1, hst⟩ := hrel
    rcases hst.nextM 0 with ⟨rfl, hrun⟩ | ⟨a, v, x, lm', w4, hlm, hrun, hsz2, hent, hst2⟩
    · have h8 := St.mapOf_back hst.iter_shut_map HM.out
      have h9 := (h8.pull 3 _ rfl).mapOf_perm ((hpm.map dat3).trans HM.out)
      have H9 := Lib.hid (h9.perm (m := HP.mapOf keyKT thingHP B.m2 S.dry :: storeBlk p S B :: storeBlk p2 S B2 :: HP.mapOf keyKT thingHP B2.m2 S.dry :: l) (by ((try simp only [List.eraseIdx_cons_succ, List.eraseIdx_cons_zero, List.cons_append, List.nil_append]); repeat (first | with_reducible exact List.Perm.refl _ | (apply perm_step; (· repeat (first | with_reducible exact find_here | with_reducible apply find_there)))))))
      have HI1 := Lib.hid hI1
      clear h8 h9 hst hpm hI1
      go_wp2_with fail
      exact HQ.out _ _ _ _ _ _ _ _ _ _ _ _ _ _ _ _ _ _ _ _ _ _ _ _ _ _ _ _ _ _ _ _ _ _ _ _ _ _ _ _ _ _ _ _ _ _ _ _ _ _ _ _ _ _ _ _ _ _ _ _ _ _ _ _ _ _ _ _ _ _ _ _ _ _ _ _ _ _ _ _ _ _ _ _ _ _ _ _ _ I1 _ HI1.out H9.out
    · obtain ⟨M', hM'⟩ := mem_perm_of hpm hlm
      have hxS : (a, x) ∈ S.dry := HM.out.mem_iff.1 (List.mem_map.2 ⟨(a, v, x), hM'.mem_iff.2 (by simp), rfl⟩)
      have hsm := HSM.out _ hxS
      simp only at hsm
      have h7a := St.all_take (hst2.pull 1 _ rfl) hM'
      simp only at h7a
      obtain ⟨b_, rfl⟩ := thing_shape h7a
      obtain ⟨a0, a1, a2, a3⟩ := a
      simp only [keyKT, K4.val] at hrun hent
      have h7 := h7a.alloc (.cells #[.int .i64 a0, .int .i64 a1, .int .i64 a2, .int .i64 a3] 30)
      rw [hsz2] at h7
      have HS := Lib.hid hst
      have HPM := Lib.hid hpm
      have HLM := Lib.hid hlm
      have HI1 := Lib.hid hI1
      have HMP := Lib.hid hM'
      have HSX := Lib.hid hsm
      clear hst hpm hI1 hst2 hlm hM' hxS hsm h7a
      go_wp2_with fail
      obtain ⟨w5, hw5⟩ : ∃ w5, w4.alloc (.cells #[.int .i64 a0, .int .i64 a1, .int .i64 a2, .int .i64 a3] 30) = w5 := ⟨_, rfl⟩
      rw [hw5] at h7 ⊢
      have x0 := cells_of h7.heap 0
      have x1 := cells_of h7.heap 1
      have x2 := cells_of h7.heap 2
      have x3 := cells_of h7.heap 3
      have c6 := (h7.pull 5 _ rfl).blk 6
      simp [storeCells] at x0 x1 x2 x3 c6
      have H7 := Lib.hid h7
      clear h7 hw5 hrun hent
      refine wp_region_keep (fun w' => w'.cell? ⟨wr.heap.size, 0, none⟩ = some (.int .i64 a0) ∧ w'.cell? ⟨wr.heap.size, 1, none⟩ = some (.int .i64 a1) ∧ w'.cell? ⟨wr.heap.size, 2, none⟩ = some (.int .i64 a2) ∧ w'.cell? ⟨wr.heap.size, 3, none⟩ = some (.int .i64 a3) ∧ w'.cell? ⟨p2, 6, none⟩ = some (.map (some B2.m2))) [0, 1, 2, 3] [4] [5] (by kernel_rfl) (by kernel_rfl) (by (exact ⟨x0, x1, x2, x3, c6⟩)) ?_
      simp only [pickL, List.getElem?_cons_zero, List.getElem?_cons_succ]
      repeat (refine wpFirst_step _ (Or.inl ⟨by rfl, by (intro w hSw; (try dsimp only at hSw); go_simp; try with_reducible rfl)⟩) ?_; (try simp only [Act.put, List.setIfInBounds_toArray, List.set_cons_zero, List.set_cons_succ]))
      refine wpFirst_nil ?_
      unfold wpHold
      go_wp2_with fail
      refine (own_spec (H7.out.drew.pull 1 _ rfl) (by have := HSX.out.1; omega) (fun x hx => by have := HSX.out.2 x hx; omega)).mono ?_
      rintro e w10 ⟨vo, I10, rfl, hI10, h10⟩
      obtain ⟨bo, hvo⟩ := thing_shape h10
      subst hvo
      have hkA := (h10.pull 2 _ rfl).heap
      have y0 := cells_of hkA 0
      have y1 := cells_of hkA 1
      have y2 := cells_of hkA 2
      have y3 := cells_of hkA 3
      have y6 := (h10.pull 6 _ rfl).blk 6
      simp [storeCells] at y0 y1 y2 y3 y6
      obtain ⟨w11, hr11, hs11, h11⟩ := (h10.perm (m := thingHP (.pointer (some ⟨bo, 0, none⟩)) x :: HP.mapOf keyKT thingHP B2.m2 (dn.map dat3) :: thingHP (.pointer (some ⟨b_, 0, none⟩)) x :: HP.all (M'.map (own3 thingHP)) :: HP.pt wr.heap.size (.cells #[.int .i64 a0, .int .i64 a1, .int .i64 a2, .int .i64 a3] 30) :: HP.iter keyKT B.m2 w.heap.size (M.map fst3) (lm'.map fst3) :: storeBlk p S B :: storeBlk p2 S B2 :: l) (by ((try simp only [List.eraseIdx_cons_succ, List.eraseIdx_cons_zero, List.cons_append, List.nil_append]); repeat (first | with_reducible exact List.Perm.refl _ | (apply perm_step; (· repeat (first | with_reducible exact find_here | with_reducible apply find_there))))))).mapOf_put (P := Tryz.prog) Tryz.underlying49 (⟨a0, a1, a2, a3⟩ : K4)
      simp only [keyKT, K4.val] at hr11
      have H11 := Lib.hid h11
      have HR11 := Lib.hid hr11
      have HI10 := Lib.hid hI10
      clear h10 h11 hr11 hs11 hI10 x0 x1 x2 x3 c6 hkA
      go_wp2_with fail
      refine holdPost_normal ⟨y0, y1, y2, y3, y6⟩ ?_
      have hr11 := HR11.out
      unfold wpHold
      go_wp2_with fail
      refine NoPanic.normal ?_
      clear hr11 y0 y1 y2 y3 y6
      go_wp2_with fail
      obtain ⟨hpd, hput⟩ := put_done3 HND.out HPM.out HLM.out
      simp only at hput
      have h12 := H11.out
      rw [hput] at h12
      have h13 := St.all_lay (M := M) (m := ((⟨a0, a1, a2, a3⟩ : K4), (.pointer (some ⟨b_, 0, none⟩)), x)) ((h12.pull 1 _ rfl).perm (m := thingHP (.pointer (some ⟨b_, 0, none⟩)) x :: HP.all (M'.map (own3 thingHP)) :: HP.mapOf keyKT thingHP B2.m2 ((((⟨a0, a1, a2, a3⟩ : K4), (.pointer (some ⟨b_, 0, none⟩)), x) :: dn).map dat3) :: HP.pt wr.heap.size (.cells #[.int .i64 a0, .int .i64 a1, .int .i64 a2, .int .i64 a3] 30) :: HP.iter keyKT B.m2 w.heap.size (M.map fst3) (lm'.map fst3) :: storeBlk p S B :: storeBlk p2 S B2 :: l) (by ((try simp only [List.eraseIdx_cons_succ, List.eraseIdx_cons_zero, List.cons_append, List.nil_append]); repeat (first | with_reducible exact List.Perm.refl _ | (apply perm_step; (· repeat (first | with_reducible exact find_here | with_reducible apply find_there))))))) HMP.out
      have H13 := Lib.hid (((h13.pull 2 _ rfl).drop).perm (m := HP.iter keyKT B.m2 w.heap.size (M.map fst3) (lm'.map fst3) :: HP.all (M.map (own3 thingHP)) :: storeBlk p S B :: storeBlk p2 S B2 :: HP.mapOf keyKT thingHP B2.m2 ((((⟨a0, a1, a2, a3⟩ : K4), (.pointer (some ⟨b_, 0, none⟩)), x) :: dn).map dat3) :: l) (by ((try simp only [List.eraseIdx_cons_succ, List.eraseIdx_cons_zero, List.cons_append, List.nil_append]); repeat (first | with_reducible exact List.Perm.refl _ | (apply perm_step; (· repeat (first | with_reducible exact find_here | with_reducible apply find_there)))))))
      have HPD := Lib.hid hpd
      clear h12 h13 hpd hput
      go_roundw
      case rel => exact ⟨lm', ((⟨a0, a1, a2, a3⟩ : K4), (.pointer (some ⟨b_, 0, none⟩)), x) :: dn, I10, HPD.out, HI1.out.trans HI10.out, H13.out⟩
      case measure =>
        rw [H13.out.iter_left, HS.out.iter_left]
        simp [HLM.out.length_eq]
end
section
variable {W w : World} {I : Hp} {l : List HP} {p p2 : Nat} {S : Str}
set_option maxRecDepth 4000
set_option maxHeartbeats 8000000
theorem twin_loop3 {a b : Code} {Q : Exit → Act → World → Prop} {K : Act → World → Prop} (hK : ∀ x y, b.wp Tryz.prog Q x y → K x y) (hC : (Tryz.f9).body.bind (fromR 13) = some (.seq a b)) {x1 x2 x4 x5 x6 x7 x8 x9 x10 x11 x12 x13 x14 x15 x16 x17 x18 x19 x20 x21 x22 x23 x24 x25 x26 x27 x28 x29 x30 x31 x32 x33 x34 x35 x36 x37 x38 x39 x40 x41 x42 x43 x44 x45 x46 x47 x48 x49 x50 x51 x52 x53 x54 x55 x56 x57 x58 x59 x60 x61 x62 x63 x64 x65 x66 x67 x68 x69 x70 x71 x72 x73 x74 x75 x76 x77 x78 x79 x80 x81 x82 x83 x84 x85 x86 x87 x88 x89 x90 : Value} {B B2 : SB}
    (h : St W I w (HP.mapOf keyKT deedsHP B.m3 S.late :: storeBlk p S B :: storeBlk p2 S B2 :: HP.mapOf keyKT deedsHP B2.m3 [] :: l)) (hsm : ∀ x ∈ S.late, x.2.length ≤ 100000)
    (hQ : ∀ (y1 y2 y4 y5 y6 y7 y8 y9 y10 y11 y12 y13 y14 y15 y16 y17 y18 y19 y20 y21 y22 y23 y24 y25 y26 y27 y28 y29 y30 y31 y32 y33 y34 y35 y36 y37 y38 y39 y40 y41 y42 y43 y44 y45 y46 y47 y48 y49 y50 y51 y52 y53 y54 y55 y56 y57 y58 y59 y60 y61 y62 y63 y64 y65 y66 y67 y68 y69 y70 y71 y72 y73 y74 y75 y76 y77 y78 y79 y80 y81 y82 y83 y84 y85 y86 y87 y88 y89 y90 : Value) (I' : Hp) (w' : World), I.sub I' → St W I' w' (HP.mapOf keyKT deedsHP B.m3 S.late :: storeBlk p S B :: storeBlk p2 S B2 :: HP.mapOf keyKT deedsHP B2.m3 S.late :: l) →
      Q .normal ⟨#[.pointer (some ⟨p, 0, none⟩), y1, y2, .pointer (some ⟨p2, 0, none⟩), y4, y5, y6, y7, y8, y9, y10, y11, y12, y13, y14, y15, y16, y17, y18, y19, y20, y21, y22, y23, y24, y25, y26, y27, y28, y29, y30, y31, y32, y33, y34, y35, y36, y37, y38, y39, y40, y41, y42, y43, y44, y45, y46, y47, y48, y49, y50, y51, y52, y53, y54, y55, y56, y57, y58, y59, y60, y61, y62, y63, y64, y65, y66, y67, y68, y69, y70, y71, y72, y73, y74, y75, y76, y77, y78, y79, y80, y81, y82, y83, y84, y85, y86, y87, y88, y89, y90], []⟩ w') :
    a.wp Tryz.prog (Exit.then K Q) ⟨#[.pointer (some ⟨p, 0, none⟩), x1, x2, .pointer (some ⟨p2, 0, none⟩), x4, x5, x6, x7, x8, x9, x10, x11, x12, x13, x14, x15, x16, x17, x18, x19, x20, x21, x22, x23, x24, x25, x26, x27, x28, x29, x30, x31, x32, x33, x34, x35, x36, x37, x38, x39, x40, x41, x42, x43, x44, x45, x46, x47, x48, x49, x50, x51, x52, x53, x54, x55, x56, x57, x58, x59, x60, x61, x62, x63, x64, x65, x66, x67, x68, x69, x70, x71, x72, x73, x74, x75, x76, x77, x78, x79, x80, x81, x82, x83, x84, x85, x86, x87, x88, x89, x90], []⟩ w := by
  injection hC with hC
  injection hC with hC1 hC2
  subst hC1 hC2
  have c5 := (h.pull 1 _ rfl).blk 7
  have ltp := (h.pull 1 _ rfl).lt
  simp [storeCells] at c5
  obtain ⟨M, hM, hnd, h5⟩ := h.mapOf_hold
  obtain ⟨w3, hrun, hsz, h6⟩ := h5.range (P := Tryz.prog) Tryz.underlying50
  have HQ := Lib.hid hQ
  have HM := Lib.hid hM
  have HND := Lib.hid hnd
  have HSM := Lib.hid hsm
  have H6 := Lib.hid h6
  clear hQ h hM hnd hsm h5 h6
  go_wp2_with fail
  go_loopw [8] (fun _ wr => ∃ (lm dn : List (K4 × Value × List Dd)) (I1 : Hp), (lm ++ dn).Perm M ∧ I.sub I1 ∧
    St W I1 wr (HP.iter keyKT B.m3 w.heap.size (M.map fst3) (lm.map fst3) :: HP.all (M.map (own3 deedsHP)) :: storeBlk p S B :: storeBlk p2 S B2 :: HP.mapOf keyKT deedsHP B2.m3 (dn.map dat3) :: l)) (fun _ wr => wr.rangeLeft B.m3 w.heap.size)
  case atStart => exact ⟨M, [], I, by simp, Hp.sub.refl _, H6.out⟩
  case round =>
    obtain ⟨lm, dn, I1, hpm, hI1, hst⟩ := hrel
    rcases hst.nextM 0 with ⟨rfl, hrun⟩ | ⟨a, v, x, lm', w4, hlm, hrun, hsz2, hent, hst2⟩
    · have h8 := St.mapOf_back hst.iter_shut_map HM.out
      have h9 := (h8.pull 3 _ rfl).mapOf_perm ((hpm.map dat3).trans HM.out)
      have H9 := Lib.hid (h9.perm (m := HP.mapOf keyKT deedsHP B.m3 S.late :: storeBlk p S B :: storeBlk p2 S B2 :: HP.mapOf keyKT deedsHP B2.m3 S.late :: l) (by ((try simp only [List.eraseIdx_cons_succ, List.eraseIdx_cons_zero, List.cons_append, List.nil_append]); repeat (first | with_reducible exact List.Perm.refl _ | (apply perm_step; (· repeat (first | with_reducible exact find_here | with_reducible apply find_there)))))))
      have HI1 := Lib.hid hI1
      clear h8 h9 hst hpm hI1
      go_wp2_with fail
      exact HQ.out _ _ _ _ _ _ _ _ _ _ _ _ _ _ _ _ _ _ _ _ _ _ _ _ _ _ _ _ _ _ _ _ _ _ _ _ _ _ _ _ _ _ _ _ _ _ _ _ _ _ _ _ _ _ _ _ _ _ _ _ _ _ _ _ _ _ _ _ _ _ _ _ _ _ _ _ _ _ _ _ _ _ _ _ _ _ _ _ _ I1 _ HI1.out H9.out
    · obtain ⟨M', hM'⟩ := mem_perm_of hpm hlm
      have hxS : (a, x) ∈ S.late := HM.out.mem_iff.1 (List.mem_map.2 ⟨(a, v, x), hM'.mem_iff.2 (by simp), rfl⟩)
      have hsm := HSM.out _ hxS
      simp only at hsm
      have h7a := St.all_take (hst2.pull 1 _ rfl) hM'
      simp only at h7a
      obtain ⟨A_, c_, rfl⟩ := deeds_shape h7a
      obtain ⟨a0, a1, a2, a3⟩ := a
      simp only [keyKT, K4.val] at hrun hent
      have h7 := h7a.alloc (.cells #[.int .i64 a0, .int .i64 a1, .int .i64 a2, .int .i64 a3] 30)
      rw [hsz2] at h7
      have HS := Lib.hid hst
      have HPM := Lib.hid hpm
      have HLM := Lib.hid hlm
      have HI1 := Lib.hid hI1
      have HMP := Lib.hid hM'
      have HSX := Lib.hid hsm
      clear hst hpm hI1 hst2 hlm hM' hxS hsm h7a
      go_wp2_with fail
      obtain ⟨w5, hw5⟩ : ∃ w5, w4.alloc (.cells #[.int .i64 a0, .int .i64 a1, .int .i64 a2, .int .i64 a3] 30) = w5 := ⟨_, rfl⟩
      rw [hw5] at h7 ⊢
      have x0 := cells_of h7.heap 0
      have x1 := cells_of h7.heap 1
      have x2 := cells_of h7.heap 2
      have x3 := cells_of h7.heap 3
      have c6 := (h7.pull 5 _ rfl).blk 7
      simp [storeCells] at x0 x1 x2 x3 c6
      have H7 := Lib.hid h7
      clear h7 hw5 hrun hent
      refine wp_region_keep (fun w' => w'.cell? ⟨wr.heap.size, 0, none⟩ = some (.int .i64 a0) ∧ w'.cell? ⟨wr.heap.size, 1, none⟩ = some (.int .i64 a1) ∧ w'.cell? ⟨wr.heap.size, 2, none⟩ = some (.int .i64 a2) ∧ w'.cell? ⟨wr.heap.size, 3, none⟩ = some (.int .i64 a3) ∧ w'.cell? ⟨p2, 7, none⟩ = some (.map (some B2.m3))) [0, 1, 2, 3] [4] [5] (by kernel_rfl) (by kernel_rfl) (by (exact ⟨x0, x1, x2, x3, c6⟩)) ?_
      simp only [pickL, List.getElem?_cons_zero, List.getElem?_cons_succ]
      repeat (refine wpFirst_step _ (Or.inl ⟨by rfl, by (intro w hSw; (try dsimp only at hSw); go_simp; try with_reducible rfl)⟩) ?_; (try simp only [Act.put, List.setIfInBounds_toArray, List.set_cons_zero, List.set_cons_succ]))
      refine wpFirst_nil ?_
      unfold wpHold
      go_wp2_with fail
      refine (dclone_spec (H7.out.drew.pull 1 _ rfl) (by have := HSX.out; omega)).mono ?_
      rintro e w10 ⟨vo, I10, rfl, hI10, h10⟩
      obtain ⟨Ao, co, hvo⟩ := deeds_shape h10
      subst hvo
      have hkA := (h10.pull 2 _ rfl).heap
      have y0 := cells_of hkA 0
      have y1 := cells_of hkA 1
      have y2 := cells_of hkA 2
      have y3 := cells_of hkA 3
      have y6 := (h10.pull 6 _ rfl).blk 7
      simp [storeCells] at y0 y1 y2 y3 y6
      obtain ⟨w11, hr11, hs11, h11⟩ := (h10.perm (m := deedsHP (.slice Ao x.length co) x :: HP.mapOf keyKT deedsHP B2.m3 (dn.map dat3) :: deedsHP (.slice A_ x.length c_) x :: HP.all (M'.map (own3 deedsHP)) :: HP.pt wr.heap.size (.cells #[.int .i64 a0, .int .i64 a1, .int .i64 a2, .int .i64 a3] 30) :: HP.iter keyKT B.m3 w.heap.size (M.map fst3) (lm'.map fst3) :: storeBlk p S B :: storeBlk p2 S B2 :: l) (by ((try simp only [List.eraseIdx_cons_succ, List.eraseIdx_cons_zero, List.cons_append, List.nil_append]); repeat (first | with_reducible exact List.Perm.refl _ | (apply perm_step; (· repeat (first | with_reducible exact find_here | with_reducible apply find_there))))))).mapOf_put (P := Tryz.prog) Tryz.underlying50 (⟨a0, a1, a2, a3⟩ : K4)
      simp only [keyKT, K4.val] at hr11
      have H11 := Lib.hid h11
      have HR11 := Lib.hid hr11
      have HI10 := Lib.hid hI10
      clear h10 h11 hr11 hs11 hI10 x0 x1 x2 x3 c6 hkA
      go_wp2_with fail
      refine holdPost_normal ⟨y0, y1, y2, y3, y6⟩ ?_
      have hr11 := HR11.out
      unfold wpHold
      go_wp2_with fail
      refine NoPanic.normal ?_
      clear hr11 y0 y1 y2 y3 y6
      go_wp2_with fail
      obtain ⟨hpd, hput⟩ := put_done3 HND.out HPM.out HLM.out
      simp only at hput
      have h12 := H11.out
      rw [hput] at h12
      have h13 := St.all_lay (M := M) (m := ((⟨a0, a1, a2, a3⟩ : K4), (.slice A_ x.length c_), x)) ((h12.pull 1 _ rfl).perm (m := deedsHP (.slice A_ x.length c_) x :: HP.all (M'.map (own3 deedsHP)) :: HP.mapOf keyKT deedsHP B2.m3 ((((⟨a0, a1, a2, a3⟩ : K4), (.slice A_ x.length c_), x) :: dn).map dat3) :: HP.pt wr.heap.size (.cells #[.int .i64 a0, .int .i64 a1, .int .i64 a2, .int .i64 a3] 30) :: HP.iter keyKT B.m3 w.heap.size (M.map fst3) (lm'.map fst3) :: storeBlk p S B :: storeBlk p2 S B2 :: l) (by ((try simp only [List.eraseIdx_cons_succ, List.eraseIdx_cons_zero, List.cons_append, List.nil_append]); repeat (first | with_reducible exact List.Perm.refl _ | (apply perm_step; (· repeat (first | with_reducible exact find_here | with_reducible apply find_there))))))) HMP.out
      have H13 := Lib.hid (((h13.pull 2 _ rfl).drop).perm (m := HP.iter keyKT B.m3 w.heap.size (M.map fst3) (lm'.map fst3) :: HP.all (M.map (own3 deedsHP)) :: storeBlk p S B :: storeBlk p2 S B2 :: HP.mapOf keyKT deedsHP B2.m3 ((((⟨a0, a1, a2, a3⟩ : K4), (.slice A_ x.length c_), x) :: dn).map dat3) :: l) (by ((try simp only [List.eraseIdx_cons_succ, List.eraseIdx_cons_zero, List.cons_append, List.nil_append]); repeat (first | with_reducible exact List.Perm.refl _ | (apply perm_step; (· repeat (first | with_reducible exact find_here | with_reducible apply find_there)))))))
      have HPD := Lib.hid hpd
      clear h12 h13 hpd hput
      go_roundw
      case rel => exact ⟨lm', ((⟨a0, a1, a2, a3⟩ : K4), (.slice A_ x.length c_), x) :: dn, I10, HPD.out, HI1.out.trans HI10.out, H13.out⟩
      case measure =>
        rw [H13.out.iter_left, HS.out.iter_left]
        simp [HLM.out.length_eq]
end
section
variable {W w : World} {I : Hp} {l : List HP} {p p2 : Nat} {S : Str}
set_option maxRecDepth 4000
set_option maxHeartbeats 8000000
theorem twin_loop4 {a b : Code} {Q : Exit → Act → World → Prop} {K : Act → World → Prop} (hK : ∀ x y, b.wp Tryz.prog Q x y → K x y) (hC : (Tryz.f9).body.bind (fromR 17) = some (.seq a b)) {x1 x2 x4 x5 x6 x7 x8 x9 x10 x11 x12 x13 x14 x15 x16 x17 x18 x19 x20 x21 x22 x23 x24 x25 x26 x27 x28 x29 x30 x31 x32 x33 x34 x35 x36 x37 x38 x39 x40 x41 x42 x43 x44 x45 x46 x47 x48 x49 x50 x51 x52 x53 x54 x55 x56 x57 x58 x59 x60 x61 x62 x63 x64 x65 x66 x67 x68 x69 x70 x71 x72 x73 x74 x75 x76 x77 x78 x79 x80 x81 x82 x83 x84 x85 x86 x87 x88 x89 x90 : Value} {B B2 : SB}
    (h : St W I w (HP.mapOf grpKT keysHP B.m4 S.keys :: storeBlk p S B :: storeBlk p2 S B2 :: HP.mapOf grpKT keysHP B2.m4 [] :: l)) (hsm : ∀ x ∈ S.keys, x.2.length ≤ 1000000)
    (hQ : ∀ (y1 y2 y4 y5 y6 y7 y8 y9 y10 y11 y12 y13 y14 y15 y16 y17 y18 y19 y20 y21 y22 y23 y24 y25 y26 y27 y28 y29 y30 y31 y32 y33 y34 y35 y36 y37 y38 y39 y40 y41 y42 y43 y44 y45 y46 y47 y48 y49 y50 y51 y52 y53 y54 y55 y56 y57 y58 y59 y60 y61 y62 y63 y64 y65 y66 y67 y68 y69 y70 y71 y72 y73 y74 y75 y76 y77 y78 y79 y80 y81 y82 y83 y84 y85 y86 y87 y88 y89 y90 : Value) (I' : Hp) (w' : World), I.sub I' → St W I' w' (HP.mapOf grpKT keysHP B.m4 S.keys :: storeBlk p S B :: storeBlk p2 S B2 :: HP.mapOf grpKT keysHP B2.m4 S.keys :: l) →
      Q .normal ⟨#[.pointer (some ⟨p, 0, none⟩), y1, y2, .pointer (some ⟨p2, 0, none⟩), y4, y5, y6, y7, y8, y9, y10, y11, y12, y13, y14, y15, y16, y17, y18, y19, y20, y21, y22, y23, y24, y25, y26, y27, y28, y29, y30, y31, y32, y33, y34, y35, y36, y37, y38, y39, y40, y41, y42, y43, y44, y45, y46, y47, y48, y49, y50, y51, y52, y53, y54, y55, y56, y57, y58, y59, y60, y61, y62, y63, y64, y65, y66, y67, y68, y69, y70, y71, y72, y73, y74, y75, y76, y77, y78, y79, y80, y81, y82, y83, y84, y85, y86, y87, y88, y89, y90], []⟩ w') :
    a.wp Tryz.prog (Exit.then K Q) ⟨#[.pointer (some ⟨p, 0, none⟩), x1, x2, .pointer (some ⟨p2, 0, none⟩), x4, x5, x6, x7, x8, x9, x10, x11, x12, x13, x14, x15, x16, x17, x18, x19, x20, x21, x22, x23, x24, x25, x26, x27, x28, x29, x30, x31, x32, x33, x34, x35, x36, x37, x38, x39, x40, x41, x42, x43, x44, x45, x46, x47, x48, x49, x50, x51, x52, x53, x54, x55, x56, x57, x58, x59, x60, x61, x62, x63, x64, x65, x66, x67, x68, x69, x70, x71, x72, x73, x74, x75, x76, x77, x78, x79, x80, x81, x82, x83, x84, x85, x86, x87, x88, x89, x90], []⟩ w := by
  injection hC with hC
  injection hC with hC1 hC2
  subst hC1 hC2
  have c5 := (h.pull 1 _ rfl).blk 8
  have ltp := (h.pull 1 _ rfl).lt
  simp [storeCells] at c5
  obtain ⟨M, hM, hnd, h5⟩ := h.mapOf_hold
  obtain ⟨w3, hrun, hsz, h6⟩ := h5.range (P := Tryz.prog) Tryz.underlying51
  have HQ := Lib.hid hQ
  have HM := Lib.hid hM
  have HND := Lib.hid hnd
  have HSM := Lib.hid hsm
  have H6 := Lib.hid h6
  clear hQ h hM hnd hsm h5 h6
  go_wp2_with fail
  go_loopw [10] (fun _ wr => ∃ (lm dn : List (G2 × Value × List K4)) (I1 : Hp), (lm ++ dn).Perm M ∧ I.sub I1 ∧
    St W I1 wr (HP.iter grpKT B.m4 w.heap.size (M.map fst3) (lm.map fst3) :: HP.all (M.map (own3 keysHP)) :: storeBlk p S B :: storeBlk p2 S B2 :: HP.mapOf grpKT keysHP B2.m4 (dn.map dat3) :: l)) (fun _ wr => wr.rangeLeft B.m4 w.heap.size)
  case atStart => exact ⟨M, [], I, by simp, Hp.sub.refl _, H6.out⟩
  case round =>
    obtain ⟨lm, dn, I1, hpm, hI1, hst⟩ := hrel
    rcases hst.nextM 0 with ⟨rfl, hrun⟩ | ⟨a, v, x, lm', w4, hlm, hrun, hsz2, hent, hst2⟩
    · have h8 := St.mapOf_back hst.iter_shut_map HM.out
      have h9 := (h8.pull 3 _ rfl).mapOf_perm ((hpm.map dat3).trans HM.out)
      have H9 := Lib.hid (h9.perm (m := HP.mapOf grpKT keysHP B.m4 S.keys :: storeBlk p S B :: storeBlk p2 S B2 :: HP.mapOf grpKT keysHP B2.m4 S.keys :: l) (by ((try simp only [List.eraseIdx_cons_succ, List.eraseIdx_cons_zero, List.cons_append, List.nil_append]); repeat (first | with_reducible exact List.Perm.refl _ | (apply perm_step; (· repeat (first | with_reducible exact find_here | with_reducible apply find_there)))))))
      have HI1 := Lib.hid hI1
      clear h8 h9 hst hpm hI1
      go_wp2_with fail
      exact HQ.out _ _ _ _ _ _ _ _ _ _ _ _ _ _ _ _ _ _ _ _ _ _ _ _ _ _ _ _ _ _ _ _ _ _ _ _ _ _ _ _ _ _ _ _ _ _ _ _ _ _ _ _ _ _ _ _ _ _ _ _ _ _ _ _ _ _ _ _ _ _ _ _ _ _ _ _ _ _ _ _ _ _ _ _ _ _ _ _ _ I1 _ HI1.out H9.out
    · obtain ⟨M', hM'⟩ := mem_perm_of hpm hlm
      have hxS : (a, x) ∈ S.keys := HM.out.mem_iff.1 (List.mem_map.2 ⟨(a, v, x), hM'.mem_iff.2 (by simp), rfl⟩)
      have hsm := HSM.out _ hxS
      simp only at hsm
      have h7a := St.all_take (hst2.pull 1 _ rfl) hM'
      simp only at h7a
      obtain ⟨A_, c_, rfl⟩ := keys_shape h7a
      obtain ⟨a0, a1⟩ := a
      simp only [grpKT, G2.val] at hrun hent
      have h7 := h7a.alloc (.cells #[.int .i64 a0, .int .i64 a1] 65)
      rw [hsz2] at h7
      have HS := Lib.hid hst
      have HPM := Lib.hid hpm
      have HLM := Lib.hid hlm
      have HI1 := Lib.hid hI1
      have HMP := Lib.hid hM'
      have HSX := Lib.hid hsm
      clear hst hpm hI1 hst2 hlm hM' hxS hsm h7a
      go_wp2_with fail
      obtain ⟨w5, hw5⟩ : ∃ w5, w4.alloc (.cells #[.int .i64 a0, .int .i64 a1] 65) = w5 := ⟨_, rfl⟩
      rw [hw5] at h7 ⊢
      have x0 := cells_of h7.heap 0
      have x1 := cells_of h7.heap 1
      have c6 := (h7.pull 5 _ rfl).blk 8
      simp [storeCells] at x0 x1 c6
      have H7 := Lib.hid h7
      clear h7 hw5 hrun hent
      refine wp_region_keep (fun w' => w'.cell? ⟨wr.heap.size, 0, none⟩ = some (.int .i64 a0) ∧ w'.cell? ⟨wr.heap.size, 1, none⟩ = some (.int .i64 a1) ∧ w'.cell? ⟨p2, 8, none⟩ = some (.map (some B2.m4))) [0, 1, 2, 3] [4] [5] (by kernel_rfl) (by kernel_rfl) (by (exact ⟨x0, x1, c6⟩)) ?_
      simp only [pickL, List.getElem?_cons_zero, List.getElem?_cons_succ]
      repeat (refine wpFirst_step _ (Or.inl ⟨by rfl, by (intro w hSw; (try dsimp only at hSw); go_simp; try with_reducible rfl)⟩) ?_; (try simp only [Act.put, List.setIfInBounds_toArray, List.set_cons_zero, List.set_cons_succ]))
      refine wpFirst_nil ?_
      unfold wpHold
      go_wp2_with fail
      refine (kclone_spec (H7.out.drew.pull 1 _ rfl) (by have := HSX.out; omega)).mono ?_
      rintro e w10 ⟨vo, I10, rfl, hI10, h10⟩
      obtain ⟨Ao, co, hvo⟩ := keys_shape h10
      subst hvo
      have hkA := (h10.pull 2 _ rfl).heap
      have y0 := cells_of hkA 0
      have y1 := cells_of hkA 1
      have y6 := (h10.pull 6 _ rfl).blk 8
      simp [storeCells] at y0 y1 y6
      obtain ⟨w11, hr11, hs11, h11⟩ := (h10.perm (m := keysHP (.slice Ao x.length co) x :: HP.mapOf grpKT keysHP B2.m4 (dn.map dat3) :: keysHP (.slice A_ x.length c_) x :: HP.all (M'.map (own3 keysHP)) :: HP.pt wr.heap.size (.cells #[.int .i64 a0, .int .i64 a1] 65) :: HP.iter grpKT B.m4 w.heap.size (M.map fst3) (lm'.map fst3) :: storeBlk p S B :: storeBlk p2 S B2 :: l) (by ((try simp only [List.eraseIdx_cons_succ, List.eraseIdx_cons_zero, List.cons_append, List.nil_append]); repeat (first | with_reducible exact List.Perm.refl _ | (apply perm_step; (· repeat (first | with_reducible exact find_here | with_reducible apply find_there))))))).mapOf_put (P := Tryz.prog) Tryz.underlying51 (⟨a0, a1⟩ : G2)
      simp only [grpKT, G2.val] at hr11
      have H11 := Lib.hid h11
      have HR11 := Lib.hid hr11
      have HI10 := Lib.hid hI10
      clear h10 h11 hr11 hs11 hI10 x0 x1 c6 hkA
      go_wp2_with fail
      refine holdPost_normal ⟨y0, y1, y6⟩ ?_
      have hr11 := HR11.out
      unfold wpHold
      go_wp2_with fail
      refine NoPanic.normal ?_
      clear hr11 y0 y1 y6
      go_wp2_with fail
      obtain ⟨hpd, hput⟩ := put_done3 HND.out HPM.out HLM.out
      simp only at hput
      have h12 := H11.out
      rw [hput] at h12
      have h13 := St.all_lay (M := M) (m := ((⟨a0, a1⟩ : G2), (.slice A_ x.length c_), x)) ((h12.pull 1 _ rfl).perm (m := keysHP (.slice A_ x.length c_) x :: HP.all (M'.map (own3 keysHP)) :: HP.mapOf grpKT keysHP B2.m4 ((((⟨a0, a1⟩ : G2), (.slice A_ x.length c_), x) :: dn).map dat3) :: HP.pt wr.heap.size (.cells #[.int .i64 a0, .int .i64 a1] 65) :: HP.iter grpKT B.m4 w.heap.size (M.map fst3) (lm'.map fst3) :: storeBlk p S B :: storeBlk p2 S B2 :: l) (by ((try simp only [List.eraseIdx_cons_succ, List.eraseIdx_cons_zero, List.cons_append, List.nil_append]); repeat (first | with_reducible exact List.Perm.refl _ | (apply perm_step; (· repeat (first | with_reducible exact find_here | with_reducible apply find_there))))))) HMP.out
      have H13 := Lib.hid (((h13.pull 2 _ rfl).drop).perm (m := HP.iter grpKT B.m4 w.heap.size (M.map fst3) (lm'.map fst3) :: HP.all (M.map (own3 keysHP)) :: storeBlk p S B :: storeBlk p2 S B2 :: HP.mapOf grpKT keysHP B2.m4 ((((⟨a0, a1⟩ : G2), (.slice A_ x.length c_), x) :: dn).map dat3) :: l) (by ((try simp only [List.eraseIdx_cons_succ, List.eraseIdx_cons_zero, List.cons_append, List.nil_append]); repeat (first | with_reducible exact List.Perm.refl _ | (apply perm_step; (· repeat (first | with_reducible exact find_here | with_reducible apply find_there)))))))
      have HPD := Lib.hid hpd
      clear h12 h13 hpd hput
      go_roundw
      case rel => exact ⟨lm', ((⟨a0, a1⟩ : G2), (.slice A_ x.length c_), x) :: dn, I10, HPD.out, HI1.out.trans HI10.out, H13.out⟩
      case measure =>
        rw [H13.out.iter_left, HS.out.iter_left]
        simp [HLM.out.length_eq]
end
section
variable {W w : World} {I : Hp} {l : List HP} {p : Nat} {S : Str}
set_option maxRecDepth 4000
set_option maxHeartbeats 8000000
theorem twin_spec {m : Nat} (h : St W I w (storeHP p S :: l)) (hk : Keeps S m) :
    Calls Tryz.prog 9 #[.pointer (some ⟨p, 0, none⟩)] w fun e w' => ∃ q I', I.sub I' ∧ e = .returned (.pointer (some ⟨q, 0, none⟩)) ∧ St W I' w' (storeHP q S :: storeHP p S :: l) := by
  obtain ⟨B, h1⟩ := h.store_open
  have c0 := h1.blk 0
  have c1 := h1.blk 1
  have c2 := h1.blk 2
  have c3 := h1.blk 3
  have c4 := h1.blk 4
  have c5 := h1.blk 5
  have c6 := h1.blk 6
  have c7 := h1.blk 7
  have c8 := h1.blk 8
  have c9 := h1.blk 9
  have c10 := h1.blk 10
  have c11 := h1.blk 11
  have c12 := h1.blk 12
  have ltp := h1.lt
  simp [storeCells] at c0 c1 c2 c3 c4 c5 c6 c7 c8 c9 c10 c11 c12
  obtain ⟨hkv, _⟩ := (h1.pull 5 _ rfl).imm_open
  have hkv : IntsI I B.vk S.keep := hkv
  have HKV := Lib.hid hkv
  obtain ⟨Ak, ck, hvk, _⟩ := hkv
  rw [hvk] at c12
  have hmm := @run_makeMap Tryz.prog
  have H1 := Lib.hid h1
  have HVK := Lib.hid hvk
  have HK := Lib.hid hk
  clear h h1 hk hvk
  go_enter Tryz.func9, Tryz.ntmps9
  go_upto_region 5 with fail
  have h2 := ((((H1.out.alloc (.cells #[.int .i64 S.room, .int .i64 S.used, .int .i64 S.deeds, .int .i64 S.wet, .bool S.on, .map (some (w.heap.size + 1)), .map (some (w.heap.size + 1 + 1)), .map (some (w.heap.size + 1 + 1 + 1)), .map (some (w.heap.size + 1 + 1 + 1 + 1)), .bool S.armed, .int .i64 S.fuse, .int .i64 S.torn, .slice Ak S.keep.length ck] 53)).alloc (.map #[] 0)).alloc (.map #[] 0)).alloc (.map #[] 0)).alloc (.map #[] 0)
  simp only [World.size_alloc] at h2
  obtain ⟨w2, hw2⟩ : ∃ x, x = ((((w.alloc (.cells #[.int .i64 S.room, .int .i64 S.used, .int .i64 S.deeds, .int .i64 S.wet, .bool S.on, .map (some (w.heap.size + 1)), .map (some (w.heap.size + 1 + 1)), .map (some (w.heap.size + 1 + 1 + 1)), .map (some (w.heap.size + 1 + 1 + 1 + 1)), .bool S.armed, .int .i64 S.fuse, .int .i64 S.torn, .slice Ak S.keep.length ck] 53)).alloc (.map #[] 0)).alloc (.map #[] 0)).alloc (.map #[] 0)).alloc (.map #[] 0) := ⟨_, rfl⟩
  rw [← hw2] at h2 ⊢
  clear hw2
  obtain ⟨q, hq⟩ : ∃ x, x = w.heap.size := ⟨_, rfl⟩
  rw [← hq] at h2 ⊢
  have h3 : St W I w2 (HP.pt (q + 1 + 1 + 1 + 1) (.map #[] 0) :: HP.pt (q + 1 + 1 + 1) (.map #[] 0) :: HP.pt (q + 1 + 1) (.map #[] 0) :: HP.pt (q + 1) (.map #[] 0) :: storeBlk q S ⟨q + 1, q + 1 + 1, q + 1 + 1 + 1, q + 1 + 1 + 1 + 1, .slice Ak S.keep.length ck⟩ :: storeBlk p S B :: seenHP B S :: dryHP B S :: lateHP B S :: keyHP B S :: HP.imm (intsIP B.vk S.keep) :: l) := h2
  obtain ⟨B2, hB2⟩ : ∃ x : SB, x = ⟨q + 1, q + 1 + 1, q + 1 + 1 + 1, q + 1 + 1 + 1 + 1, .slice Ak S.keep.length ck⟩ := ⟨_, rfl⟩
  have h4 : St W I w2 (HP.mapOf keyKT thingHP B2.m1 [] :: HP.mapOf keyKT thingHP B2.m2 [] :: HP.mapOf keyKT deedsHP B2.m3 [] :: HP.mapOf grpKT keysHP B2.m4 [] :: storeBlk q S B2 :: storeBlk p S B :: seenHP B S :: dryHP B S :: lateHP B S :: keyHP B S :: HP.imm (intsIP B.vk S.keep) :: l) := by
    rw [hB2]
    have h5 := h3.mapOf_made (T := grpKT) (own := keysHP)
    have h6 := (h5.pull 1 _ rfl).mapOf_made (T := keyKT) (own := deedsHP)
    have h7 := (h6.pull 2 _ rfl).mapOf_made (T := keyKT) (own := thingHP)
    have h8 := (h7.pull 3 _ rfl).mapOf_made (T := keyKT) (own := thingHP)
    exact h8.perm (by ((try simp only [List.eraseIdx_cons_succ, List.eraseIdx_cons_zero, List.cons_append, List.nil_append]); repeat (first | with_reducible exact List.Perm.refl _ | (apply perm_step; (· repeat (first | with_reducible exact find_here | with_reducible apply find_there))))))
  have H4 := Lib.hid h4
  have HB2 := Lib.hid (show B2.vk = .slice Ak S.keep.length ck by rw [hB2])
  clear h2 h3 h4 hB2 c0 c1 c2 c3 c4 c5 c6 c7 c8 c9 c10 c11 c12 hmm hkv ltp hq
  refine twin_loop1 (by assumption) (by kernel_rfl) (B := B) (B2 := B2) (S := S) (l := HP.mapOf keyKT thingHP B2.m2 [] :: HP.mapOf keyKT deedsHP B2.m3 [] :: HP.mapOf grpKT keysHP B2.m4 [] :: dryHP B S :: lateHP B S :: keyHP B S :: HP.imm (intsIP B.vk S.keep) :: l) (H4.out.perm (by unfold seenHP; ((try simp only [List.eraseIdx_cons_succ, List.eraseIdx_cons_zero, List.cons_append, List.nil_append]); repeat (first | with_reducible exact List.Perm.refl _ | (apply perm_step; (· repeat (first | with_reducible exact find_here | with_reducible apply find_there))))))) (fun x hx => HK.out.inv.seen x hx) ?_
  intro y1 y2 y4 y5 y6 y7 y8 y9 y10 y11 y12 y13 y14 y15 y16 y17 y18 y19 y20 y21 y22 y23 y24 y25 y26 y27 y28 y29 y30 y31 y32 y33 y34 y35 y36 y37 y38 y39 y40 y41 y42 y43 y44 y45 y46 y47 y48 y49 y50 y51 y52 y53 y54 y55 y56 y57 y58 y59 y60 y61 y62 y63 y64 y65 y66 y67 y68 y69 y70 y71 y72 y73 y74 y75 y76 y77 y78 y79 y80 y81 y82 y83 y84 y85 y86 y87 y88 y89 y90 I5 w5 hs5 h5
  have H5 := Lib.hid h5
  have HS5 := Lib.hid hs5
  clear h5 hs5
  go_upto_region 9 with fail
  refine twin_loop2 (by assumption) (by kernel_rfl) (B := B) (B2 := B2) (S := S) (l := HP.mapOf keyKT thingHP B.m1 S.seen :: HP.mapOf keyKT thingHP B2.m1 S.seen :: HP.mapOf keyKT deedsHP B2.m3 [] :: HP.mapOf grpKT keysHP B2.m4 [] :: lateHP B S :: keyHP B S :: HP.imm (intsIP B.vk S.keep) :: l) (H5.out.perm (by unfold dryHP; ((try simp only [List.eraseIdx_cons_succ, List.eraseIdx_cons_zero, List.cons_append, List.nil_append]); repeat (first | with_reducible exact List.Perm.refl _ | (apply perm_step; (· repeat (first | with_reducible exact find_here | with_reducible apply find_there))))))) (fun x hx => HK.out.inv.dry x hx) ?_
  intro z1 z2 z4 z5 z6 z7 z8 z9 z10 z11 z12 z13 z14 z15 z16 z17 z18 z19 z20 z21 z22 z23 z24 z25 z26 z27 z28 z29 z30 z31 z32 z33 z34 z35 z36 z37 z38 z39 z40 z41 z42 z43 z44 z45 z46 z47 z48 z49 z50 z51 z52 z53 z54 z55 z56 z57 z58 z59 z60 z61 z62 z63 z64 z65 z66 z67 z68 z69 z70 z71 z72 z73 z74 z75 z76 z77 z78 z79 z80 z81 z82 z83 z84 z85 z86 z87 z88 z89 z90 I6 w6 hs6 h6
  have H6 := Lib.hid h6
  have HS6 := Lib.hid (HS5.out.trans hs6)
  clear h6 hs6 H5
  go_upto_region 13 with fail
  refine twin_loop3 (by assumption) (by kernel_rfl) (B := B) (B2 := B2) (S := S) (l := HP.mapOf keyKT thingHP B.m1 S.seen :: HP.mapOf keyKT thingHP B2.m1 S.seen :: HP.mapOf keyKT thingHP B.m2 S.dry :: HP.mapOf keyKT thingHP B2.m2 S.dry :: HP.mapOf grpKT keysHP B2.m4 [] :: keyHP B S :: HP.imm (intsIP B.vk S.keep) :: l) (H6.out.perm (by unfold lateHP; ((try simp only [List.eraseIdx_cons_succ, List.eraseIdx_cons_zero, List.cons_append, List.nil_append]); repeat (first | with_reducible exact List.Perm.refl _ | (apply perm_step; (· repeat (first | with_reducible exact find_here | with_reducible apply find_there))))))) (fun x hx => HK.out.inv.lateN x hx) ?_
  intro r1 r2 r4 r5 r6 r7 r8 r9 r10 r11 r12 r13 r14 r15 r16 r17 r18 r19 r20 r21 r22 r23 r24 r25 r26 r27 r28 r29 r30 r31 r32 r33 r34 r35 r36 r37 r38 r39 r40 r41 r42 r43 r44 r45 r46 r47 r48 r49 r50 r51 r52 r53 r54 r55 r56 r57 r58 r59 r60 r61 r62 r63 r64 r65 r66 r67 r68 r69 r70 r71 r72 r73 r74 r75 r76 r77 r78 r79 r80 r81 r82 r83 r84 r85 r86 r87 r88 r89 r90 I7 w7 hs7 h7
  have H7 := Lib.hid h7
  have HS7 := Lib.hid (HS6.out.trans hs7)
  have hnk := St.mapOf_nodup ((h7.pull 9 (keyHP B S) rfl))
  have hks : ∀ x ∈ S.keys, x.2.length ≤ 1000000 := fun x hx => by
    have h1 := HK.out.inv.many x.1
    have h2 : get x.1 S.keys = some x.2 := get_of_mem hnk hx
    unfold keysAt at h1
    rw [h2, Option.getD_some] at h1
    omega
  clear h7 hs7 H6 hnk
  go_upto_region 17 with fail
  refine twin_loop4 (by assumption) (by kernel_rfl) (B := B) (B2 := B2) (S := S) (l := HP.mapOf keyKT thingHP B.m1 S.seen :: HP.mapOf keyKT thingHP B2.m1 S.seen :: HP.mapOf keyKT thingHP B.m2 S.dry :: HP.mapOf keyKT thingHP B2.m2 S.dry :: HP.mapOf keyKT deedsHP B.m3 S.late :: HP.mapOf keyKT deedsHP B2.m3 S.late :: HP.imm (intsIP B.vk S.keep) :: l) (H7.out.perm (by unfold keyHP; ((try simp only [List.eraseIdx_cons_succ, List.eraseIdx_cons_zero, List.cons_append, List.nil_append]); repeat (first | with_reducible exact List.Perm.refl _ | (apply perm_step; (· repeat (first | with_reducible exact find_here | with_reducible apply find_there))))))) hks ?_
  intro t1 t2 t4 t5 t6 t7 t8 t9 t10 t11 t12 t13 t14 t15 t16 t17 t18 t19 t20 t21 t22 t23 t24 t25 t26 t27 t28 t29 t30 t31 t32 t33 t34 t35 t36 t37 t38 t39 t40 t41 t42 t43 t44 t45 t46 t47 t48 t49 t50 t51 t52 t53 t54 t55 t56 t57 t58 t59 t60 t61 t62 t63 t64 t65 t66 t67 t68 t69 t70 t71 t72 t73 t74 t75 t76 t77 t78 t79 t80 t81 t82 t83 t84 t85 t86 t87 t88 t89 t90 I8 w8 hs8 h8
  have HS8 := Lib.hid (HS7.out.trans hs8)
  have c12 := (h8.pull 1 _ rfl).blk 12
  simp [storeCells] at c12
  rw [HVK.out] at c12
  have ltp := (h8.pull 1 _ rfl).lt
  have ltq := (h8.pull 2 _ rfl).lt
  have hsrc := ints_src h8 ((intsIP _ _).mono HS8.out HKV.out)
  rw [HVK.out] at hsrc
  have hcl := cloneI_spec _ _ _ w8 hsrc HK.out.keep
  have HCL := Lib.hid hcl
  have H8 := Lib.hid h8
  clear h8 hs8 H7 hks hsrc hcl
  go_wp2_with fail
  refine HCL.out.mono ?_
  rintro e w9 ⟨v9, rfl, ho9, hb9⟩
  obtain ⟨A9, c9, rfl⟩ := is_slice ho9
  obtain ⟨I9, hs9, hr9, h9⟩ := (H8.out.row_fresh hb9 ho9).freeze_row
  have h10 := (h9.pull 2 _ rfl).setCell 12 (.slice A9 S.keep.length c9)
  have lq9 := (h9.pull 2 _ rfl).lt
  have f9 := frozen_of_row (h9.pull 2 _ rfl).heap 12
  have d9 := (h9.pull 2 _ rfl).blk 12
  simp [storeCells] at d9
  have H10 := Lib.hid h10
  have HS9 := Lib.hid (HS8.out.trans hs9)
  have HR9 := Lib.hid hr9
  clear h9 h10 ho9 hb9 hs9 hr9 c12
  go_wp2_with fail
  go_ret
  refine ⟨q, I9, HS9.out, rfl, ?_⟩
  have h11 : St W I9 _ (storeBlk q S { B2 with vk := .slice A9 S.keep.length c9 } :: _) := H10.out
  have h12 := h11.perm (m := storeBlk q S { B2 with vk := .slice A9 S.keep.length c9 } :: HP.mapOf keyKT thingHP B2.m1 S.seen :: HP.mapOf keyKT thingHP B2.m2 S.dry :: HP.mapOf keyKT deedsHP B2.m3 S.late :: HP.mapOf grpKT keysHP B2.m4 S.keys :: storeBlk p S B :: HP.mapOf keyKT thingHP B.m1 S.seen :: HP.mapOf keyKT thingHP B.m2 S.dry :: HP.mapOf keyKT deedsHP B.m3 S.late :: HP.mapOf grpKT keysHP B.m4 S.keys :: HP.imm (intsIP B.vk S.keep) :: l) (by ((try simp only [List.eraseIdx_cons_succ, List.eraseIdx_cons_zero, List.cons_append, List.nil_append]); repeat (first | with_reducible exact List.Perm.refl _ | (apply perm_step; (· repeat (first | with_reducible exact find_here | with_reducible apply find_there))))))
  have h13 : St W I9 _ (storeHP q S :: storeBlk p S B :: HP.mapOf keyKT thingHP B.m1 S.seen :: HP.mapOf keyKT thingHP B.m2 S.dry :: HP.mapOf keyKT deedsHP B.m3 S.late :: HP.mapOf grpKT keysHP B.m4 S.keys :: HP.imm (intsIP B.vk S.keep) :: l) :=
    St.store_shut (B := { B2 with vk := .slice A9 S.keep.length c9 }) ((St.imm_shut (A := intsIP (.slice A9 S.keep.length c9) S.keep) HR9.out h12).perm (by unfold seenHP dryHP lateHP keyHP; ((try simp only [List.eraseIdx_cons_succ, List.eraseIdx_cons_zero, List.cons_append, List.nil_append]); repeat (first | with_reducible exact List.Perm.refl _ | (apply perm_step; (· repeat (first | with_reducible exact find_here | with_reducible apply find_there)))))))
  have h14 : St W I9 _ (storeHP p S :: storeHP q S :: l) := St.store_shut (B := B) (h13.perm (m := storeBlk p S B :: seenHP B S :: dryHP B S :: lateHP B S :: keyHP B S :: HP.imm (intsIP B.vk S.keep) :: storeHP q S :: l) (by unfold seenHP dryHP lateHP keyHP; ((try simp only [List.eraseIdx_cons_succ, List.eraseIdx_cons_zero, List.cons_append, List.nil_append]); repeat (first | with_reducible exact List.Perm.refl _ | (apply perm_step; (· repeat (first | with_reducible exact find_here | with_reducible apply find_there)))))))
  exact h14.perm (List.Perm.swap _ _ _)
end
end Go.Proofs.YtagljjhfkhadpaaGreat
