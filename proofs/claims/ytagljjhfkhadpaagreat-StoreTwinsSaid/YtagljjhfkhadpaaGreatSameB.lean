/- hectographlaw3.same: both stores show the same. -/
import Derived.Test.YtagljjhfkhadpaaGreatRefSim4
import Derived.Test.YtagljjhfkhadpaaGreatSame3
import Derived.Test.YtagljjhfkhadpaaGreatStr3
import Derived.Test.YtagljjhfkhadpaaGreatActs3
import Derived.Test.YtagljjhfkhadpaaGreatKeepsPlain
set_option linter.unusedSimpArgs false
set_option linter.unusedVariables false
set_option linter.unusedSectionVars false
namespace Go.Proofs.YtagljjhfkhadpaaGreat
open Go.RowKit
/-- The keys of a reference store may be. -/
def OKR (R : RS) : Prop := ∀ t ∈ R.l, t.key.ok = true
theorem rfl3_keys (keep : List Int) (torn : Int) : ∀ (L : List RT) (i : Nat), ((rfl3 keep torn i L).map RT.key).Sublist (L.map RT.key)
  | [], _ => List.Sublist.refl _
  | t :: L, i => by
    rw [rfl3_cons]
    split
    · split
      · exact (rfl3_keys keep torn L i).cons_cons _
      · exact (rfl3_keys keep torn L i).cons _
    · split
      · exact (rfl3_keys keep torn L (i + 1)).cons_cons _
      · exact (rfl3_keys keep torn L (i + 1)).cons _
theorem OKR.of {R R' : RS} (h : OKR R) (hs : ∀ k ∈ R'.l.map RT.key, k ∈ R.l.map RT.key) : OKR R' := fun t ht => by
  obtain ⟨u, hu, e⟩ := List.mem_map.1 (hs t.key (List.mem_map.2 ⟨t, ht, rfl⟩))
  rw [← e]
  exact h u hu
theorem OKR.fall {R : RS} (h : OKR R) (keep : List Int) (torn : Int) : OKR (rfall R keep torn).1 := by
  unfold rfall
  split
  · exact h
  · refine h.of fun k hk => ?_
    have hk : k ∈ ((R.l.foldl (fallStep keep torn) ⟨[], 0, 0⟩).out).map RT.key := hk
    rw [(fold_fall keep torn R.l ⟨[], 0, 0⟩).1] at hk
    exact (rfl3_keys keep torn R.l 0).subset (by simpa using hk)
theorem OKR.burn {R : RS} (h : OKR R) : OKR (rburn R).2 := by
  unfold rburn
  split
  · exact h
  · split
    · exact h
    · exact h.fall _ _
theorem OKR.act {R : RS} (h : OKR R) (a : A3) : OKR (actR R a).2 := by
  unfold actR
  split
  · unfold rbarrier
    split
    · exact h
    · split
      · exact h.burn
      · refine h.of fun k hk => ?_
        obtain ⟨t, ht, e⟩ := List.mem_map.1 hk
        obtain ⟨u, hu, e2⟩ := List.mem_map.1 (show t ∈ (R.l.filter fun t => (rnow t).there).map (fun t => (⟨t.key, rnow t, []⟩ : RT)) from ht)
        subst e2
        exact List.mem_map.2 ⟨u, (List.mem_filter.1 hu).1, e⟩
  · unfold rdo
    split
    · exact h
    · rename_i hw
      split
      · exact h.burn
      · intro t ht
        have ht : t ∈ rput R.l a.key (rdeed (rbody R a.key) (actD a)) := ht
        rw [rput_R] at ht
        have hk : t.key ∈ (rputR a.key (rdeed (rbody R a.key) (actD a)) R.l).map RT.key := List.mem_map.2 ⟨t, ht, rfl⟩
        rcases (rputR_keys _ _).1 hk with e | e
        · rw [e]
          cases q : a.key.ok with
          | true => rfl
          | false =>
            refine absurd ?_ hw
            unfold rwhy
            simp [q]
            split <;> decide
        · obtain ⟨u, hu, e⟩ := List.mem_map.1 e
          rw [← e]
          exact h u hu
section
variable {S : Str} {R : RS}
theorem SR.tells (h : SR S R) (ho : OKR R) (hon : R.off = false) {m : Nat} (hk : Inv S m) {kind img : Int} {k : K4} (hm : k ∈ rkeys R kind img) :
    ∃ t : TS, k.ok = true ∧ whyS S k = 0 ∧ readS S k 0 1048576 = (t.b, 0) ∧ rread R k 0 1048576 = (t.b, 0) ∧ lenAt S k = (t.b.length : Int) := by
  have hm' := hm
  rw [← h.told] at hm'
  have hso : S.on = true := by rw [h.on, hon]; rfl
  unfold keysTold at hm'
  rw [if_pos hso] at hm'
  have h2 := ((h.keys.mem _ _).1 hm').2
  obtain ⟨t, ht⟩ := Option.isSome_iff_exists.1 h2
  have hkk : k ∈ R.l.map RT.key := Decidable.byContradiction fun q => by rw [h.none q] at ht; cases ht
  obtain ⟨u, hu, e⟩ := List.mem_map.1 hkk
  have hok : k.ok = true := by rw [← e]; exact ho u hu
  have hb : t.b.length ≤ 20480 := (hk.seen _ (get_mem ht)).1
  have hr : readS S k 0 1048576 = (t.b, 0) := read_all hso hok ht (by omega)
  refine ⟨t, hok, ?_, hr, by rw [← h.read]; exact hr, ?_⟩
  · rw [h.why_on hon hok, ht]; rfl
  · unfold lenAt
    rw [h.why_on hon hok, ht]
    rfl
end
section
variable {W w : World} {I : Hp} {l : List HP} {p q : Nat} {S : Str} {R : RS}
set_option maxRecDepth 4000
set_option maxHeartbeats 8000000
/-- Region 10 on: each object of some keys reads the same. -/
theorem same_inner {a1 b1 : Code} {Q : Exit → Act → World → Prop} {K : Act → World → Prop} (hK : ∀ x y, b1.wp Tryz.prog Q x y → K x y) (hC : (Tryz.f11).body.bind (fromR 10) = some (.seq a1 b1)) {x2 x3 x4 x5 x6 x9 x10 x11 x12 x13 x14 x15 x16 x17 x18 x19 x20 x21 x22 x23 x24 x25 x26 x27 x28 x29 x30 x31 x32 x33 x34 x35 x36 x37 x38 x39 x40 x41 x42 x43 x44 x45 x46 x47 x48 x49 x50 x51 x52 x53 x54 x55 x56 x57 x58 x59 x60 x61 x62 x63 x64 x65 x66 x67 x68 x69 x70 x71 x72 x73 x74 x75 x76 x77 x78 x79 x80 x81 x82 x83 x84 x85 x86 x87 x88 x89 x90 x91 x92 x93 x94 x95 x96 x97 x98 x99 x100 x101 x102 x103 x104 x105 x106 x107 x108 x109 x110 x111 x112 x113 x114 x115 x116 x117 x118 x119 x120 x121 x122 x123 x124 x125 x126 x127 x128 x129 x130 x131 x132 x133 x134 x135 x136 x137 x138 : Value} {Aa Ab : Option Addr} {ca cb : Nat} {ks : List K4} {m c : Nat}
    (h : St W I w (HP.row 30 4 (.slice Ab ks.length cb) ks.length (ks.flatMap K4.vals) :: HP.row 30 4 (.slice Aa ks.length ca) ks.length (ks.flatMap K4.vals) :: storeHP p S :: refHP q R :: l)) (hk : Inv S m) (hi : RInv R c) (hkl : ks.length ≤ 1000000)
    (ht : ∀ k ∈ ks, ∃ t : TS, k.ok = true ∧ whyS S k = 0 ∧ readS S k 0 1048576 = (t.b, 0) ∧ rread R k 0 1048576 = (t.b, 0) ∧ lenAt S k = (t.b.length : Int))
    (hQ : ∀ (y4 y9 y10 y11 y12 y13 y14 y15 y77 y78 y79 y80 y81 y82 y83 y84 y85 y86 y87 y88 y89 y90 y91 y92 y93 y94 y95 y96 y97 y98 y99 y100 y101 y102 y103 y104 y105 y106 y107 y108 y109 y110 y111 y112 y113 y114 y115 y116 y117 y118 y119 y120 y121 y122 y123 y124 y125 y126 y127 y128 y129 y130 y131 y132 y133 y134 y135 y136 y137 y138 : Value) (I' : Hp) (w' : World), I.sub I' → St W I' w' (storeHP p S :: refHP q R :: l) → Q .normal ⟨#[.pointer (some ⟨p, 0, none⟩), .pointer (some ⟨q, 0, none⟩), x2, x3, y4, x5, x6, .slice Aa ks.length ca, .slice Ab ks.length cb, y9, y10, y11, y12, y13, y14, y15, x16, x17, x18, x19, x20, x21, x22, x23, x24, x25, x26, x27, x28, x29, x30, x31, x32, x33, x34, x35, x36, x37, x38, x39, x40, x41, x42, x43, x44, x45, x46, x47, x48, x49, x50, x51, x52, x53, x54, x55, x56, x57, x58, x59, x60, x61, x62, x63, x64, x65, x66, x67, x68, x69, x70, x71, x72, x73, x74, x75, x76, y77, y78, y79, y80, y81, y82, y83, y84, y85, y86, y87, y88, y89, y90, y91, y92, y93, y94, y95, y96, y97, y98, y99, y100, y101, y102, y103, y104, y105, y106, y107, y108, y109, y110, y111, y112, y113, y114, y115, y116, y117, y118, y119, y120, y121, y122, y123, y124, y125, y126, y127, y128, y129, y130, y131, y132, y133, y134, y135, y136, y137, y138], []⟩ w') :
    a1.wp Tryz.prog (Exit.then K Q) ⟨#[.pointer (some ⟨p, 0, none⟩), .pointer (some ⟨q, 0, none⟩), x2, x3, x4, x5, x6, .slice Aa ks.length ca, .slice Ab ks.length cb, x9, x10, x11, x12, x13, x14, x15, x16, x17, x18, x19, x20, x21, x22, x23, x24, x25, x26, x27, x28, x29, x30, x31, x32, x33, x34, x35, x36, x37, x38, x39, x40, x41, x42, x43, x44, x45, x46, x47, x48, x49, x50, x51, x52, x53, x54, x55, x56, x57, x58, x59, x60, x61, x62, x63, x64, x65, x66, x67, x68, x69, x70, x71, x72, x73, x74, x75, x76, x77, x78, x79, x80, x81, x82, x83, x84, x85, x86, x87, x88, x89, x90, x91, x92, x93, x94, x95, x96, x97, x98, x99, x100, x101, x102, x103, x104, x105, x106, x107, x108, x109, x110, x111, x112, x113, x114, x115, x116, x117, x118, x119, x120, x121, x122, x123, x124, x125, x126, x127, x128, x129, x130, x131, x132, x133, x134, x135, x136, x137, x138], []⟩ w := by
  injection hC with hC
  injection hC with hC1 hC2
  subst hC1 hC2
  have H := Lib.hid h
  have HQ := Lib.hid hQ
  have HK := Lib.hid hk
  have HI := Lib.hid hi
  have HT := Lib.hid ht
  clear h hQ hk hi ht
  go_wp2_with fail
  go_loopw [9] (fun a9 wr => ∃ (i : Nat) (I2 : Hp), a9 = .int .i64 i ∧ i ≤ ks.length ∧ I.sub I2 ∧ St W I2 wr (HP.row 30 4 (.slice Ab ks.length cb) ks.length (ks.flatMap K4.vals) :: HP.row 30 4 (.slice Aa ks.length ca) ks.length (ks.flatMap K4.vals) :: storeHP p S :: refHP q R :: l)) (fun a9 _ => ks.length - (intOf a9).toNat)
  case atStart => exact ⟨0, I, rfl, Nat.zero_le _, Hp.sub.refl _, H.out⟩
  case round =>
    obtain ⟨i, I2, rfl, hil, hs2, hst⟩ := hrel
    by_cases hlt : i < ks.length
    · have d0 : decide ((i : Int) < (ks.length : Int)) = true := by rw [decide_eq_true_eq]; omega
      obtain ⟨k, hki⟩ : ∃ k, ks[i]? = some k := ⟨_, List.getElem?_eq_getElem hlt⟩
      obtain ⟨t, hok, hwhy, hr1, hr2, hln⟩ := HT.out k (List.mem_of_getElem? hki)
      obtain ⟨gb, cb', eb, hcb, hgb, hcellb⟩ := St.row_elem (mk := K4.vals) hst (fun _ => rfl) hki
      obtain ⟨ga, ca', ea, hca, hga, hcella⟩ := St.row_elem (mk := K4.vals) (hst.pull 1 _ rfl) (fun _ => rfl) hki
      simp only [Value.slice.injEq, true_and] at eb ea
      obtain ⟨rfl, rfl⟩ := eb
      obtain ⟨rfl, rfl⟩ := ea
      have y0 := hcellb 0 (by omega)
      have y1 := hcellb 1 (by omega)
      have y2 := hcellb 2 (by omega)
      have y3 := hcellb 3 (by omega)
      have x0 := hcella 0 (by omega)
      have x1 := hcella 1 (by omega)
      have x2 := hcella 2 (by omega)
      have x3 := hcella 3 (by omega)
      simp only [K4.vals, List.getElem?_cons_zero, List.getElem?_cons_succ, Nat.add_zero] at y0 y1 y2 y3 x0 x1 x2 x3
      have heq := key_eqIn k k
      simp only [K4.val] at heq
      have hgd := key_eqGuard
      have hd : decide (k = k) = true := by simp
      have HKI := Lib.hid hki
      have HST := Lib.hid hst
      have HS2 := Lib.hid hs2
      have HR1 := Lib.hid hr1
      have HR2 := Lib.hid hr2
      have HW := Lib.hid hwhy
      have HL := Lib.hid hln
      clear hst hs2 hr1 hr2 hwhy hln hki hcella hcellb
      go_upto_region 13 with fail
      go_quiet (fail)
      clear y0 y1 y2 y3 heq hgd hd
      have hst := HST.out.drewN nq
      have hrd := read_spec k 0 1048576 (hst.pull 2 _ rfl) HK.out
      rw [HR1.out] at hrd
      simp only [K4.val] at hrd
      have HRD := Lib.hid hrd
      have HSTa := Lib.hid hst
      clear hst hrd HST
      go_upto_region 15 with fail
      go_wp2_with fail
      refine HRD.out.mono ?_
      rintro e w4 ⟨hb4, v4, rfl, ho4⟩
      obtain ⟨A4, c4, rfl⟩ := is_slice ho4
      have h4 := HSTa.out.row_fresh hb4 ho4
      obtain ⟨ga', ca', ea, _, hga', hcella⟩ := St.row_elem (mk := K4.vals) (h4.pull 2 _ rfl) (fun _ => rfl) HKI.out
      simp only [Value.slice.injEq, Option.some.injEq, Addr.mk.injEq, and_true, true_and] at ea
      obtain ⟨rfl, rfl⟩ := ea
      have z0 := hcella 0 (by omega)
      have z1 := hcella 1 (by omega)
      have z2 := hcella 2 (by omega)
      have z3 := hcella 3 (by omega)
      simp only [K4.vals, List.getElem?_cons_zero, List.getElem?_cons_succ, Nat.add_zero] at z0 z1 z2 z3
      have hrq := read3_spec k 0 1048576 (h4.pull 4 _ rfl) HI.out
      rw [HR2.out] at hrq
      simp only [K4.val] at hrq
      have HRQ := Lib.hid hrq
      have H4 := Lib.hid h4
      clear h4 hrq hb4 ho4 HRD x0 x1 x2 x3 hcella HSTa
      go_wp2_with fail
      refine HRQ.out.mono ?_
      rintro e w5 ⟨I5, v5, hs5, rfl, hb5, h5⟩
      obtain ⟨A5, c5, rfl⟩ := BytesI.slice hb5
      obtain ⟨ga', ca', ea, _, hga5, hcella⟩ := St.row_elem (mk := K4.vals) (h5.pull 3 _ rfl) (fun _ => rfl) HKI.out
      simp only [Value.slice.injEq, Option.some.injEq, Addr.mk.injEq, and_true, true_and] at ea
      obtain ⟨rfl, rfl⟩ := ea
      have x0 := hcella 0 (by omega)
      have x1 := hcella 1 (by omega)
      have x2 := hcella 2 (by omega)
      have x3 := hcella 3 (by omega)
      simp only [K4.vals, List.getElem?_cons_zero, List.getElem?_cons_succ, Nat.add_zero] at x0 x1 x2 x3
      have hsz := size_of k (h5.pull 4 _ rfl)
      rw [HW.out, HL.out] at hsz
      simp only [K4.val] at hsz
      have HSZ := Lib.hid hsz
      have H5 := Lib.hid h5
      have HB5 := Lib.hid hb5
      have HS5 := Lib.hid (HS2.out.trans hs5)
      clear h5 hsz hb5 hs5 HRQ H4 z0 z1 z2 z3 hcella
      go_wp2_with fail
      refine HSZ.out.mono ?_
      rintro e w6 ⟨hb6, rfl⟩
      have h6 := H5.out.keep hb6
      have hcv := src_string (xs := t.b) ((h6.pull 1 _ rfl).row_src (bytes_one t.b))
      have hcw := src_string (bytes_src h6 HB5.out)
      have H6 := Lib.hid h6
      clear hb6 h6 HSZ x0 x1 x2 x3
      go_wp2_with fail
      go_roundw
      case rel => exact ⟨i + 1, I5, by go_num, by omega, HS5.out, ((H6.out.pull 1 _ rfl).drop).perm (by ((try simp only [List.eraseIdx_cons_succ, List.eraseIdx_cons_zero, List.cons_append, List.nil_append]); repeat (first | with_reducible exact List.Perm.refl _ | (apply perm_step; (· repeat (first | with_reducible exact find_here | with_reducible apply find_there))))))⟩
      case measure => simp [intOf]; omega
    · obtain rfl : i = ks.length := by omega
      have d0 : decide (((ks.length : Nat) : Int) < (ks.length : Int)) = false := by rw [decide_eq_false_iff_not]; omega
      have HST := Lib.hid hst
      have HS2 := Lib.hid hs2
      clear hst hs2
      go_wp2_with fail
      exact HQ.out _ _ _ _ _ _ _ _ _ _ _ _ _ _ _ _ _ _ _ _ _ _ _ _ _ _ _ _ _ _ _ _ _ _ _ _ _ _ _ _ _ _ _ _ _ _ _ _ _ _ _ _ _ _ _ _ _ _ _ _ _ _ _ _ _ _ _ _ _ _ I2 _ HS2.out HST.out.drop.drop
end
end Go.Proofs.YtagljjhfkhadpaaGreat
