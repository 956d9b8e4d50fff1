/- hectographref3: Fall, its parts. -/
import Derived.Test.YtagljjhfkhadpaaGreatRefEnds
set_option linter.unusedSimpArgs false
set_option linter.unusedVariables false
set_option linter.unusedSectionVars false
namespace Go.Proofs.YtagljjhfkhadpaaGreat
open Go.RowKit
section
variable {W w : World} {I : Hp} {l : List HP} {q : Nat} {R : RS}
theorem St.set8 {b : Nat} {c0 c1 c2 c3 c4 c5 c6 c7 : Value} {t : TypeId} {f : Nat × Nat} (h : St W I w (HP.pt b (.cells #[c0, c1, c2, c3, c4, c5, c6, c7] t f) :: l)) (v0 v1 v2 v3 v4 v5 v6 v7 : Value) :
    St W I ((((((((w.setCell ⟨b, 0, none⟩ v0).setCell ⟨b, 1, none⟩ v1).setCell ⟨b, 2, none⟩ v2).setCell ⟨b, 3, none⟩ v3).setCell ⟨b, 4, none⟩ v4).setCell ⟨b, 5, none⟩ v5).setCell ⟨b, 6, none⟩ v6).setCell ⟨b, 7, none⟩ v7) (HP.pt b (.cells #[v0, v1, v2, v3, v4, v5, v6, v7] t f) :: l) := by
  have h1 := h.setCell 0 v0
  have h2 := h1.setCell 1 v1
  have h3 := h2.setCell 2 v2
  have h4 := h3.setCell 3 v3
  have h5 := h4.setCell 4 v4
  have h6 := h5.setCell 5 v5
  have h7 := h6.setCell 6 v6
  have h8 := h7.setCell 7 v7
  simp only [List.setIfInBounds_toArray, List.set_cons_zero, List.set_cons_succ] at h8
  exact h8
theorem St.cells8 {g : Nat} {c0 c1 c2 c3 c4 c5 c6 c7 : Value} {t : TypeId} (h : St W I w (HP.pt g (.cells #[c0, c1, c2, c3, c4, c5, c6, c7] t) :: l)) : w.cell? ⟨g, 0, none⟩ = some c0 ∧ w.cell? ⟨g, 1, none⟩ = some c1 ∧ w.cell? ⟨g, 2, none⟩ = some c2 ∧ w.cell? ⟨g, 3, none⟩ = some c3 ∧ w.cell? ⟨g, 4, none⟩ = some c4 ∧ w.cell? ⟨g, 5, none⟩ = some c5 ∧ w.cell? ⟨g, 6, none⟩ = some c6 ∧ w.cell? ⟨g, 7, none⟩ = some c7 := by
  have y := cells_of h.heap
  have y0 := y 0
  have y1 := y 1
  have y2 := y 2
  have y3 := y 3
  have y4 := y 4
  have y5 := y 5
  have y6 := y 6
  have y7 := y 7
  simp at y0 y1 y2 y3 y4 y5 y6 y7
  exact ⟨y0, y1, y2, y3, y4, y5, y6, y7⟩
theorem keepN_le (keep : List Int) (i n : Nat) : rkeepN keep i n ≤ n := by
  unfold rkeepN heldI
  split
  · split
    · simp
    · split
      · simp
      · omega
  · omega
theorem fall_bounds {c : Nat} (hi : RInv R c) (keep : List Int) (torn : Int) : ∀ (i : Nat), i ≤ R.l.length → let s := (R.l.take i).foldl (fallStep keep torn) ⟨[], 0, 0⟩
    s.out.length ≤ i ∧ s.at_ ≤ i ∧ 0 ≤ s.lost ∧ s.lost ≤ (i : Int) * 100000
  | 0, _ => by simp
  | i + 1, h => by
    have hil : i < R.l.length := by omega
    obtain ⟨h1, h2, h3, h4⟩ := fall_bounds hi keep torn i (by omega)
    have hft := hi.fits _ (List.getElem_mem hil)
    have hwl : (R.l[i]).wet.length ≤ 100000 := by have := hft.size; have := hi.most; omega
    rw [List.take_succ_eq_append_getElem hil, List.foldl_append]
    simp only [List.foldl_cons, List.foldl_nil]
    generalize (R.l.take i).foldl (fallStep keep torn) ⟨[], 0, 0⟩ = s at h1 h2 h3 h4 ⊢
    have hk := keepN_le keep s.at_ (R.l[i]).wet.length
    unfold fallStep
    split
    · split
      · simp only [List.length_append, List.length_cons, List.length_nil]; omega
      · omega
    · simp only
      refine ⟨?_, by omega, by omega, by omega⟩
      split
      · simp only [List.length_append, List.length_cons, List.length_nil]; omega
      · omega
set_option maxRecDepth 4000
set_option maxRecDepth 4000
set_option maxHeartbeats 8000000
/-- Region 22 on: the thing is what is left of it. -/
theorem fall3_set {a1 b1 : Code} {Q : Exit → Act → World → Prop} {K : Act → World → Prop} (hK : ∀ x y, b1.wp Tryz.prog Q x y → K x y) (hC : (Tryz.f16).body.bind (fromR 22) = some (.seq a1 b1)) {x0 x1 x2 x3 x4 x5 x6 x8 x9 x10 x14 x15 x16 x17 x18 x19 x20 x21 x22 x23 x24 x25 x26 x27 x28 x29 x30 x31 x32 x33 x34 x35 x36 x37 x38 x39 x40 x41 x42 x43 x44 x45 x46 x47 x48 x49 x50 x51 x52 x53 x54 x55 x56 x57 x58 x59 x60 x61 x62 x63 x64 x65 x66 x67 x68 x69 x70 x71 x72 x73 x74 x75 x76 x77 x78 x79 x80 x81 x82 x83 x84 x85 x86 x87 x88 x89 x90 x91 x92 x93 x94 x95 x96 x97 x98 x99 x100 x101 x102 x103 x104 x105 x106 x107 x108 x109 x110 x111 x112 x113 x114 x115 x116 x117 x118 x119 x120 x121 x122 x123 x124 x125 x126 x127 x128 x129 x130 x131 x132 x133 x134 x135 x136 x137 x138 : Value} {g1 g2 k : Nat} {lost : Int} {t : RT} {b : RB} {A1 A2 A5 A6 A7 : Option Addr} {c1 c2 c5 c6 c7 : Nat}
    (h : St W I w (HP.pt g2 (.cells #[.bool b.there, .slice A6 b.data.length c6, .slice A7 b.attrs.length c7] 92) :: HP.pt g1 (.cells #[.int .i64 t.key.kind, .int .i64 t.key.img, .int .i64 t.key.num, .int .i64 t.key.snap, .bool t.dry.there, .slice A1 t.dry.data.length c1, .slice A2 t.dry.attrs.length c2, .slice A5 t.wet.length c5] 95) :: l)) (hk : k ≤ t.wet.length) (hwl : t.wet.length ≤ 100000) (hl : 0 ≤ lost ∧ lost ≤ 100000000000)
    (hQ : ∀ (y110 y111 y112 y113 y114 y115 y116 y117 y118 y119 y120 : Value) (w' : World), St W I w' (HP.pt g1 (.cells #[.int .i64 t.key.kind, .int .i64 t.key.img, .int .i64 t.key.num, .int .i64 t.key.snap, .bool b.there, .slice A6 b.data.length c6, .slice A7 b.attrs.length c7, .slice none 0 0] 95) :: l) → Q .normal ⟨#[x0, x1, x2, x3, x4, x5, x6, .int .i64 (lost + (t.wet.length : Int) - (k : Int)), x8, x9, x10, .pointer (some ⟨g1, 0, none⟩), .int .i64 k, .pointer (some ⟨g2, 0, none⟩), x14, x15, x16, x17, x18, x19, x20, x21, x22, x23, x24, x25, x26, x27, x28, x29, x30, x31, x32, x33, x34, x35, x36, x37, x38, x39, x40, x41, x42, x43, x44, x45, x46, x47, x48, x49, x50, x51, x52, x53, x54, x55, x56, x57, x58, x59, x60, x61, x62, x63, x64, x65, x66, x67, x68, x69, x70, x71, x72, x73, x74, x75, x76, x77, x78, x79, x80, x81, x82, x83, x84, x85, x86, x87, x88, x89, x90, x91, x92, x93, x94, x95, x96, x97, x98, x99, x100, x101, x102, x103, x104, x105, x106, x107, x108, x109, y110, y111, y112, y113, y114, y115, y116, y117, y118, y119, y120, x121, x122, x123, x124, x125, x126, x127, x128, x129, x130, x131, x132, x133, x134, x135, x136, x137, x138], []⟩ w') :
    a1.wp Tryz.prog (Exit.then K Q) ⟨#[x0, x1, x2, x3, x4, x5, x6, .int .i64 lost, x8, x9, x10, .pointer (some ⟨g1, 0, none⟩), .int .i64 k, .pointer (some ⟨g2, 0, none⟩), x14, x15, x16, x17, x18, x19, x20, x21, x22, x23, x24, x25, x26, x27, x28, x29, x30, x31, x32, x33, x34, x35, x36, x37, x38, x39, x40, x41, x42, x43, x44, x45, x46, x47, x48, x49, x50, x51, x52, x53, x54, x55, x56, x57, x58, x59, x60, x61, x62, x63, x64, x65, x66, x67, x68, x69, x70, x71, x72, x73, x74, x75, x76, x77, x78, x79, x80, x81, x82, x83, x84, x85, x86, x87, x88, x89, x90, x91, x92, x93, x94, x95, x96, x97, x98, x99, x100, x101, x102, x103, x104, x105, x106, x107, x108, x109, x110, x111, x112, x113, x114, x115, x116, x117, x118, x119, x120, x121, x122, x123, x124, x125, x126, x127, x128, x129, x130, x131, x132, x133, x134, x135, x136, x137, x138], []⟩ w := by
  injection hC with hC
  injection hC with hC1 hC2
  subst hC1 hC2
  have HQ := Lib.hid hQ
  obtain ⟨b0, b1, b2⟩ := h.cells3
  obtain ⟨a0, a1, a2, a3, a4, a5, a6, a7⟩ := (h.pull 1 _ rfl).cells8
  have f := frozen_of_row (h.pull 1 _ rfl).heap
  have hne := h.ne
  have h8 := (h.pull 1 _ rfl).set8 (.int .i64 t.key.kind) (.int .i64 t.key.img) (.int .i64 t.key.num) (.int .i64 t.key.snap) (.bool b.there) (.slice A6 b.data.length c6) (.slice A7 b.attrs.length c7) (.slice none 0 0)
  have e1 : IntKind.i64.wrap (lost + (t.wet.length : Int)) = lost + (t.wet.length : Int) := by rw [IntKind.wrap_i64]; omega
  have e2 : IntKind.i64.wrap (lost + (t.wet.length : Int) - (k : Int)) = lost + (t.wet.length : Int) - (k : Int) := by rw [IntKind.wrap_i64]; omega
  have hlt1 := (h.pull 1 _ rfl).lt
  have hlt2 := h.lt
  have H8 := Lib.hid ((h8.pull 1 _ rfl).drop)
  clear h h8 hQ
  go_wp2_with fail
  exact HQ.out _ _ _ _ _ _ _ _ _ _ _ _ H8.out
/-- What stays of the deed behind those that stay. -/
def rtorn (b : RB) (wet : List RD) (k : Nat) (torn : Int) : RB := match wet[k]? with
  | some d => if d.what = 2 ∧ 0 < torn then { b with data := layB b.data d.n.toNat (d.p.take (min torn.toNat (d.p.length - 1))) } else b
  | none => b
theorem rleaves_torn (t : RT) (k : Nat) (torn : Int) : rleaves t k torn = rtorn ((t.wet.take k).foldl rafter t.dry) t.wet k torn := rfl
/-- Region 19 on: a piece of the next deed. -/
theorem fall3_torn {a1 b1 : Code} {Q : Exit → Act → World → Prop} {K : Act → World → Prop} (hK : ∀ x y, b1.wp Tryz.prog Q x y → K x y) (hC : (Tryz.f16).body.bind (fromR 19) = some (.seq a1 b1)) {x0 x1 x3 x4 x5 x6 x8 x9 x10 x14 x15 x16 x17 x18 x19 x20 x21 x22 x23 x24 x25 x26 x27 x28 x29 x30 x31 x32 x33 x34 x35 x36 x37 x38 x39 x40 x41 x42 x43 x44 x45 x46 x47 x48 x49 x50 x51 x52 x53 x54 x55 x56 x57 x58 x59 x60 x61 x62 x63 x64 x65 x66 x67 x68 x69 x70 x71 x72 x73 x74 x75 x76 x77 x78 x79 x80 x81 x82 x83 x84 x85 x86 x87 x88 x89 x90 x91 x92 x93 x94 x95 x96 x97 x98 x99 x100 x101 x102 x103 x104 x105 x106 x107 x108 x109 x110 x111 x112 x113 x114 x115 x116 x117 x118 x119 x120 x121 x122 x123 x124 x125 x126 x127 x128 x129 x130 x131 x132 x133 x134 x135 x136 x137 x138 : Value} {g1 g2 k : Nat} {lost torn : Int} {t : RT} {b : RB} {B0 : RB} {A1 A2 A5 A6 A7 : Option Addr} {c1 c2 c5 c6 c7 n : Nat}
    (h : St W I w (HP.pt g2 (.cells #[.bool b.there, .slice A6 b.data.length c6, .slice A7 b.attrs.length c7] 92) :: HP.pt g1 (.cells #[.int .i64 t.key.kind, .int .i64 t.key.img, .int .i64 t.key.num, .int .i64 t.key.snap, .bool t.dry.there, .slice A1 t.dry.data.length c1, .slice A2 t.dry.attrs.length c2, .slice A5 t.wet.length c5] 95) :: l)) (hdd : DeedsI I (.slice A5 t.wet.length c5) t.wet) (hbi : BodyI I (.slice A6 b.data.length c6) (.slice A7 b.attrs.length c7) b) (hft : t.fits n) (hbl : b.data.length ≤ 40000)
    (hk : k ≤ t.wet.length) (hwl : t.wet.length ≤ 100000) (hl : 0 ≤ lost ∧ lost ≤ 100000000000) (htn : torn ≤ 9223372036854775807)
    (hQ : ∀ (y15 y68 y69 y70 y71 y72 y73 y74 y75 y76 y77 y78 y79 y80 y81 y82 y83 y84 y85 y86 y87 y88 y89 y90 y91 y92 y93 y94 y95 y96 y97 y98 y99 y100 y101 y102 y103 y104 y105 y106 y107 y108 y109 : Value) (I' : Hp) (w' : World) (b : RB) (A6 A7 : Option Addr) (c6 c7 : Nat), I.sub I' → b = rtorn B0 t.wet k torn → BodyI I' (.slice A6 b.data.length c6) (.slice A7 b.attrs.length c7) b → St W I' w' (HP.pt g2 (.cells #[.bool b.there, .slice A6 b.data.length c6, .slice A7 b.attrs.length c7] 92) :: HP.pt g1 (.cells #[.int .i64 t.key.kind, .int .i64 t.key.img, .int .i64 t.key.num, .int .i64 t.key.snap, .bool t.dry.there, .slice A1 t.dry.data.length c1, .slice A2 t.dry.attrs.length c2, .slice A5 t.wet.length c5] 95) :: l) → Q .normal ⟨#[x0, x1, .int .i64 torn, x3, x4, x5, x6, .int .i64 lost, x8, x9, x10, .pointer (some ⟨g1, 0, none⟩), .int .i64 k, .pointer (some ⟨g2, 0, none⟩), x14, y15, x16, x17, x18, x19, x20, x21, x22, x23, x24, x25, x26, x27, x28, x29, x30, x31, x32, x33, x34, x35, x36, x37, x38, x39, x40, x41, x42, x43, x44, x45, x46, x47, x48, x49, x50, x51, x52, x53, x54, x55, x56, x57, x58, x59, x60, x61, x62, x63, x64, x65, x66, x67, y68, y69, y70, y71, y72, y73, y74, y75, y76, y77, y78, y79, y80, y81, y82, y83, y84, y85, y86, y87, y88, y89, y90, y91, y92, y93, y94, y95, y96, y97, y98, y99, y100, y101, y102, y103, y104, y105, y106, y107, y108, y109, x110, x111, x112, x113, x114, x115, x116, x117, x118, x119, x120, x121, x122, x123, x124, x125, x126, x127, x128, x129, x130, x131, x132, x133, x134, x135, x136, x137, x138], []⟩ w') (hB0 : B0 = b) :
    a1.wp Tryz.prog (Exit.then K Q) ⟨#[x0, x1, .int .i64 torn, x3, x4, x5, x6, .int .i64 lost, x8, x9, x10, .pointer (some ⟨g1, 0, none⟩), .int .i64 k, .pointer (some ⟨g2, 0, none⟩), x14, x15, x16, x17, x18, x19, x20, x21, x22, x23, x24, x25, x26, x27, x28, x29, x30, x31, x32, x33, x34, x35, x36, x37, x38, x39, x40, x41, x42, x43, x44, x45, x46, x47, x48, x49, x50, x51, x52, x53, x54, x55, x56, x57, x58, x59, x60, x61, x62, x63, x64, x65, x66, x67, x68, x69, x70, x71, x72, x73, x74, x75, x76, x77, x78, x79, x80, x81, x82, x83, x84, x85, x86, x87, x88, x89, x90, x91, x92, x93, x94, x95, x96, x97, x98, x99, x100, x101, x102, x103, x104, x105, x106, x107, x108, x109, x110, x111, x112, x113, x114, x115, x116, x117, x118, x119, x120, x121, x122, x123, x124, x125, x126, x127, x128, x129, x130, x131, x132, x133, x134, x135, x136, x137, x138], []⟩ w := by
  injection hC with hC
  injection hC with hC1 hC2
  subst hC1 hC2
  subst hB0
  have H := Lib.hid h
  have HQ := Lib.hid hQ
  have HBI := Lib.hid hbi
  have HFT := Lib.hid hft
  obtain ⟨zs, hzs, hrow, hzb⟩ := hdd
  have HROW := Lib.hid hrow
  have HZB := Lib.hid hzb
  have HZS := Lib.hid hzs
  have hwzl : zs.length = t.wet.length := by rw [← hzs, List.length_map]
  obtain ⟨b0, b1, b2⟩ := h.cells3
  obtain ⟨a0, a1, a2, a3, a4, a5, a6, a7⟩ := (h.pull 1 _ rfl).cells8
  have hlt1 := (h.pull 1 _ rfl).lt
  clear h hQ hbi hft hzs hrow hzb
  by_cases hkw : k < t.wet.length
  · obtain ⟨⟨d, pv⟩, hzi⟩ : ∃ z, zs[k]? = some z := ⟨_, List.getElem?_eq_getElem (by omega)⟩
    have hpb := HZB.out _ (List.mem_of_getElem? hzi)
    have hdi : t.wet[k]? = some d := by rw [← HZS.out, List.getElem?_map, hzi]; rfl
    have hdf := HFT.out.deeds d (List.mem_of_getElem? hdi)
    rw [← hwzl] at HROW
    obtain ⟨g3, off3, e1, hc⟩ := rowk_cell (i := k) HROW.out (Hp.sub.refl I) H.out (fun _ => rfl) hzi
    simp only [Value.slice.injEq, and_true] at e1
    subst e1
    have d0 := hc 0 (by omega)
    have d1 := hc 1 (by omega)
    have d3 := hc 3 (by omega)
    simp only [DZ.cells, List.getElem?_cons_succ, List.getElem?_cons_zero, Nat.add_zero] at d0 d1 d3
    simp only at hpb
    have hkd : decide (k < t.wet.length) = true := by simp [hkw]
    have HLE := Lib.hid (show rtorn B0 t.wet k torn = if d.what = 2 ∧ 0 < torn then { B0 with data := layB B0.data d.n.toNat (d.p.take (min torn.toNat (d.p.length - 1))) } else B0 by unfold rtorn; simp only [hdi])
    clear hc hzi hdi
    have HWZ := Lib.hid hwzl
    clear hwzl
    by_cases hwt : d.what = 2 ∧ 0 < torn
    · have hw2 : (d.what == 2) = true := by simpa using hwt.1
      have ht2 : decide (0 < torn) = true := by simpa using hwt.2
      have HLE2 : Hid (rtorn B0 t.wet k torn = { B0 with data := layB B0.data d.n.toNat (d.p.take (min torn.toNat (d.p.length - 1))) }) := Lib.hid (by rw [HLE.out, if_pos hwt])
      obtain ⟨Ap, cp, rfl⟩ := BytesI.slice hpb
      obtain ⟨P1, hP1⟩ : ∃ P1, d.p.length - 1 = P1 := ⟨_, rfl⟩
      obtain ⟨m, hm⟩ : ∃ m, min torn.toNat P1 = m := ⟨_, rfl⟩
      rw [hP1, hm] at HLE2
      obtain ⟨dn, hdn⟩ : ∃ dn : Nat, d.n = dn := ⟨d.n.toNat, by have := hdf.1; omega⟩
      rw [hdn, Int.toNat_natCast] at HLE2
      rw [hdn] at d1
      have ht3 := hwt.2
      have hlp := hdf.2.2.1
      have hdif : IntKind.i64.wrap ((d.p.length : Int) - 1) = (d.p.length : Int) - 1 := by rw [IntKind.wrap_i64]; omega
      have hmax : max ((d.p.length : Int) - 1) 0 = (P1 : Int) := by omega
      have hmin : min torn (P1 : Int) = (m : Int) := by omega
      have hml : m ≤ d.p.length := by omega
      have hcap : d.p.length ≤ cp := by
        obtain ⟨A', c', e, _, q1, _⟩ := hpb
        simp only [Value.slice.injEq, true_and] at e
        obtain ⟨_, rfl⟩ := e
        exact q1
      have hmc : m ≤ cp := by omega
      have hdn2 := hdf.2.1
      have HWR := Lib.hid (write_spec3 _ (.slice Ap m cp) B0.data (d.p.take m) dn H.out.drew HBI.out.1 (bytes_take hpb hml) (by rw [List.length_take]; omega))
      clear hwt hpb hdf HLE hP1 hm hdn
      go_upto_region 21 with fail
      refine wp_region_calm [0, 2, 4, 8, 9, 10] [1, 3, 5, 6, 7, 11, 12, 13, 14, 15] [16, 17, 18] (by kernel_rfl) (by kernel_rfl) ?_
      simp only [pickL, List.getElem?_cons_zero, List.getElem?_cons_succ]
      repeat (refine wpPlain_step _ (Or.inl ⟨by rfl, by intro w; go_simp; try with_reducible rfl⟩) ?_; (try simp only [Act.put, List.setIfInBounds_toArray, List.set_cons_zero, List.set_cons_succ]))
      refine wpPlain_nil ?_
      repeat still_step
      refine wpStill_nil ?_
      go_wp2_with fail
      refine HWR.out.mono ?_
      rintro e w7 ⟨I7, dv7, hs7, rfl, hb7, h7⟩
      obtain ⟨A8, c8, rfl⟩ := BytesI.slice hb7
      have f7 := frozen_of_row h7.heap
      have h7s := h7.setCell 1 (.slice A8 (layB B0.data dn (d.p.take m)).length c8)
      simp only [List.setIfInBounds_toArray, List.set_cons_zero, List.set_cons_succ] at h7s
      have hlt7 := h7.lt
      have e7 : (w7.cell? ⟨g2, 1, none⟩) = some (.slice A6 B0.data.length c6) := h7.cells3.2.1
      have HB7 : Hid (BodyI I7 (.slice A8 (layB B0.data dn (d.p.take m)).length c8) (.slice A7 B0.attrs.length c7) ⟨B0.there, layB B0.data dn (d.p.take m), B0.attrs⟩) := Lib.hid ⟨hb7, HBI.out.2.mono hs7⟩
      have HS7 := Lib.hid hs7
      have H7 := Lib.hid h7s
      clear HWR b0 b1 b2 a0 a1 a2 a3 a4 a5 a6 a7 d0 d1 d3 hb7 hs7 h7 h7s
      go_wp2_with fail
      refine NoPanic.normal ?_
      go_wp2_with fail
      exact HQ.out _ _ _ _ _ _ _ _ _ _ _ _ _ _ _ _ _ _ _ _ _ _ _ _ _ _ _ _ _ _ _ _ _ _ _ _ _ _ _ _ _ _ _ I7 _ _ _ _ _ _ HS7.out HLE2.out.symm HB7.out H7.out
    · have HLE2 : Hid (rtorn B0 t.wet k torn = B0) := Lib.hid (by rw [HLE.out, if_neg hwt])
      have hg : (d.what == 2) = false ∨ (d.what == 2) = true ∧ decide (0 < torn) = false := by
        by_cases h2 : d.what = 2
        · exact .inr ⟨by simpa using h2, decide_eq_false fun h0 => hwt ⟨h2, h0⟩⟩
        · exact .inl (by simpa using h2)
      clear HLE hwt hpb hdf
      rcases hg with hw2 | ⟨hw2, ht2⟩
      · go_wp2_with fail
        exact HQ.out _ _ _ _ _ _ _ _ _ _ _ _ _ _ _ _ _ _ _ _ _ _ _ _ _ _ _ _ _ _ _ _ _ _ _ _ _ _ _ _ _ _ _ I w _ _ _ _ _ (Hp.sub.refl _) HLE2.out.symm HBI.out H.out
      · go_wp2_with fail
        exact HQ.out _ _ _ _ _ _ _ _ _ _ _ _ _ _ _ _ _ _ _ _ _ _ _ _ _ _ _ _ _ _ _ _ _ _ _ _ _ _ _ _ _ _ _ I w _ _ _ _ _ (Hp.sub.refl _) HLE2.out.symm HBI.out H.out
  · have hkd : decide (k < t.wet.length) = false := by simp; omega
    have HLE2 : Hid (rtorn B0 t.wet k torn = B0) := Lib.hid (by
      unfold rtorn
      rw [List.getElem?_eq_none (by omega)])
    clear hwzl
    go_wp2_with fail
    exact HQ.out _ _ _ _ _ _ _ _ _ _ _ _ _ _ _ _ _ _ _ _ _ _ _ _ _ _ _ _ _ _ _ _ _ _ _ _ _ _ _ _ _ _ _ I w _ _ _ _ _ (Hp.sub.refl _) HLE2.out.symm HBI.out H.out
/-- Region 13 on: the deeds that stay, and a piece of the next. -/
theorem fall3_rest {a1 b1 : Code} {Q : Exit → Act → World → Prop} {K : Act → World → Prop} (hK : ∀ x y, b1.wp Tryz.prog Q x y → K x y) (hC : (Tryz.f16).body.bind (fromR 13) = some (.seq a1 b1)) {x0 x1 x3 x4 x5 x6 x9 x10 x13 x14 x15 x16 x17 x18 x19 x20 x21 x22 x23 x24 x25 x26 x27 x28 x29 x30 x31 x32 x33 x34 x35 x36 x37 x38 x39 x40 x41 x42 x43 x44 x45 x46 x47 x48 x49 x50 x51 x52 x53 x54 x55 x56 x57 x58 x59 x60 x61 x62 x63 x64 x65 x66 x67 x68 x69 x70 x71 x72 x73 x74 x75 x76 x77 x78 x79 x80 x81 x82 x83 x84 x85 x86 x87 x88 x89 x90 x91 x92 x93 x94 x95 x96 x97 x98 x99 x100 x101 x102 x103 x104 x105 x106 x107 x108 x109 x110 x111 x112 x113 x114 x115 x116 x117 x118 x119 x120 x121 x122 x123 x124 x125 x126 x127 x128 x129 x130 x131 x132 x133 x134 x135 x136 x137 x138 : Value} {g1 k at_ : Nat} {lost torn : Int} {t : RT} {A1 A2 A5 : Option Addr} {c1 c2 c5 n : Nat}
    (h : St W I w (HP.pt g1 (.cells #[.int .i64 t.key.kind, .int .i64 t.key.img, .int .i64 t.key.num, .int .i64 t.key.snap, .bool t.dry.there, .slice A1 t.dry.data.length c1, .slice A2 t.dry.attrs.length c2, .slice A5 t.wet.length c5] 95) :: l)) (hdd : DeedsI I (.slice A5 t.wet.length c5) t.wet) (hbd : BodyI I (.slice A1 t.dry.data.length c1) (.slice A2 t.dry.attrs.length c2) t.dry) (hft : t.fits n) (hn : n ≤ 100000)
    (hk : k ≤ t.wet.length) (hwl : t.wet.length ≤ 100000) (hl : 0 ≤ lost ∧ lost ≤ 100000000000) (htn : torn ≤ 9223372036854775807) (hat : at_ ≤ 1000000)
    (hQ : ∀ (y13 y14 y15 y52 y53 y54 y55 y56 y57 y58 y59 y60 y61 y62 y63 y64 y65 y66 y67 y68 y69 y70 y71 y72 y73 y74 y75 y76 y77 y78 y79 y80 y81 y82 y83 y84 y85 y86 y87 y88 y89 y90 y91 y92 y93 y94 y95 y96 y97 y98 y99 y100 y101 y102 y103 y104 y105 y106 y107 y108 y109 y110 y111 y112 y113 y114 y115 y116 y117 y118 y119 y120 : Value) (I' : Hp) (w' : World) (b : RB) (A6 A7 : Option Addr) (c6 c7 : Nat), I.sub I' → b = rleaves t k torn → BodyI I' (.slice A6 b.data.length c6) (.slice A7 b.attrs.length c7) b → St W I' w' (HP.pt g1 (.cells #[.int .i64 t.key.kind, .int .i64 t.key.img, .int .i64 t.key.num, .int .i64 t.key.snap, .bool b.there, .slice A6 b.data.length c6, .slice A7 b.attrs.length c7, .slice none 0 0] 95) :: l) → Q .normal ⟨#[x0, x1, .int .i64 torn, x3, x4, x5, x6, .int .i64 (lost + (t.wet.length : Int) - (k : Int)), .int .i64 ((at_ : Int) + 1), x9, x10, .pointer (some ⟨g1, 0, none⟩), .int .i64 k, y13, y14, y15, x16, x17, x18, x19, x20, x21, x22, x23, x24, x25, x26, x27, x28, x29, x30, x31, x32, x33, x34, x35, x36, x37, x38, x39, x40, x41, x42, x43, x44, x45, x46, x47, x48, x49, x50, x51, y52, y53, y54, y55, y56, y57, y58, y59, y60, y61, y62, y63, y64, y65, y66, y67, y68, y69, y70, y71, y72, y73, y74, y75, y76, y77, y78, y79, y80, y81, y82, y83, y84, y85, y86, y87, y88, y89, y90, y91, y92, y93, y94, y95, y96, y97, y98, y99, y100, y101, y102, y103, y104, y105, y106, y107, y108, y109, y110, y111, y112, y113, y114, y115, y116, y117, y118, y119, y120, x121, x122, x123, x124, x125, x126, x127, x128, x129, x130, x131, x132, x133, x134, x135, x136, x137, x138], []⟩ w') :
    a1.wp Tryz.prog (Exit.then K Q) ⟨#[x0, x1, .int .i64 torn, x3, x4, x5, x6, .int .i64 lost, .int .i64 at_, x9, x10, .pointer (some ⟨g1, 0, none⟩), .int .i64 k, x13, x14, x15, x16, x17, x18, x19, x20, x21, x22, x23, x24, x25, x26, x27, x28, x29, x30, x31, x32, x33, x34, x35, x36, x37, x38, x39, x40, x41, x42, x43, x44, x45, x46, x47, x48, x49, x50, x51, x52, x53, x54, x55, x56, x57, x58, x59, x60, x61, x62, x63, x64, x65, x66, x67, x68, x69, x70, x71, x72, x73, x74, x75, x76, x77, x78, x79, x80, x81, x82, x83, x84, x85, x86, x87, x88, x89, x90, x91, x92, x93, x94, x95, x96, x97, x98, x99, x100, x101, x102, x103, x104, x105, x106, x107, x108, x109, x110, x111, x112, x113, x114, x115, x116, x117, x118, x119, x120, x121, x122, x123, x124, x125, x126, x127, x128, x129, x130, x131, x132, x133, x134, x135, x136, x137, x138], []⟩ w := by
  injection hC with hC
  injection hC with hC1 hC2
  subst hC1 hC2
  have HQ := Lib.hid hQ
  have HDD := Lib.hid hdd
  have HBD := Lib.hid hbd
  have HFT := Lib.hid hft
  obtain ⟨zs, hzs, hrow, hzb⟩ := HDD.out
  have HROW := Lib.hid hrow
  have HZB := Lib.hid hzb
  have HZS := Lib.hid hzs
  have HWZ : Hid (zs.length = t.wet.length) := Lib.hid (by rw [← hzs, List.length_map])
  have hea : IntKind.i64.wrap ((at_ : Int) + 1) = (at_ : Int) + 1 := by rw [IntKind.wrap_i64]; omega
  obtain ⟨a0, a1, a2, a3, a4, a5, a6, a7⟩ := h.cells8
  have hlt1 := h.lt
  obtain ⟨g2, hg2⟩ : ∃ g, g = w.heap.size := ⟨_, rfl⟩
  have h2 := h.alloc_at (.cells #[.bool t.dry.there, .slice A1 t.dry.data.length c1, .slice A2 t.dry.attrs.length c2] 92) hg2
  obtain ⟨w2, hw2⟩ : ∃ x, w.alloc (.cells #[.bool t.dry.there, .slice A1 t.dry.data.length c1, .slice A2 t.dry.attrs.length c2] 92) = x := ⟨_, rfl⟩
  rw [hw2] at h2
  have H2 := Lib.hid h2
  have HW2 := Lib.hid hw2
  have HG2 := Lib.hid hg2
  clear h h2 hw2 hg2 hQ hdd hbd hft hzs hrow hzb
  go_upto_region 15 with fail
  rw [HW2.out, ← HG2.out]
  clear HW2 HG2 a0 a1 a2 a3 a4 a5 a6 a7
  go_wp2_with fail
  go_loopw [14] (fun a14 wi => ∃ (j : Nat) (I6 : Hp) (b : RB) (A6 : Option Addr) (c6 : Nat) (A7 : Option Addr) (c7 : Nat), a14 = .int .i64 j ∧ j ≤ k ∧ (t.wet.take j).foldl rafter t.dry = b ∧ I.sub I6 ∧ BodyI I6 (.slice A6 b.data.length c6) (.slice A7 b.attrs.length c7) b ∧ St W I6 wi (HP.pt g2 (.cells #[.bool b.there, .slice A6 b.data.length c6, .slice A7 b.attrs.length c7] 92) :: HP.pt g1 (.cells #[.int .i64 t.key.kind, .int .i64 t.key.img, .int .i64 t.key.num, .int .i64 t.key.snap, .bool t.dry.there, .slice A1 t.dry.data.length c1, .slice A2 t.dry.attrs.length c2, .slice A5 t.wet.length c5] 95) :: l)) (fun a14 _ => k - (intOf a14).toNat)
  case atStart => exact ⟨0, I, t.dry, A1, c1, A2, c2, rfl, Nat.zero_le _, rfl, Hp.sub.refl _, HBD.out, H2.out⟩
  case round =>
    obtain ⟨j, I6, b, A6, c6, A7, c7, rfl, hj, hbf, hs6, hbi, hst⟩ := hrel
    obtain ⟨b0, b1, b2⟩ := hst.cells3
    obtain ⟨a0, a1, a2, a3, a4, a5, a6, a7⟩ := (hst.pull 1 _ rfl).cells8
    have hgr : Grown t.dry.attrs.length j b := by
      have := grown_fold (m := t.dry.attrs.length) (t.wet.take j) t.dry 0 ⟨HFT.out.data, by omega, HFT.out.small⟩ fun x hx => HFT.out.deeds x (List.mem_of_mem_take hx)
      rw [hbf, List.length_take, Nat.zero_add, Nat.min_eq_left (by omega)] at this
      exact this
    by_cases hjk : j < k
    · have hjw : j < t.wet.length := by omega
      have dj : decide ((j : Int) < (k : Int)) = true := by rw [decide_eq_true_eq]; omega
      obtain ⟨⟨d, pv⟩, hzi⟩ : ∃ z, zs[j]? = some z := ⟨_, List.getElem?_eq_getElem (by have := HWZ.out; omega)⟩
      have hpb := HZB.out _ (List.mem_of_getElem? hzi)
      have hdi : t.wet[j]? = some d := by rw [← HZS.out, List.getElem?_map, hzi]; rfl
      have hdf := HFT.out.deeds d (List.mem_of_getElem? hdi)
      have hbf2 : (t.wet.take (j + 1)).foldl rafter t.dry = rafter b d := by
        obtain ⟨hil, he⟩ := List.getElem?_eq_some_iff.1 hdi
        rw [List.take_succ_eq_append_getElem hil, List.foldl_append, hbf, he]; rfl
      have hrow := HROW.out
      rw [← HWZ.out] at hrow
      obtain ⟨g3, off3, e1, hc⟩ := rowk_cell (i := j) hrow hs6 hst (fun _ => rfl) hzi
      simp only [Value.slice.injEq, and_true] at e1
      subst e1
      have d0 := hc 0 (by omega)
      have d1 := hc 1 (by omega)
      have d2 := hc 2 (by omega)
      have d3 := hc 3 (by omega)
      simp only [DZ.cells, List.getElem?_cons_succ, List.getElem?_cons_zero, Nat.add_zero] at d0 d1 d2 d3
      simp only at hpb
      have HPB := Lib.hid hpb
      obtain ⟨Ap, cp, rfl⟩ := BytesI.slice hpb
      have HAF := Lib.hid (after_spec (w := wr.drew) _ _ _ b d hst.drew hbi ((bytesIP _ _).mono hs6 HPB.out) hdf.1 (by have := hgr.data; have := hdf.2.1; have := hdf.2.2.1; omega) (by have := hgr.attrs; have := HFT.out.size; omega))
      have HBF2 := Lib.hid hbf2
      have HS6 := Lib.hid hs6
      clear hst hc hzi hdi hbf hbf2 hgr hdf hpb hs6 hbi hrow
      go_wp2_with fail
      refine wp_region_calm [1, 3] [0, 2, 4, 5] [6, 7] (by kernel_rfl) (by kernel_rfl) ?_
      simp only [pickL, List.getElem?_cons_zero, List.getElem?_cons_succ]
      repeat (refine wpPlain_step _ (Or.inl ⟨by rfl, by intro w; go_simp; try with_reducible rfl⟩) ?_; (try simp only [Act.put, List.setIfInBounds_toArray, List.set_cons_zero, List.set_cons_succ]))
      refine wpPlain_nil ?_
      repeat still_step
      refine wpStill_nil ?_
      go_wp2_with fail
      refine HAF.out.mono ?_
      rintro e w7 ⟨I7, dv7, av7, hs7, rfl, hb7, h7⟩
      obtain ⟨A8, c8, rfl⟩ := BytesI.slice hb7.1
      obtain ⟨A9, c9, rfl⟩ := AttrsI.slice hb7.2
      obtain ⟨z0, z1, z2⟩ := h7.cells3
      have f := frozen_of_row h7.heap
      have h8 := St.set3c h7 (.bool (rafter b d).there) (.slice A8 (rafter b d).data.length c8) (.slice A9 (rafter b d).attrs.length c9)
      have H8 := Lib.hid h8
      have HS7 := Lib.hid (HS6.out.trans hs7)
      have HB7 := Lib.hid hb7
      clear h7 h8 hs7 hb7 HAF d0 d1 d2 d3 b0 b1 b2 a0 a1 a2 a3 a4 a5 a6 a7
      go_wp2_with fail
      refine NoPanic.normal ?_
      go_wp2_with fail
      go_roundw
      case rel => exact ⟨j + 1, I7, rafter b d, A8, c8, A9, c9, by go_num, by omega, HBF2.out, HS7.out, HB7.out, H8.out⟩
      case measure => simp [intOf]; omega
    · obtain rfl : k = j := by omega
      have dj : decide ((k : Int) < (k : Int)) = false := by rw [decide_eq_false_iff_not]; omega
      have HB6 := Lib.hid hbi
      have H6 := Lib.hid hst
      have HS6 := Lib.hid hs6
      have HBF := Lib.hid hbf
      have hgd := hgr.data
      clear hst hbf hs6 hbi hgr hj hjk a0 a1 a2 a3 a4 a5 a6 a7 b0 b1 b2
      go_upto_region 19 with fail
      refine fall3_torn (t := t) (b := b) (B0 := b) (n := n) (by first | assumption | exact fun _ _ h => h | fail) (by kernel_rfl) H6.out (HDD.out.mono HS6.out) HB6.out HFT.out (by omega) hk hwl hl htn ?_ rfl
      intro y15 y68 y69 y70 y71 y72 y73 y74 y75 y76 y77 y78 y79 y80 y81 y82 y83 y84 y85 y86 y87 y88 y89 y90 y91 y92 y93 y94 y95 y96 y97 y98 y99 y100 y101 y102 y103 y104 y105 y106 y107 y108 y109 I8 w8 b8 A8 A9 c8 c9 hs8 hb8 hbi8 h8
      have HB8 := Lib.hid hb8
      have HBI8 := Lib.hid hbi8
      have H8 := Lib.hid h8
      have HS8 := Lib.hid (HS6.out.trans hs8)
      clear hb8 hbi8 h8 hs8
      go_upto_region 22 with fail
      refine fall3_set (t := t) (b := b8) (by first | assumption | exact fun _ _ h => h | fail) (by kernel_rfl) H8.out hk hwl hl ?_
      intro y110 y111 y112 y113 y114 y115 y116 y117 y118 y119 y120 w9 h9
      exact HQ.out _ _ _ _ _ _ _ _ _ _ _ _ _ _ _ _ _ _ _ _ _ _ _ _ _ _ _ _ _ _ _ _ _ _ _ _ _ _ _ _ _ _ _ _ _ _ _ _ _ _ _ _ _ _ _ _ _ _ _ _ _ _ _ _ _ _ _ _ _ _ _ _ I8 w9 b8 _ _ _ _ HS8.out (by rw [HB8.out, rleaves_torn, HBF.out]) HBI8.out h9
/-- Region 24 on: a thing that is there is laid to the others. -/
theorem fall3_put {a1 b1 : Code} {Q : Exit → Act → World → Prop} {K : Act → World → Prop} (hK : ∀ x y, b1.wp Tryz.prog Q x y → K x y) (hC : (Tryz.f16).body.bind (fromR 24) = some (.seq a1 b1)) {x0 x1 x2 x3 x4 x5 x6 x7 x8 x10 x12 x13 x14 x15 x16 x17 x18 x19 x20 x21 x22 x23 x24 x25 x26 x27 x28 x29 x30 x31 x32 x33 x34 x35 x36 x37 x38 x39 x40 x41 x42 x43 x44 x45 x46 x47 x48 x49 x50 x51 x52 x53 x54 x55 x56 x57 x58 x59 x60 x61 x62 x63 x64 x65 x66 x67 x68 x69 x70 x71 x72 x73 x74 x75 x76 x77 x78 x79 x80 x81 x82 x83 x84 x85 x86 x87 x88 x89 x90 x91 x92 x93 x94 x95 x96 x97 x98 x99 x100 x101 x102 x103 x104 x105 x106 x107 x108 x109 x110 x111 x112 x113 x114 x115 x116 x117 x118 x119 x120 x121 x122 x123 x124 x125 x126 x127 x128 x129 x130 x131 x132 x133 x134 x135 x136 x137 x138 : Value} {g1 : Nat} {t : RT} {A1 A2 A3 A5 : Option Addr} {c1 c2 c3 c5 : Nat} {zo : List TZ}
    (h : St W I w (HP.pt g1 (.cells #[.int .i64 t.key.kind, .int .i64 t.key.img, .int .i64 t.key.num, .int .i64 t.key.snap, .bool t.dry.there, .slice A1 t.dry.data.length c1, .slice A2 t.dry.attrs.length c2, .slice A5 t.wet.length c5] 95) :: rowHP (.slice A3 zo.length c3) zo :: l)) (hz : (⟨t, .slice A1 t.dry.data.length c1, .slice A2 t.dry.attrs.length c2, .slice A5 t.wet.length c5⟩ : TZ).ok I) (hn : zo.length ≤ 1000000)
    (hQ : ∀ (y121 y122 y123 y124 y125 y126 y127 : Value) (w' : World) (zn : List TZ) (A8 : Option Addr) (c8 : Nat), zn = (if t.dry.there then zo ++ [⟨t, .slice A1 t.dry.data.length c1, .slice A2 t.dry.attrs.length c2, .slice A5 t.wet.length c5⟩] else zo) → St W I w' (rowHP (.slice A8 zn.length c8) zn :: l) → Q .normal ⟨#[x0, x1, x2, x3, x4, x5, x6, x7, x8, .slice A8 zn.length c8, x10, .pointer (some ⟨g1, 0, none⟩), x12, x13, x14, x15, x16, x17, x18, x19, x20, x21, x22, x23, x24, x25, x26, x27, x28, x29, x30, x31, x32, x33, x34, x35, x36, x37, x38, x39, x40, x41, x42, x43, x44, x45, x46, x47, x48, x49, x50, x51, x52, x53, x54, x55, x56, x57, x58, x59, x60, x61, x62, x63, x64, x65, x66, x67, x68, x69, x70, x71, x72, x73, x74, x75, x76, x77, x78, x79, x80, x81, x82, x83, x84, x85, x86, x87, x88, x89, x90, x91, x92, x93, x94, x95, x96, x97, x98, x99, x100, x101, x102, x103, x104, x105, x106, x107, x108, x109, x110, x111, x112, x113, x114, x115, x116, x117, x118, x119, x120, y121, y122, y123, y124, y125, y126, y127, x128, x129, x130, x131, x132, x133, x134, x135, x136, x137, x138], []⟩ w') :
    a1.wp Tryz.prog (Exit.then K Q) ⟨#[x0, x1, x2, x3, x4, x5, x6, x7, x8, .slice A3 zo.length c3, x10, .pointer (some ⟨g1, 0, none⟩), x12, x13, x14, x15, x16, x17, x18, x19, x20, x21, x22, x23, x24, x25, x26, x27, x28, x29, x30, x31, x32, x33, x34, x35, x36, x37, x38, x39, x40, x41, x42, x43, x44, x45, x46, x47, x48, x49, x50, x51, x52, x53, x54, x55, x56, x57, x58, x59, x60, x61, x62, x63, x64, x65, x66, x67, x68, x69, x70, x71, x72, x73, x74, x75, x76, x77, x78, x79, x80, x81, x82, x83, x84, x85, x86, x87, x88, x89, x90, x91, x92, x93, x94, x95, x96, x97, x98, x99, x100, x101, x102, x103, x104, x105, x106, x107, x108, x109, x110, x111, x112, x113, x114, x115, x116, x117, x118, x119, x120, x121, x122, x123, x124, x125, x126, x127, x128, x129, x130, x131, x132, x133, x134, x135, x136, x137, x138], []⟩ w := by
  injection hC with hC
  injection hC with hC1 hC2
  subst hC1 hC2
  have HQ := Lib.hid hQ
  obtain ⟨a0, a1, a2, a3, a4, a5, a6, a7⟩ := h.cells8
  have hlt1 := h.lt
  have H := Lib.hid h
  clear h hQ
  cases hth : t.dry.there with
  | false =>
    rw [hth] at a4
    rw [hth] at HQ
    go_wp2_with fail
    exact HQ.out _ _ _ _ _ _ _ w zo A3 c3 rfl H.out.drop
  | true =>
    obtain ⟨A8, c8, w8, hr8, h8⟩ := thing_push H.out.drop ⟨t, .slice A1 t.dry.data.length c1, .slice A2 t.dry.attrs.length c2, .slice A5 t.wet.length c5⟩ hz (by omega) #[.int .i64 t.key.kind, .int .i64 t.key.img, .int .i64 t.key.num, .int .i64 t.key.snap, .bool t.dry.there, .slice A1 t.dry.data.length c1, .slice A2 t.dry.attrs.length c2, .slice A5 t.wet.length c5] rfl
    rw [hth] at a4 hr8 HQ
    have HR8 := Lib.hid hr8
    have H8 := Lib.hid h8
    clear hr8 h8
    go_wp2_with (at_builtin; refine Lib.wpList_append_run _ rfl (.tmp 124) (.tmp 126) 55 55 rfl _ _ rfl rfl _ _ HR8.out ?_)
    have e : zo.length + 1 = (zo ++ [(⟨t, .slice A1 t.dry.data.length c1, .slice A2 t.dry.attrs.length c2, .slice A5 t.wet.length c5⟩ : TZ)]).length := by simp
    rw [e] at H8 ⊢
    exact HQ.out _ _ _ _ _ _ _ w8 _ A8 c8 rfl H8.out
end
end Go.Proofs.YtagljjhfkhadpaaGreat
