/- hectographref3: rows of things and of deeds, pieces of them, one behind the other. hectographref3: Do, its end. hectographref3: Do, a thing more. -/
import Derived.Test.YtagljjhfkhadpaaGreatRefTwo
import Derived.Test.YtagljjhfkhadpaaGreatTools
import Derived.Deep.Cut
/- hectographref3: rows of things and of deeds, pieces of them, one behind the other. -/
set_option linter.unusedSimpArgs false
set_option linter.unusedVariables false
set_option linter.unusedSectionVars false
namespace Go.Proofs.YtagljjhfkhadpaaGreat
open Go.RowKit
theorem flat_set {α : Type} {mk : α → List Value} {k : Nat} (hk : ∀ a, (mk a).length = k) : ∀ (l : List α) (i j : Nat) (a a' : α) (v : Value), l[i]? = some a → j < k → mk a' = (mk a).set j v → (l.flatMap mk).set (i * k + j) v = (l.set i a').flatMap mk
  | [], i, j, a, a', v, h, _, _ => by simp at h
  | b :: l, 0, j, a, a', v, h, hj, e => by
    simp only [List.getElem?_cons_zero, Option.some.injEq] at h
    subst h
    rw [List.flatMap_cons, Nat.zero_mul, Nat.zero_add, List.set_append_left _ _ (by rw [hk]; exact hj), List.set_cons_zero, List.flatMap_cons, e]
  | b :: l, i + 1, j, a, a', v, h, hj, e => by
    rw [List.flatMap_cons, List.set_append_right _ _ (by rw [hk, Nat.add_mul]; omega), hk, show (i + 1) * k + j - k = i * k + j by rw [Nat.add_mul]; omega, List.set_cons_succ, List.flatMap_cons, flat_set hk l i j a a' v (by simpa using h) hj e]
theorem flat_take {α : Type} {mk : α → List Value} {k : Nat} (hk : ∀ a, (mk a).length = k) : ∀ (l : List α) (i : Nat), (l.flatMap mk).take (i * k) = (l.take i).flatMap mk
  | [], i => by simp
  | b :: l, 0 => by simp
  | b :: l, i + 1 => by
    rw [List.flatMap_cons, List.take_succ_cons, List.flatMap_cons, ← flat_take hk l i, show (i + 1) * k = (mk b).length + i * k by rw [hk, Nat.add_mul]; omega, List.take_append, Nat.add_sub_cancel_left, List.take_of_length_le (by omega)]
theorem flat_drop {α : Type} {mk : α → List Value} {k : Nat} (hk : ∀ a, (mk a).length = k) : ∀ (l : List α) (i : Nat), (l.flatMap mk).drop (i * k) = (l.drop i).flatMap mk
  | [], i => by simp
  | b :: l, 0 => by simp
  | b :: l, i + 1 => by
    rw [List.flatMap_cons, List.drop_succ_cons, ← flat_drop hk l i, show (i + 1) * k = (mk b).length + i * k by rw [hk, Nat.add_mul]; omega, List.drop_append]
    simp
theorem src_take {w : World} {s : Nat} {A : Option Addr} {n c m : Nat} {xs : List Value} (h : SliceSrc w s (.slice A n c) n xs) (hm : m ≤ n) : SliceSrc w s (.slice A m c) m (xs.take (m * s)) := by
  obtain ⟨A1, c1, e, hsrc, hA⟩ := h
  simp only [Value.slice.injEq, true_and] at e
  obtain ⟨rfl, rfl⟩ := e
  refine ⟨A, c, rfl, ⟨?_, fun hp => ?_, fun u hu => hsrc.one u (List.mem_of_mem_take hu)⟩, hA⟩
  · rw [List.length_take, hsrc.len]
    exact Nat.min_eq_left (Nat.mul_le_mul_right _ hm)
  · obtain ⟨ad, rfl, hc⟩ := hsrc.cells (by omega)
    refine ⟨ad, rfl, fun j u hu => hc j u ?_⟩
    rw [List.getElem?_take] at hu
    split at hu
    · exact hu
    · cases hu
theorem rdo_err {R : RS} {k : K4} {d : RD} {e : Int} (h : rwhy R k d = e) (he : e ≠ 0) : rdo R k d = (e, R) := by
  unfold rdo
  rw [h, if_pos he]
section
variable {W w : World} {I : Hp} {l : List HP} {q : Nat} {R : RS}
theorem St.cells4 {g : Nat} {c0 c1 c2 c3 : Value} {t : TypeId} (h : St W I w (HP.pt g (.cells #[c0, c1, c2, c3] t) :: l)) : w.cell? ⟨g, 0, none⟩ = some c0 ∧ w.cell? ⟨g, 1, none⟩ = some c1 ∧ w.cell? ⟨g, 2, none⟩ = some c2 ∧ w.cell? ⟨g, 3, none⟩ = some c3 := by
  have y := cells_of h.heap
  have y0 := y 0
  have y1 := y 1
  have y2 := y 2
  have y3 := y 3
  simp at y0 y1 y2 y3
  exact ⟨y0, y1, y2, y3⟩
theorem imm_cells3 {g : Nat} {c0 c1 c2 : Value} {t : TypeId} (h : St W I w l) (e : I g = some (.cells #[c0, c1, c2] t)) : w.cell? ⟨g, 0, none⟩ = some c0 ∧ w.cell? ⟨g, 1, none⟩ = some c1 ∧ w.cell? ⟨g, 2, none⟩ = some c2 := by
  have y := cells_of (h.imm_heap e)
  have y0 := y 0
  have y1 := y 1
  have y2 := y 2
  simp at y0 y1 y2
  exact ⟨y0, y1, y2⟩
theorem pt_src {g k : Nat} {cs : Array Value} {e : TypeId} (h : St W I w (HP.pt g (.cells cs e) :: l)) (hl : cs.size = k) (h1 : ∀ u ∈ cs.toList, u.oneCell' = true) : SliceSrc w k (.slice (some ⟨g, 0, none⟩) 1 1) 1 cs.toList := by
  refine ⟨_, _, rfl, ⟨by rw [Array.length_toList, hl, Nat.one_mul], fun _ => ⟨_, rfl, fun j u hu => ?_⟩, h1⟩, fun e => by cases e⟩
  rw [add_plain, Nat.zero_add, cells_of h.heap j, ← hu]
  simp
theorem St.row_src {e : TypeId} {k : Nat} {v : Value} {n : Nat} {xs : List Value} (h : St W I w (HP.row e k v n xs :: l)) (h1 : ∀ u ∈ xs, u.oneCell' = true) : SliceSrc w k v n xs := SliceSrc.of_owns h.row_owns h1
/-- Rows of things, rows of deeds: one behind the other. -/
theorem things_append {v v2 : Value} {n m : Nat} {xs ys : List Value} (h : St W I w (HP.row 95 8 v n xs :: l)) (hs : SliceSrc w 8 v2 m ys) (hb : n + m ≤ 1000000) :
    ∃ A' c' w', (Builtin.append_ #[55, 55] 55 #[v, v2]).run Tryz.prog w = .ok (.slice A' (n + m) c') w' ∧ St W I w' (HP.row 95 8 (.slice A' (n + m) c') (n + m) (xs ++ ys) :: l) := by
  obtain ⟨A, c, rfl, hsrc, hA⟩ := hs
  obtain ⟨i0, hi0, hz0, hz1, hz2⟩ := info_parts thing_info
  obtain ⟨v', w', hr, ho', hgr, hv'⟩ := run_append_src (P := Tryz.prog) w 0 55 55 95 i0 _ 8 112 Tryz.underlying55 hi0 hz0 hz1 hz2 rfl (by decide) v n xs h.row_owns A m c ys hsrc hA (by unfold maxLen; omega) (by omega) (Nat.zero_le _)
  obtain ⟨A', c', rfl⟩ := is_slice ho'
  exact ⟨A', c', w', hr, h.row_grown ho' hgr hv'⟩
theorem deed3_info : (Tryz.prog.info? 71).map (fun i => (i.zero, i.size, i.bytes)) = some (some (.agg #[.int .i64 0, .int .i64 0, .string ⟨#[]⟩, .slice none 0 0]), 4, 56) := by kernel_rfl
theorem deeds_append3 {v v2 : Value} {n m : Nat} {xs ys : List Value} (h : St W I w (HP.row 71 4 v n xs :: l)) (hs : SliceSrc w 4 v2 m ys) (hb : n + m ≤ 1000000) :
    ∃ A' c' w', (Builtin.append_ #[93, 93] 93 #[v, v2]).run Tryz.prog w = .ok (.slice A' (n + m) c') w' ∧ St W I w' (HP.row 71 4 (.slice A' (n + m) c') (n + m) (xs ++ ys) :: l) := by
  obtain ⟨A, c, rfl, hsrc, hA⟩ := hs
  obtain ⟨i0, hi0, hz0, hz1, hz2⟩ := info_parts deed3_info
  obtain ⟨v', w', hr, ho', hgr, hv'⟩ := run_append_src (P := Tryz.prog) w 0 93 93 71 i0 _ 4 56 Tryz.underlying93 hi0 hz0 hz1 hz2 rfl (by decide) v n xs h.row_owns A m c ys hsrc hA (by unfold maxLen; omega) (by omega) (Nat.zero_le _)
  obtain ⟨A', c', rfl⟩ := is_slice ho'
  exact ⟨A', c', w', hr, h.row_grown ho' hgr hv'⟩
theorem St.empty_row (h : St W I w l) (e : TypeId) (k : Nat) : St W I (w.alloc (.cells #[] e)) (HP.row e k (.slice (some ⟨w.heap.size, 0, none⟩) 0 0) 0 [] :: l) := (h.alloc (.cells #[] e)).row_shut (by simp) (Nat.le_refl _) (by unfold maxLen; omega) (by simp) (by simp)
theorem St.row_set {α : Type} {mk : α → List Value} {k g c : Nat} {e : TypeId} {zs : List α} (h : St W I w (HP.row e k (.slice (some ⟨g, 0, none⟩) zs.length c) zs.length (zs.flatMap mk) :: l)) (hk : ∀ a, (mk a).length = k) {i j : Nat} {a a' : α} {v : Value} (ha : zs[i]? = some a) (hj : j < k) (he : mk a' = (mk a).set j v) :
    St W I (w.setCell ⟨g, i * k + j, none⟩ v) (HP.row e k (.slice (some ⟨g, 0, none⟩) zs.length c) zs.length ((zs.set i a').flatMap mk) :: l) ∧ (∀ x, w.frozen? ⟨g, x, none⟩ = false) ∧ g < w.heap.size := by
  have hil := (List.getElem?_eq_some_iff.1 ha).1
  obtain ⟨hl, p⟩ := h.row_open
  rcases p with ⟨_, e2, _⟩ | ⟨g', cap, cur, e1, p3, p4, p5, p6, s⟩
  · omega
  · simp only [Value.slice.injEq, Option.some.injEq, Addr.mk.injEq, true_and, and_true] at e1
    obtain ⟨rfl, rfl⟩ := e1
    refine ⟨(s.setCell (i * k + j) v).row_shut (by rw [flatz_len hk, List.length_set]) p3 p4 (by simpa using p5) ?_, frozen_of_row s.heap, s.lt⟩
    rw [← flat_set hk zs i j a a' v ha hj he, ← p6, ← List.take_set]
    simp
theorem tzs_one {zs : List TZ} {I : Hp} (h : ∀ z ∈ zs, z.ok I) : ∀ u ∈ zs.flatMap TZ.cells, u.oneCell' = true := fun u hu => by
  obtain ⟨z, hz, hu⟩ := List.mem_flatMap.1 hu
  exact tz_one (h z hz) u hu
theorem dzs_one {zs : List DZ} {I : Hp} (h : ∀ z ∈ zs, BytesI I z.2 z.1.p) : ∀ u ∈ zs.flatMap DZ.cells, u.oneCell' = true := fun u hu => by
  obtain ⟨z, hz, hu⟩ := List.mem_flatMap.1 hu
  obtain ⟨A, c, e⟩ := BytesI.slice (h z hz)
  simp only [DZ.cells, List.mem_cons, List.mem_nil_iff, or_false] at hu
  rcases hu with rfl | rfl | rfl | rfl
  · rfl
  · rfl
  · rfl
  · rw [e]; rfl
set_option maxRecDepth 4000
set_option maxHeartbeats 8000000
end
end Go.Proofs.YtagljjhfkhadpaaGreat
/- hectographref3: Do, its end. -/
namespace Go.Proofs.YtagljjhfkhadpaaGreat
open Go.RowKit
section
variable {W w : World} {I : Hp} {l : List HP} {q : Nat} {R : RS}
theorem St.q2 {vl vk : Value} (h : St W I w (HP.pt q (.cells (R.cells vl vk) 57) :: l)) : w.cell? ⟨q, 2, none⟩ = some vl := by
  have y2 := cells_of h.heap 2
  simp [RS.cells] at y2
  exact y2
theorem St.q1 {vl vk : Value} (h : St W I w (HP.pt q (.cells (R.cells vl vk) 57) :: l)) : w.cell? ⟨q, 1, none⟩ = some (.int .i64 R.count) := by
  have y := cells_of h.heap 1
  simp [RS.cells] at y
  exact y
theorem St.elem7 {zs : List TZ} {g c i : Nat} {z : TZ} (h : St W I w (rowHP (.slice (some ⟨g, 0, none⟩) zs.length c) zs :: l)) (hz : zs[i]? = some z) : w.cell? ⟨g, i * 8 + 7, none⟩ = some z.wv := by
  obtain ⟨g', c', e, _, _, hc⟩ := h.row_elem (mk := TZ.cells) (k := 8) (fun _ => rfl) hz
  simp only [Value.slice.injEq, Option.some.injEq, Addr.mk.injEq, true_and, and_true] at e
  obtain ⟨rfl, rfl⟩ := e
  exact hc 7 (by omega)
theorem dz_one {d : RD} {A : Option Addr} {n c : Nat} {I : Hp} {p : List Int} (h : BytesI I (.slice A n c) p) : ∀ u ∈ DZ.cells (d, .slice A n c), u.oneCell' = true := fun u hu => by
  simp only [DZ.cells, List.mem_cons, List.mem_nil_iff, or_false] at hu
  rcases hu with rfl | rfl | rfl | rfl <;> rfl
set_option maxRecDepth 4000
set_option maxHeartbeats 8000000
theorem do3_put {C : Code} (hC : (Tryz.f29).body.bind (fromR 29) = some C) {Q : Exit → Act → World → Prop} {x1 x2 x3 x4 x6 x7 x9 x10 x11 x12 x13 x14 x15 x16 x17 x18 x19 x20 x21 x22 x23 x24 x25 x26 x27 x28 x29 x30 x31 x32 x33 x34 x35 x36 x37 x38 x39 x40 x41 x42 x43 x44 x45 x46 x47 x48 x49 x50 x51 x52 x53 x54 x55 x56 x57 x58 x59 x60 x61 x62 x63 x64 x65 x66 x67 x68 x69 x70 x71 x72 x73 x74 x75 x76 x77 x78 x79 x80 x81 x82 x83 x84 x85 x86 x87 x88 x89 x90 x91 x92 x93 x94 x95 x96 x97 x98 x99 x100 x101 x102 x103 x104 x105 x106 x107 x108 x109 x110 x111 x112 x113 x114 x115 x116 x117 x118 x119 x120 x121 x122 x123 x124 x125 x126 x127 x128 x129 x130 x131 x132 x133 x134 x135 x136 x137 x138 x139 x140 x141 x142 x143 x144 x145 x146 x147 x148 x149 x150 x151 x152 x153 x154 x155 x156 x157 x158 x159 x160 x161 x162 x163 x164 x165 x166 x167 x168 x169 x170 x171 x172 x173 x174 x175 x176 x177 : Value} (k : K4) (D : RD) {A6 : Option Addr} {c6 c fi g5 : Nat} {R2 : RS}
    (h14 : St W I w (refHP q { R2 with l := radd R2.l k } :: HP.pt g5 (.cells #[.int .i64 D.what, .int .i64 D.n, .string D.name, .slice A6 D.p.length c6] 71) :: l)) (hi : RInv R2 c) (hfd : (rfind R2.l k).1 = fi) (hb : BytesI I (.slice A6 D.p.length c6) D.p)
    (hQ : ∀ (y151 y152 y153 y154 y155 y156 y157 y158 y159 y160 y161 y162 y163 y164 y165 y166 y167 y168 y169 y170 y171 y172 y173 y174 y175 y176 y177 : Value) (I' : Hp) (w' : World), I.sub I' → St W I' w' (refHP q { R2 with l := rput R2.l k D, count := wrap64 (R2.count + 1) } :: l) → Q .ret ⟨#[.pointer (some ⟨q, 0, none⟩), x1, x2, x3, x4, .pointer (some ⟨g5, 0, none⟩), .int .i64 0, x7, .int .i64 (fi : Nat), x9, x10, x11, x12, x13, x14, x15, x16, x17, x18, x19, x20, x21, x22, x23, x24, x25, x26, x27, x28, x29, x30, x31, x32, x33, x34, x35, x36, x37, x38, x39, x40, x41, x42, x43, x44, x45, x46, x47, x48, x49, x50, x51, x52, x53, x54, x55, x56, x57, x58, x59, x60, x61, x62, x63, x64, x65, x66, x67, x68, x69, x70, x71, x72, x73, x74, x75, x76, x77, x78, x79, x80, x81, x82, x83, x84, x85, x86, x87, x88, x89, x90, x91, x92, x93, x94, x95, x96, x97, x98, x99, x100, x101, x102, x103, x104, x105, x106, x107, x108, x109, x110, x111, x112, x113, x114, x115, x116, x117, x118, x119, x120, x121, x122, x123, x124, x125, x126, x127, x128, x129, x130, x131, x132, x133, x134, x135, x136, x137, x138, x139, x140, x141, x142, x143, x144, x145, x146, x147, x148, x149, x150, y151, y152, y153, y154, y155, y156, y157, y158, y159, y160, y161, y162, y163, y164, y165, y166, y167, y168, y169, y170, y171, y172, y173, y174, y175, y176, y177], []⟩ w') :
    C.wp Tryz.prog Q ⟨#[.pointer (some ⟨q, 0, none⟩), x1, x2, x3, x4, .pointer (some ⟨g5, 0, none⟩), x6, x7, .int .i64 (fi : Nat), x9, x10, x11, x12, x13, x14, x15, x16, x17, x18, x19, x20, x21, x22, x23, x24, x25, x26, x27, x28, x29, x30, x31, x32, x33, x34, x35, x36, x37, x38, x39, x40, x41, x42, x43, x44, x45, x46, x47, x48, x49, x50, x51, x52, x53, x54, x55, x56, x57, x58, x59, x60, x61, x62, x63, x64, x65, x66, x67, x68, x69, x70, x71, x72, x73, x74, x75, x76, x77, x78, x79, x80, x81, x82, x83, x84, x85, x86, x87, x88, x89, x90, x91, x92, x93, x94, x95, x96, x97, x98, x99, x100, x101, x102, x103, x104, x105, x106, x107, x108, x109, x110, x111, x112, x113, x114, x115, x116, x117, x118, x119, x120, x121, x122, x123, x124, x125, x126, x127, x128, x129, x130, x131, x132, x133, x134, x135, x136, x137, x138, x139, x140, x141, x142, x143, x144, x145, x146, x147, x148, x149, x150, x151, x152, x153, x154, x155, x156, x157, x158, x159, x160, x161, x162, x163, x164, x165, x166, x167, x168, x169, x170, x171, x172, x173, x174, x175, x176, x177], []⟩ w := by
  injection hC with hC
  subst hC
  have HQ := Lib.hid hQ
  have HI2 := Lib.hid hi
  have HFD := Lib.hid hfd
  have HB8 := Lib.hid hb
  clear hQ hi hfd hb
  obtain ⟨tt, hti, htk⟩ := radd_at R2.l k
  rw [HFD.out] at hti
  have hrf := (radd_fits (k := k) HI2.out.fits) tt (List.mem_of_getElem? hti)
  have hwl : tt.wet.length ≤ 100000 := by have := hrf.size; have := HI2.out.most; omega
  obtain ⟨zs, vl, vk, hzs, hz, hkk, hop⟩ := h14.drew.ref_open
  have hzi' : ∃ z, zs[fi]? = some z ∧ z.t = tt := by
    simp only at hzs
    rw [← hzs, List.getElem?_map] at hti
    cases hc : zs[fi]? with
    | none => rw [hc] at hti; cases hti
    | some z => rw [hc] at hti; simp only [Option.map_some, Option.some.injEq] at hti; exact ⟨z, rfl, hti⟩
  obtain ⟨z, hzi, hzt⟩ := hzi'
  have hzok := hz z (List.mem_of_getElem? hzi)
  obtain ⟨t, dvt, avt, wvt⟩ := z
  simp only at hzt
  subst hzt
  obtain ⟨gz, cz, e1, hcz, hgz, hcell⟩ := (hop.pull 1 _ rfl).row_elem (mk := TZ.cells) (k := 8) (fun _ => rfl) hzi
  subst e1
  have hfl := (List.getElem?_eq_some_iff.1 hzi).1
  have HZT := Lib.hid hzok
  obtain ⟨ds, hds, hdr, hdb⟩ := hzok.2
  have HDS := Lib.hid hds
  have HDR := Lib.hid hdr
  have HDB := Lib.hid hdb
  obtain ⟨At, ct, e1, _, hct, _⟩ := hdr
  simp only at e1
  subst e1
  have HZ : Hid (∀ z ∈ zs, z.ok I) := Lib.hid hz
  have HTI := Lib.hid hti
  have HOP := Lib.hid hop
  have r7 := hcell 7 (by omega)
  simp only [TZ.cells, List.getElem?_cons_succ, List.getElem?_cons_zero] at r7
  have y2 := St.q2 hop
  obtain ⟨z0, z1, z2, z3⟩ := (hop.pull 2 _ rfl).cells4
  have hlq := hop.lt
  have hlg := (hop.pull 2 _ rfl).lt
  clear hop hz hzok hds hdb hcell hti h14 hrf
  go_upto_region 29 with fail
  refine wp_region_tree (fun w' => w'.cell? ⟨q, 2, none⟩ = some (.slice (some ⟨gz, 0, none⟩) zs.length cz) ∧ w'.cell? ⟨gz, fi * 8 + 7, none⟩ = some (.slice At t.wet.length ct) ∧ w'.cell? ⟨g5, 0, none⟩ = some (.int .i64 D.what) ∧ w'.cell? ⟨g5, 1, none⟩ = some (.int .i64 D.n) ∧ w'.cell? ⟨g5, 2, none⟩ = some (.string D.name) ∧ w'.cell? ⟨g5, 3, none⟩ = some (.slice A6 D.p.length c6)) [0, 1, 2, 3, 4, 6, 7, 8, 9, 10, 11, 12, 13, 15] [5, 14, 16, 17] (Tr.two 5 (Tr.two 14 (Tr.one 16 (Tr.one 17 Tr.leaf)) 16 (Tr.one 14 (Tr.one 17 Tr.leaf))) 16 (Tr.one 5 (Tr.one 14 (Tr.one 17 Tr.leaf)))) [18, 19, 20] (by kernel_rfl) (by kernel_rfl) (by (exact ⟨y2, r7, z0, z1, z2, z3⟩)) ?_
  simp only [pickL, List.getElem?_cons_zero, List.getElem?_cons_succ]
  repeat (first | (refine wpFirst_step _ (Or.inl ⟨by rfl, by (intro w hSw; (try dsimp only at hSw); go_simp; try with_reducible rfl)⟩) ?_; (try simp only [Act.put, List.setIfInBounds_toArray, List.set_cons_zero, List.set_cons_succ])) | (refine wpFirst_step _ (Or.inr ⟨by rfl, rfl⟩) ?_; (try simp only [Act.put, List.setIfInBounds_toArray, List.set_cons_zero, List.set_cons_succ])) | fail)
  refine wpFirst_nil ?_
  unfold wpTr
  simp only [pickL, List.getElem?_cons_zero, List.getElem?_cons_succ]
  clear y2 r7 z0 z1 z2 z3
  obtain ⟨w0, hw0⟩ : ∃ x, x = w.drew := ⟨_, rfl⟩
  rw [← hw0] at HOP ⊢
  clear hw0
  refine ⟨?_, ?_⟩
  · have h1 := St.empty_row HOP.out 71 4
    go_wp2_with fail
    obtain ⟨wa, hwa⟩ : ∃ x, x = w0.alloc (.cells #[] 71) := ⟨_, rfl⟩
    obtain ⟨ga, hga⟩ : ∃ x, x = w0.heap.size := ⟨_, rfl⟩
    rw [← hwa, ← hga] at h1
    rw [← hwa, ← hga]
    clear hwa hga
    have HL1 := Lib.hid h1
    clear h1
    have y2 := St.q2 (HL1.out.pull 1 _ rfl)
    obtain ⟨z0, z1, z2, z3⟩ := (HL1.out.pull 3 _ rfl).cells4
    have hrz := HL1.out.pull 2 (rowHP (.slice (some ⟨gz, 0, none⟩) zs.length cz) zs) rfl
    have r7 := St.elem7 (g := gz) (c := cz) (zs := zs) (i := fi) hrz hzi
    clear hrz
    refine holdPost_normal ⟨y2, r7, z0, z1, z2, z3⟩ ?_
    unfold wpTr
    (try simp only [pickL, List.getElem?_cons_zero, List.getElem?_cons_succ])
    refine ⟨?_, ?_⟩
    · have hsr := RowI.src HDR.out HL1.out.imm (dzs_one HDB.out) (by omega)
      obtain ⟨Aw2, cw2, wx2, hr, h2⟩ := deeds_append3 HL1.out hsr (by omega)
      rw [Nat.zero_add, List.nil_append] at h2
      rw [Nat.zero_add] at hr
      have HR9 := Lib.hid hr
      clear hr hsr
      go_wp2_with (at_builtin; refine Lib.wpList_append_run _ rfl (.tmp 156) (.tmp 164) 93 93 rfl _ _ rfl rfl _ _ HR9.out ?_)
      clear HR9
      have HL2 := Lib.hid h2
      clear h2 HL1
      have y2 := St.q2 (HL2.out.pull 1 _ rfl)
      obtain ⟨z0, z1, z2, z3⟩ := (HL2.out.pull 3 _ rfl).cells4
      have hrz := HL2.out.pull 2 (rowHP (.slice (some ⟨gz, 0, none⟩) zs.length cz) zs) rfl
      have r7 := St.elem7 (g := gz) (c := cz) (zs := zs) (i := fi) hrz hzi
      clear hrz
      refine holdPost_normal ⟨y2, r7, z0, z1, z2, z3⟩ ?_
      unfold wpTr
      (try simp only [pickL, List.getElem?_cons_zero, List.getElem?_cons_succ])
      have h3 := HL2.out.alloc (.cells #[.int .i64 D.what, .int .i64 D.n, .string D.name, .slice A6 D.p.length c6] 71)
      go_wp2_with fail
      obtain ⟨wb, hwb⟩ : ∃ x, x = wx2.alloc (.cells #[.int .i64 D.what, .int .i64 D.n, .string D.name, .slice A6 D.p.length c6] 71) := ⟨_, rfl⟩
      obtain ⟨gb, hgb⟩ : ∃ x, x = wx2.heap.size := ⟨_, rfl⟩
      rw [← hwb, ← hgb] at h3
      rw [← hwb, ← hgb]
      clear hwb hgb
      have h3 := h3.pull 1 _ rfl
      simp only [List.eraseIdx_cons_zero, List.eraseIdx_cons_succ] at h3
      have HL3 := Lib.hid h3
      clear h3 HL2
      have y2 := St.q2 (HL3.out.pull 2 _ rfl)
      obtain ⟨z0, z1, z2, z3⟩ := (HL3.out.pull 4 _ rfl).cells4
      have hrz := HL3.out.pull 3 (rowHP (.slice (some ⟨gz, 0, none⟩) zs.length cz) zs) rfl
      have r7 := St.elem7 (g := gz) (c := cz) (zs := zs) (i := fi) hrz hzi
      clear hrz
      refine holdPost_normal ⟨y2, r7, z0, z1, z2, z3⟩ ?_
      unfold wpTr
      (try simp only [pickL, List.getElem?_cons_zero, List.getElem?_cons_succ])
      have hsr := pt_src (k := 4) (HL3.out.pull 1 _ rfl) rfl (dz_one HB8.out (d := ⟨D.what, D.n, D.name, D.p⟩))
      obtain ⟨Aw4, cw4, wx4, hr, h4⟩ := deeds_append3 HL3.out hsr (by omega)
      have HR9 := Lib.hid hr
      clear hr hsr
      go_wp2_with (at_builtin; refine Lib.wpList_append_run _ rfl (.tmp 165) (.tmp 167) 93 93 rfl _ _ rfl rfl _ _ HR9.out ?_)
      clear HR9
      have HL4 := Lib.hid h4
      clear h4 HL3
      have y2 := St.q2 (HL4.out.pull 2 _ rfl)
      obtain ⟨z0, z1, z2, z3⟩ := (HL4.out.pull 4 _ rfl).cells4
      have hrz := HL4.out.pull 3 (rowHP (.slice (some ⟨gz, 0, none⟩) zs.length cz) zs) rfl
      have r7 := St.elem7 (g := gz) (c := cz) (zs := zs) (i := fi) hrz hzi
      clear hrz
      refine holdPost_normal ⟨y2, r7, z0, z1, z2, z3⟩ ?_
      unfold wpTr
      (try simp only [pickL, List.getElem?_cons_zero, List.getElem?_cons_succ])
      obtain ⟨I16, hs16, hdr16, h16⟩ := HL4.out.freeze_row
      (try simp only [List.eraseIdx_cons_zero, List.eraseIdx_cons_succ] at h16)
      have h17 := h16.drop.pull 1 _ rfl
      obtain ⟨h18, hfz, hgl⟩ := St.row_set (i := fi) (j := 7) (a' := ⟨{ t with wet := t.wet ++ [D] }, dvt, avt, (.slice Aw4 (t.wet.length + 1) cw4)⟩) (v := (.slice Aw4 (t.wet.length + 1) cw4)) h17 (fun _ => rfl) hzi (by omega) rfl
      have hfq := frozen_of_row (h18.pull 1 _ rfl).heap
      have y1 := St.q1 (h18.pull 1 _ rfl)
      have hlq := (h18.pull 1 _ rfl).lt
      have h19 := (h18.pull 1 _ rfl).setCell 1 (.int .i64 (wrap64 (R2.count + 1)))
      have h20 : St W I16 ((wx4.setCell ⟨gz, fi * 8 + 7, none⟩ (.slice Aw4 (t.wet.length + 1) cw4)).setCell ⟨q, 1, none⟩ (.int .i64 (wrap64 (R2.count + 1)))) (refHP q { R2 with l := rput R2.l k D, count := wrap64 (R2.count + 1) } :: l) := by
        have h21 : St W I16 ((wx4.setCell ⟨gz, fi * 8 + 7, none⟩ (.slice Aw4 (t.wet.length + 1) cw4)).setCell ⟨q, 1, none⟩ (.int .i64 (wrap64 (R2.count + 1)))) (HP.pt q (.cells (({ R2 with l := rput R2.l k D, count := wrap64 (R2.count + 1) } : RS).cells (.slice (some ⟨gz, 0, none⟩) zs.length cz) vk) 57) :: rowHP (.slice (some ⟨gz, 0, none⟩) zs.length cz) (zs.set fi ⟨{ t with wet := t.wet ++ [D] }, dvt, avt, (.slice Aw4 (t.wet.length + 1) cw4)⟩) :: HP.pt g5 (.cells #[.int .i64 D.what, .int .i64 D.n, .string D.name, .slice A6 D.p.length c6] 71) :: l) := by
          unfold rowHP
          rw [List.length_set]
          exact h19
        refine St.ref_shut ((h21.pull 2 _ rfl).drop) ?_ ?_ (hkk.mono hs16)
        · have ht' : (radd R2.l k)[(rfind R2.l k).1]? = some t := by rw [HFD.out]; exact HTI.out
          rw [rput_eq ht', HFD.out, List.map_set, hzs]
        · intro z hz
          rcases List.mem_or_eq_of_mem_set hz with hz | rfl
          · exact TZ.ok_mono hs16 (HZ.out z hz)
          · refine ⟨HZT.out.1.mono hs16, ds ++ [(⟨D.what, D.n, D.name, D.p⟩, .slice A6 D.p.length c6)], ?_, ?_, ?_⟩
            · rw [List.map_append, HDS.out]
              rfl
            · have hlen : (t.wet ++ [D]).length = t.wet.length + 1 := by simp
              simp only [hlen, List.flatMap_append]
              exact hdr16
            · intro x hx
              rcases List.mem_append.1 hx with hx | hx
              · exact (HDB.out x hx).mono hs16
              · rw [List.mem_singleton.1 hx]
                exact (HB8.out).mono hs16
      have H20 := Lib.hid h20
      have HS16 := Lib.hid hs16
      clear h16 h17 h18 h19 h20 hdr16 hs16
      go_wp2_with fail
      refine NoPanic.normal ?_
      go_wp2_with fail
      exact HQ.out _ _ _ _ _ _ _ _ _ _ _ _ _ _ _ _ _ _ _ _ _ _ _ _ _ _ _ I16 _ HS16.out H20.out
    · have h2 := HL1.out.alloc (.cells #[.int .i64 D.what, .int .i64 D.n, .string D.name, .slice A6 D.p.length c6] 71)
      go_wp2_with fail
      obtain ⟨wb, hwb⟩ : ∃ x, x = wa.alloc (.cells #[.int .i64 D.what, .int .i64 D.n, .string D.name, .slice A6 D.p.length c6] 71) := ⟨_, rfl⟩
      obtain ⟨gb, hgb⟩ : ∃ x, x = wa.heap.size := ⟨_, rfl⟩
      rw [← hwb, ← hgb] at h2
      rw [← hwb, ← hgb]
      clear hwb hgb
      have h2 := h2.pull 1 _ rfl
      simp only [List.eraseIdx_cons_zero, List.eraseIdx_cons_succ] at h2
      have HL2 := Lib.hid h2
      clear h2 HL1
      have y2 := St.q2 (HL2.out.pull 2 _ rfl)
      obtain ⟨z0, z1, z2, z3⟩ := (HL2.out.pull 4 _ rfl).cells4
      have hrz := HL2.out.pull 3 (rowHP (.slice (some ⟨gz, 0, none⟩) zs.length cz) zs) rfl
      have r7 := St.elem7 (g := gz) (c := cz) (zs := zs) (i := fi) hrz hzi
      clear hrz
      refine holdPost_normal ⟨y2, r7, z0, z1, z2, z3⟩ ?_
      unfold wpTr
      (try simp only [pickL, List.getElem?_cons_zero, List.getElem?_cons_succ])
      have hsr := RowI.src HDR.out HL2.out.imm (dzs_one HDB.out) (by omega)
      obtain ⟨Aw3, cw3, wx3, hr, h3⟩ := deeds_append3 HL2.out hsr (by omega)
      rw [Nat.zero_add, List.nil_append] at h3
      rw [Nat.zero_add] at hr
      have HR9 := Lib.hid hr
      clear hr hsr
      go_wp2_with (at_builtin; refine Lib.wpList_append_run _ rfl (.tmp 156) (.tmp 164) 93 93 rfl _ _ rfl rfl _ _ HR9.out ?_)
      clear HR9
      have HL3 := Lib.hid h3
      clear h3 HL2
      have y2 := St.q2 (HL3.out.pull 2 _ rfl)
      obtain ⟨z0, z1, z2, z3⟩ := (HL3.out.pull 4 _ rfl).cells4
      have hrz := HL3.out.pull 3 (rowHP (.slice (some ⟨gz, 0, none⟩) zs.length cz) zs) rfl
      have r7 := St.elem7 (g := gz) (c := cz) (zs := zs) (i := fi) hrz hzi
      clear hrz
      refine holdPost_normal ⟨y2, r7, z0, z1, z2, z3⟩ ?_
      unfold wpTr
      (try simp only [pickL, List.getElem?_cons_zero, List.getElem?_cons_succ])
      have hsr := pt_src (k := 4) (HL3.out.pull 1 _ rfl) rfl (dz_one HB8.out (d := ⟨D.what, D.n, D.name, D.p⟩))
      obtain ⟨Aw4, cw4, wx4, hr, h4⟩ := deeds_append3 HL3.out hsr (by omega)
      have HR9 := Lib.hid hr
      clear hr hsr
      go_wp2_with (at_builtin; refine Lib.wpList_append_run _ rfl (.tmp 165) (.tmp 167) 93 93 rfl _ _ rfl rfl _ _ HR9.out ?_)
      clear HR9
      have HL4 := Lib.hid h4
      clear h4 HL3
      have y2 := St.q2 (HL4.out.pull 2 _ rfl)
      obtain ⟨z0, z1, z2, z3⟩ := (HL4.out.pull 4 _ rfl).cells4
      have hrz := HL4.out.pull 3 (rowHP (.slice (some ⟨gz, 0, none⟩) zs.length cz) zs) rfl
      have r7 := St.elem7 (g := gz) (c := cz) (zs := zs) (i := fi) hrz hzi
      clear hrz
      refine holdPost_normal ⟨y2, r7, z0, z1, z2, z3⟩ ?_
      unfold wpTr
      (try simp only [pickL, List.getElem?_cons_zero, List.getElem?_cons_succ])
      obtain ⟨I16, hs16, hdr16, h16⟩ := HL4.out.freeze_row
      (try simp only [List.eraseIdx_cons_zero, List.eraseIdx_cons_succ] at h16)
      have h17 := h16.drop.pull 1 _ rfl
      obtain ⟨h18, hfz, hgl⟩ := St.row_set (i := fi) (j := 7) (a' := ⟨{ t with wet := t.wet ++ [D] }, dvt, avt, (.slice Aw4 (t.wet.length + 1) cw4)⟩) (v := (.slice Aw4 (t.wet.length + 1) cw4)) h17 (fun _ => rfl) hzi (by omega) rfl
      have hfq := frozen_of_row (h18.pull 1 _ rfl).heap
      have y1 := St.q1 (h18.pull 1 _ rfl)
      have hlq := (h18.pull 1 _ rfl).lt
      have h19 := (h18.pull 1 _ rfl).setCell 1 (.int .i64 (wrap64 (R2.count + 1)))
      have h20 : St W I16 ((wx4.setCell ⟨gz, fi * 8 + 7, none⟩ (.slice Aw4 (t.wet.length + 1) cw4)).setCell ⟨q, 1, none⟩ (.int .i64 (wrap64 (R2.count + 1)))) (refHP q { R2 with l := rput R2.l k D, count := wrap64 (R2.count + 1) } :: l) := by
        have h21 : St W I16 ((wx4.setCell ⟨gz, fi * 8 + 7, none⟩ (.slice Aw4 (t.wet.length + 1) cw4)).setCell ⟨q, 1, none⟩ (.int .i64 (wrap64 (R2.count + 1)))) (HP.pt q (.cells (({ R2 with l := rput R2.l k D, count := wrap64 (R2.count + 1) } : RS).cells (.slice (some ⟨gz, 0, none⟩) zs.length cz) vk) 57) :: rowHP (.slice (some ⟨gz, 0, none⟩) zs.length cz) (zs.set fi ⟨{ t with wet := t.wet ++ [D] }, dvt, avt, (.slice Aw4 (t.wet.length + 1) cw4)⟩) :: HP.pt g5 (.cells #[.int .i64 D.what, .int .i64 D.n, .string D.name, .slice A6 D.p.length c6] 71) :: l) := by
          unfold rowHP
          rw [List.length_set]
          exact h19
        refine St.ref_shut ((h21.pull 2 _ rfl).drop) ?_ ?_ (hkk.mono hs16)
        · have ht' : (radd R2.l k)[(rfind R2.l k).1]? = some t := by rw [HFD.out]; exact HTI.out
          rw [rput_eq ht', HFD.out, List.map_set, hzs]
        · intro z hz
          rcases List.mem_or_eq_of_mem_set hz with hz | rfl
          · exact TZ.ok_mono hs16 (HZ.out z hz)
          · refine ⟨HZT.out.1.mono hs16, ds ++ [(⟨D.what, D.n, D.name, D.p⟩, .slice A6 D.p.length c6)], ?_, ?_, ?_⟩
            · rw [List.map_append, HDS.out]
              rfl
            · have hlen : (t.wet ++ [D]).length = t.wet.length + 1 := by simp
              simp only [hlen, List.flatMap_append]
              exact hdr16
            · intro x hx
              rcases List.mem_append.1 hx with hx | hx
              · exact (HDB.out x hx).mono hs16
              · rw [List.mem_singleton.1 hx]
                exact (HB8.out).mono hs16
      have H20 := Lib.hid h20
      have HS16 := Lib.hid hs16
      clear h16 h17 h18 h19 h20 hdr16 hs16
      go_wp2_with fail
      refine NoPanic.normal ?_
      go_wp2_with fail
      exact HQ.out _ _ _ _ _ _ _ _ _ _ _ _ _ _ _ _ _ _ _ _ _ _ _ _ _ _ _ I16 _ HS16.out H20.out
  · have h1 := HOP.out.alloc (.cells #[.int .i64 D.what, .int .i64 D.n, .string D.name, .slice A6 D.p.length c6] 71)
    go_wp2_with fail
    obtain ⟨wb, hwb⟩ : ∃ x, x = w0.alloc (.cells #[.int .i64 D.what, .int .i64 D.n, .string D.name, .slice A6 D.p.length c6] 71) := ⟨_, rfl⟩
    obtain ⟨gb, hgb⟩ : ∃ x, x = w0.heap.size := ⟨_, rfl⟩
    rw [← hwb, ← hgb] at h1
    rw [← hwb, ← hgb]
    clear hwb hgb
    have HL1 := Lib.hid h1
    clear h1
    have y2 := St.q2 (HL1.out.pull 1 _ rfl)
    obtain ⟨z0, z1, z2, z3⟩ := (HL1.out.pull 3 _ rfl).cells4
    have hrz := HL1.out.pull 2 (rowHP (.slice (some ⟨gz, 0, none⟩) zs.length cz) zs) rfl
    have r7 := St.elem7 (g := gz) (c := cz) (zs := zs) (i := fi) hrz hzi
    clear hrz
    refine holdPost_normal ⟨y2, r7, z0, z1, z2, z3⟩ ?_
    unfold wpTr
    (try simp only [pickL, List.getElem?_cons_zero, List.getElem?_cons_succ])
    have h2 := St.empty_row HL1.out 71 4
    go_wp2_with fail
    obtain ⟨wa, hwa⟩ : ∃ x, x = wb.alloc (.cells #[] 71) := ⟨_, rfl⟩
    obtain ⟨ga, hga⟩ : ∃ x, x = wb.heap.size := ⟨_, rfl⟩
    rw [← hwa, ← hga] at h2
    rw [← hwa, ← hga]
    clear hwa hga
    have HL2 := Lib.hid h2
    clear h2 HL1
    have y2 := St.q2 (HL2.out.pull 2 _ rfl)
    obtain ⟨z0, z1, z2, z3⟩ := (HL2.out.pull 4 _ rfl).cells4
    have hrz := HL2.out.pull 3 (rowHP (.slice (some ⟨gz, 0, none⟩) zs.length cz) zs) rfl
    have r7 := St.elem7 (g := gz) (c := cz) (zs := zs) (i := fi) hrz hzi
    clear hrz
    refine holdPost_normal ⟨y2, r7, z0, z1, z2, z3⟩ ?_
    unfold wpTr
    (try simp only [pickL, List.getElem?_cons_zero, List.getElem?_cons_succ])
    have hsr := RowI.src HDR.out HL2.out.imm (dzs_one HDB.out) (by omega)
    obtain ⟨Aw3, cw3, wx3, hr, h3⟩ := deeds_append3 HL2.out hsr (by omega)
    rw [Nat.zero_add, List.nil_append] at h3
    rw [Nat.zero_add] at hr
    have HR9 := Lib.hid hr
    clear hr hsr
    go_wp2_with (at_builtin; refine Lib.wpList_append_run _ rfl (.tmp 156) (.tmp 164) 93 93 rfl _ _ rfl rfl _ _ HR9.out ?_)
    clear HR9
    have HL3 := Lib.hid h3
    clear h3 HL2
    have y2 := St.q2 (HL3.out.pull 2 _ rfl)
    obtain ⟨z0, z1, z2, z3⟩ := (HL3.out.pull 4 _ rfl).cells4
    have hrz := HL3.out.pull 3 (rowHP (.slice (some ⟨gz, 0, none⟩) zs.length cz) zs) rfl
    have r7 := St.elem7 (g := gz) (c := cz) (zs := zs) (i := fi) hrz hzi
    clear hrz
    refine holdPost_normal ⟨y2, r7, z0, z1, z2, z3⟩ ?_
    unfold wpTr
    (try simp only [pickL, List.getElem?_cons_zero, List.getElem?_cons_succ])
    have hsr := pt_src (k := 4) (HL3.out.pull 1 _ rfl) rfl (dz_one HB8.out (d := ⟨D.what, D.n, D.name, D.p⟩))
    obtain ⟨Aw4, cw4, wx4, hr, h4⟩ := deeds_append3 HL3.out hsr (by omega)
    have HR9 := Lib.hid hr
    clear hr hsr
    go_wp2_with (at_builtin; refine Lib.wpList_append_run _ rfl (.tmp 165) (.tmp 167) 93 93 rfl _ _ rfl rfl _ _ HR9.out ?_)
    clear HR9
    have HL4 := Lib.hid h4
    clear h4 HL3
    have y2 := St.q2 (HL4.out.pull 2 _ rfl)
    obtain ⟨z0, z1, z2, z3⟩ := (HL4.out.pull 4 _ rfl).cells4
    have hrz := HL4.out.pull 3 (rowHP (.slice (some ⟨gz, 0, none⟩) zs.length cz) zs) rfl
    have r7 := St.elem7 (g := gz) (c := cz) (zs := zs) (i := fi) hrz hzi
    clear hrz
    refine holdPost_normal ⟨y2, r7, z0, z1, z2, z3⟩ ?_
    unfold wpTr
    (try simp only [pickL, List.getElem?_cons_zero, List.getElem?_cons_succ])
    obtain ⟨I16, hs16, hdr16, h16⟩ := HL4.out.freeze_row
    (try simp only [List.eraseIdx_cons_zero, List.eraseIdx_cons_succ] at h16)
    have h17 := h16.drop.pull 1 _ rfl
    obtain ⟨h18, hfz, hgl⟩ := St.row_set (i := fi) (j := 7) (a' := ⟨{ t with wet := t.wet ++ [D] }, dvt, avt, (.slice Aw4 (t.wet.length + 1) cw4)⟩) (v := (.slice Aw4 (t.wet.length + 1) cw4)) h17 (fun _ => rfl) hzi (by omega) rfl
    have hfq := frozen_of_row (h18.pull 1 _ rfl).heap
    have y1 := St.q1 (h18.pull 1 _ rfl)
    have hlq := (h18.pull 1 _ rfl).lt
    have h19 := (h18.pull 1 _ rfl).setCell 1 (.int .i64 (wrap64 (R2.count + 1)))
    have h20 : St W I16 ((wx4.setCell ⟨gz, fi * 8 + 7, none⟩ (.slice Aw4 (t.wet.length + 1) cw4)).setCell ⟨q, 1, none⟩ (.int .i64 (wrap64 (R2.count + 1)))) (refHP q { R2 with l := rput R2.l k D, count := wrap64 (R2.count + 1) } :: l) := by
      have h21 : St W I16 ((wx4.setCell ⟨gz, fi * 8 + 7, none⟩ (.slice Aw4 (t.wet.length + 1) cw4)).setCell ⟨q, 1, none⟩ (.int .i64 (wrap64 (R2.count + 1)))) (HP.pt q (.cells (({ R2 with l := rput R2.l k D, count := wrap64 (R2.count + 1) } : RS).cells (.slice (some ⟨gz, 0, none⟩) zs.length cz) vk) 57) :: rowHP (.slice (some ⟨gz, 0, none⟩) zs.length cz) (zs.set fi ⟨{ t with wet := t.wet ++ [D] }, dvt, avt, (.slice Aw4 (t.wet.length + 1) cw4)⟩) :: HP.pt g5 (.cells #[.int .i64 D.what, .int .i64 D.n, .string D.name, .slice A6 D.p.length c6] 71) :: l) := by
        unfold rowHP
        rw [List.length_set]
        exact h19
      refine St.ref_shut ((h21.pull 2 _ rfl).drop) ?_ ?_ (hkk.mono hs16)
      · have ht' : (radd R2.l k)[(rfind R2.l k).1]? = some t := by rw [HFD.out]; exact HTI.out
        rw [rput_eq ht', HFD.out, List.map_set, hzs]
      · intro z hz
        rcases List.mem_or_eq_of_mem_set hz with hz | rfl
        · exact TZ.ok_mono hs16 (HZ.out z hz)
        · refine ⟨HZT.out.1.mono hs16, ds ++ [(⟨D.what, D.n, D.name, D.p⟩, .slice A6 D.p.length c6)], ?_, ?_, ?_⟩
          · rw [List.map_append, HDS.out]
            rfl
          · have hlen : (t.wet ++ [D]).length = t.wet.length + 1 := by simp
            simp only [hlen, List.flatMap_append]
            exact hdr16
          · intro x hx
            rcases List.mem_append.1 hx with hx | hx
            · exact (HDB.out x hx).mono hs16
            · rw [List.mem_singleton.1 hx]
              exact (HB8.out).mono hs16
    have H20 := Lib.hid h20
    have HS16 := Lib.hid hs16
    clear h16 h17 h18 h19 h20 hdr16 hs16
    go_wp2_with fail
    refine NoPanic.normal ?_
    go_wp2_with fail
    exact HQ.out _ _ _ _ _ _ _ _ _ _ _ _ _ _ _ _ _ _ _ _ _ _ _ _ _ _ _ I16 _ HS16.out H20.out
end
end Go.Proofs.YtagljjhfkhadpaaGreat
/- hectographref3: Do, a thing more. -/
namespace Go.Proofs.YtagljjhfkhadpaaGreat
open Go.RowKit
section
variable {W w : World} {I : Hp} {l : List HP} {q : Nat} {R : RS}
set_option maxRecDepth 4000
set_option maxHeartbeats 8000000
theorem do3_add {C : Code} (hC : (Tryz.f29).body.bind (fromR 28) = some C) {Q : Exit → Act → World → Prop} {x1 x2 x3 x5 x6 x7 x9 x10 x11 x12 x13 x14 x15 x16 x17 x18 x19 x20 x21 x22 x23 x24 x25 x26 x27 x28 x29 x30 x31 x32 x33 x34 x35 x36 x37 x38 x39 x40 x41 x42 x43 x44 x45 x46 x47 x48 x49 x50 x51 x52 x53 x54 x55 x56 x57 x58 x59 x60 x61 x62 x63 x64 x65 x66 x67 x68 x69 x70 x71 x72 x73 x74 x75 x76 x77 x78 x79 x80 x81 x82 x83 x84 x85 x86 x87 x88 x89 x90 x91 x92 x93 x94 x95 x96 x97 x98 x99 x100 x101 x102 x103 x104 x105 x106 x107 x108 x109 x110 x111 x112 x113 x114 x115 x116 x117 x118 x119 x120 x121 x122 x123 x124 x125 x126 x127 x128 x129 x130 x131 x132 x133 x134 x135 x136 x137 x138 x139 x140 x141 x142 x143 x144 x145 x146 x147 x148 x149 x150 x151 x152 x153 x154 x155 x156 x157 x158 x159 x160 x161 x162 x163 x164 x165 x166 x167 x168 x169 x170 x171 x172 x173 x174 x175 x176 x177 : Value} (k : K4) {G5 : HP} {c fi g4 : Nat} {R2 : RS}
    (h13 : St W I w (refHP q R2 :: G5 :: l)) (hi : RInv R2 c) (hfd : (rfind R2.l k).1 = fi) (hfo : (rfind R2.l k).2 = false) (hk : I g4 = some (.cells #[.int .i64 k.kind, .int .i64 k.img, .int .i64 k.num, .int .i64 k.snap] 30)) (hrle : fi ≤ R2.l.length)
    (hQ : ∀ (y129 y130 y131 y132 y133 y134 y135 y136 y137 y138 y139 y140 y141 y142 y143 y144 y145 y146 y147 y148 y149 y150 : Value) (I' : Hp) (w' : World), I.sub I' → St W I' w' (refHP q { R2 with l := radd R2.l k } :: G5 :: l) → Q .normal ⟨#[.pointer (some ⟨q, 0, none⟩), x1, x2, x3, .pointer (some ⟨g4, 0, none⟩), x5, x6, x7, .int .i64 (fi : Nat), x9, x10, x11, x12, x13, x14, x15, x16, x17, x18, x19, x20, x21, x22, x23, x24, x25, x26, x27, x28, x29, x30, x31, x32, x33, x34, x35, x36, x37, x38, x39, x40, x41, x42, x43, x44, x45, x46, x47, x48, x49, x50, x51, x52, x53, x54, x55, x56, x57, x58, x59, x60, x61, x62, x63, x64, x65, x66, x67, x68, x69, x70, x71, x72, x73, x74, x75, x76, x77, x78, x79, x80, x81, x82, x83, x84, x85, x86, x87, x88, x89, x90, x91, x92, x93, x94, x95, x96, x97, x98, x99, x100, x101, x102, x103, x104, x105, x106, x107, x108, x109, x110, x111, x112, x113, x114, x115, x116, x117, x118, x119, x120, x121, x122, x123, x124, x125, x126, x127, x128, y129, y130, y131, y132, y133, y134, y135, y136, y137, y138, y139, y140, y141, y142, y143, y144, y145, y146, y147, y148, y149, y150, x151, x152, x153, x154, x155, x156, x157, x158, x159, x160, x161, x162, x163, x164, x165, x166, x167, x168, x169, x170, x171, x172, x173, x174, x175, x176, x177], []⟩ w') :
    C.wp Tryz.prog Q ⟨#[.pointer (some ⟨q, 0, none⟩), x1, x2, x3, .pointer (some ⟨g4, 0, none⟩), x5, x6, x7, .int .i64 (fi : Nat), x9, x10, x11, x12, x13, x14, x15, x16, x17, x18, x19, x20, x21, x22, x23, x24, x25, x26, x27, x28, x29, x30, x31, x32, x33, x34, x35, x36, x37, x38, x39, x40, x41, x42, x43, x44, x45, x46, x47, x48, x49, x50, x51, x52, x53, x54, x55, x56, x57, x58, x59, x60, x61, x62, x63, x64, x65, x66, x67, x68, x69, x70, x71, x72, x73, x74, x75, x76, x77, x78, x79, x80, x81, x82, x83, x84, x85, x86, x87, x88, x89, x90, x91, x92, x93, x94, x95, x96, x97, x98, x99, x100, x101, x102, x103, x104, x105, x106, x107, x108, x109, x110, x111, x112, x113, x114, x115, x116, x117, x118, x119, x120, x121, x122, x123, x124, x125, x126, x127, x128, x129, x130, x131, x132, x133, x134, x135, x136, x137, x138, x139, x140, x141, x142, x143, x144, x145, x146, x147, x148, x149, x150, x151, x152, x153, x154, x155, x156, x157, x158, x159, x160, x161, x162, x163, x164, x165, x166, x167, x168, x169, x170, x171, x172, x173, x174, x175, x176, x177], []⟩ w := by
  injection hC with hC
  subst hC
  have HQ := Lib.hid hQ
  have HI2 := Lib.hid hi
  have HFD := Lib.hid hfd
  have HFO := Lib.hid hfo
  have HI13 := Lib.hid hk
  clear hQ hi hfd hfo hk
  obtain ⟨zs, vl, vk, hzs, hz, hkk, hop⟩ := h13.drew.ref_open
  have hzl : zs.length = R2.l.length := by rw [← hzs, List.length_map]
  obtain ⟨Al, cl, e1, hcl⟩ := (hop.pull 1 _ rfl).row_slice (mk := TZ.cells)
  subst e1
  obtain ⟨x0, x1, x2, x3⟩ := imm_cells4 hop HI13.out
  have y2 := cells_of hop.heap 2
  simp [RS.cells] at y2
  have hlq := hop.lt
  have HOP := Lib.hid hop
  have HZ : Hid (∀ z ∈ zs, z.ok I) := Lib.hid hz
  have hmz : zs.length ≤ 100000 := by have := HI2.out.len; have := HI2.out.most; omega
  clear hop hz h13
  have hic : fi ≤ cl := by omega
  have hil : fi ≤ zs.length := by omega
  clear hzl
  go_upto_region 28 with fail
  refine wp_region_tree (fun w' => w'.cell? ⟨q, 2, none⟩ = some (.slice Al zs.length cl) ∧ w'.cell? ⟨g4, 0, none⟩ = some (.int .i64 k.kind) ∧ w'.cell? ⟨g4, 1, none⟩ = some (.int .i64 k.img) ∧ w'.cell? ⟨g4, 2, none⟩ = some (.int .i64 k.num) ∧ w'.cell? ⟨g4, 3, none⟩ = some (.int .i64 k.snap)) [0, 2, 3, 4, 5, 6, 7, 9, 10, 13, 14, 15, 16, 17, 18] [1, 8, 11, 12, 19] (Tr.two 1 (Tr.two 8 (Tr.one 11 (Tr.one 12 (Tr.one 19 Tr.leaf))) 11 (Tr.one 8 (Tr.one 12 (Tr.one 19 Tr.leaf)))) 11 (Tr.one 1 (Tr.one 8 (Tr.one 12 (Tr.one 19 Tr.leaf))))) [20, 21, 22] (by kernel_rfl) (by kernel_rfl) (by (exact ⟨y2, x0, x1, x2, x3⟩)) ?_
  simp only [pickL, List.getElem?_cons_zero, List.getElem?_cons_succ]
  repeat (first | (refine wpFirst_step _ (Or.inl ⟨by rfl, by (intro w hSw; (try dsimp only at hSw); go_simp; try with_reducible rfl)⟩) ?_; (try simp only [Act.put, List.setIfInBounds_toArray, List.set_cons_zero, List.set_cons_succ])) | (refine wpFirst_step _ (Or.inr ⟨by rfl, rfl⟩) ?_; (try simp only [Act.put, List.setIfInBounds_toArray, List.set_cons_zero, List.set_cons_succ])) | fail)
  refine wpFirst_nil ?_
  unfold wpTr
  simp only [pickL, List.getElem?_cons_zero, List.getElem?_cons_succ]
  clear x0 x1 x2 x3 y2
  obtain ⟨AX, hAX⟩ : ∃ x, x = (if cl = fi then Al else Option.map (fun x => x.add (fi * 8)) Al) := ⟨_, rfl⟩
  rw [← hAX]
  have HAX := Lib.hid hAX
  clear hAX
  obtain ⟨w0, hw0⟩ : ∃ x, x = w.drew := ⟨_, rfl⟩
  rw [← hw0] at HOP ⊢
  clear hw0
  refine ⟨?_, ?_⟩
  · have h1 := St.empty_row HOP.out 95 8
    go_wp2_with fail
    obtain ⟨wa, hwa⟩ : ∃ x, x = w0.alloc (.cells #[] 95) := ⟨_, rfl⟩
    obtain ⟨ga, hga⟩ : ∃ x, x = w0.heap.size := ⟨_, rfl⟩
    rw [← hwa, ← hga] at h1
    rw [← hwa, ← hga]
    clear hwa hga
    have HL1 := Lib.hid h1
    clear h1
    obtain ⟨x0, x1, x2, x3⟩ := imm_cells4 (((HL1.out).pull 1 _ rfl)) HI13.out
    have y2 := St.q2 (((HL1.out).pull 1 _ rfl))
    refine holdPost_normal ⟨y2, x0, x1, x2, x3⟩ ?_
    unfold wpTr
    (try simp only [pickL, List.getElem?_cons_zero, List.getElem?_cons_succ])
    refine ⟨?_, ?_⟩
    · have hsr := src_take (St.row_src (HL1.out.pull 2 _ rfl) (tzs_one HZ.out)) hil
      obtain ⟨Aw2, cw2, wx2, hr, h2⟩ := things_append HL1.out hsr (by omega)
      rw [Nat.zero_add, List.nil_append] at h2
      rw [Nat.zero_add] at hr
      have HR := Lib.hid hr
      clear hr hsr
      go_wp2_with (at_builtin; refine Lib.wpList_append_run _ rfl (.tmp 130) (.tmp 136) 55 55 rfl _ _ rfl rfl _ _ HR.out ?_)
      clear HR
      have HL2 := Lib.hid h2
      clear h2 HL1
      obtain ⟨x0, x1, x2, x3⟩ := imm_cells4 (((HL2.out).pull 1 _ rfl)) HI13.out
      have y2 := St.q2 (((HL2.out).pull 1 _ rfl))
      refine holdPost_normal ⟨y2, x0, x1, x2, x3⟩ ?_
      unfold wpTr
      (try simp only [pickL, List.getElem?_cons_zero, List.getElem?_cons_succ])
      have h3 := HL2.out.alloc (.cells #[.int .i64 k.kind, .int .i64 k.img, .int .i64 k.num, .int .i64 k.snap, .bool false, .slice none 0 0, .slice none 0 0, .slice none 0 0] 95)
      go_wp2_with fail
      obtain ⟨wb, hwb⟩ : ∃ x, x = wx2.alloc (.cells #[.int .i64 k.kind, .int .i64 k.img, .int .i64 k.num, .int .i64 k.snap, .bool false, .slice none 0 0, .slice none 0 0, .slice none 0 0] 95) := ⟨_, rfl⟩
      obtain ⟨gb, hgb⟩ : ∃ x, x = wx2.heap.size := ⟨_, rfl⟩
      rw [← hwb, ← hgb] at h3
      rw [← hwb, ← hgb]
      clear hwb hgb
      have h3 := h3.pull 1 _ rfl
      simp only [List.eraseIdx_cons_zero, List.eraseIdx_cons_succ] at h3
      have HL3 := Lib.hid h3
      clear h3 HL2
      obtain ⟨x0, x1, x2, x3⟩ := imm_cells4 (((HL3.out).pull 2 _ rfl)) HI13.out
      have y2 := St.q2 (((HL3.out).pull 2 _ rfl))
      refine holdPost_normal ⟨y2, x0, x1, x2, x3⟩ ?_
      unfold wpTr
      (try simp only [pickL, List.getElem?_cons_zero, List.getElem?_cons_succ])
      have hsr := pt_src (k := 8) (HL3.out.pull 1 _ rfl) rfl (tz_one (I := I) (z := (⟨⟨k, RB.no, []⟩, .slice none 0 0, .slice none 0 0, .slice none 0 0⟩ : TZ)) ⟨⟨bytes_nil _, attrs_nil _⟩, deeds3_nil _⟩)
      obtain ⟨Aw4, cw4, wx4, hr, h4⟩ := things_append HL3.out hsr (by omega)
      have HR := Lib.hid hr
      clear hr hsr
      go_wp2_with (at_builtin; refine Lib.wpList_append_run _ rfl (.tmp 137) (.tmp 140) 55 55 rfl _ _ rfl rfl _ _ HR.out ?_)
      clear HR
      have HL4 := Lib.hid h4
      clear h4 HL3
      obtain ⟨x0, x1, x2, x3⟩ := imm_cells4 (((HL4.out).pull 2 _ rfl)) HI13.out
      have y2 := St.q2 (((HL4.out).pull 2 _ rfl))
      refine holdPost_normal ⟨y2, x0, x1, x2, x3⟩ ?_
      unfold wpTr
      (try simp only [pickL, List.getElem?_cons_zero, List.getElem?_cons_succ])
      have hsr := sliced_src (lo := fi) (hi := zs.length) (St.row_src (HL4.out.pull 3 _ rfl) (tzs_one HZ.out)) hcl hil (Nat.le_refl _)
      unfold sliced at hsr
      rw [← HAX.out] at hsr
      obtain ⟨Aw5, cw5, wx5, hr, h5⟩ := things_append HL4.out hsr (by omega)
      have HR := Lib.hid hr
      clear hr hsr
      go_wp2_with (at_builtin; refine Lib.wpList_append_run _ rfl (.tmp 141) (.tmp 147) 55 55 rfl _ _ rfl rfl _ _ HR.out ?_)
      clear HR
      have HL5 := Lib.hid h5
      clear h5 HL4
      obtain ⟨x0, x1, x2, x3⟩ := imm_cells4 (((HL5.out).pull 2 _ rfl)) HI13.out
      have y2 := St.q2 (((HL5.out).pull 2 _ rfl))
      refine holdPost_normal ⟨y2, x0, x1, x2, x3⟩ ?_
      unfold wpTr
      (try simp only [pickL, List.getElem?_cons_zero, List.getElem?_cons_succ])
      have hfl : fi + 1 + (zs.length - fi) = (zs.take fi ++ [(⟨⟨k, RB.no, []⟩, .slice none 0 0, .slice none 0 0, .slice none 0 0⟩ : TZ)] ++ zs.drop fi).length := by
        rw [List.length_append, List.length_append, List.length_take, List.length_drop, List.length_singleton]; omega
      have hfx : (zs.flatMap TZ.cells).take (fi * 8) ++ (#[.int .i64 k.kind, .int .i64 k.img, .int .i64 k.num, .int .i64 k.snap, .bool false, .slice none 0 0, .slice none 0 0, .slice none 0 0] : Array Value).toList ++ ((zs.flatMap TZ.cells).drop (fi * 8)).take ((zs.length - fi) * 8) = (zs.take fi ++ [(⟨⟨k, RB.no, []⟩, .slice none 0 0, .slice none 0 0, .slice none 0 0⟩ : TZ)] ++ zs.drop fi).flatMap TZ.cells := by
        have e2 : ((zs.flatMap TZ.cells).drop (fi * 8)).take ((zs.length - fi) * 8) = (zs.drop fi).flatMap TZ.cells := by
          rw [flat_drop (k := 8) (fun _ => rfl)]
          exact List.take_of_length_le (by rw [flatz_len (k := 8) (fun _ => rfl), List.length_drop]; omega)
        rw [flat_take (k := 8) (fun _ => rfl), e2, List.flatMap_append, List.flatMap_append]
        rfl
      have hfin := (((HL5.out.pull 1 _ rfl).drop.pull 1 _ rfl).setCell 2 (.slice Aw5 (fi + 1 + (zs.length - fi)) cw5))
      have hfin2 := ((hfin.pull 2 _ rfl).drop)
      rw [hfx] at hfin2
      have hfr := frozen_of_row ((HL5.out.pull 2 _ rfl).heap)
      have hfin3 : St W I (wx5.setCell ⟨q, 2, none⟩ (.slice Aw5 (fi + 1 + (zs.length - fi)) cw5)) (refHP q { R2 with l := radd R2.l k } :: G5 :: l) := by
        refine St.ref_shut (R := { R2 with l := radd R2.l k }) (zs := zs.take fi ++ [⟨⟨k, RB.no, []⟩, .slice none 0 0, .slice none 0 0, .slice none 0 0⟩] ++ zs.drop fi) (vl := .slice Aw5 (fi + 1 + (zs.length - fi)) cw5) (vk := vk) ?_ ?_ ?_ hkk
        · rw [hfl] at hfin2 ⊢
          exact hfin2
        · rw [radd, if_neg (by rw [HFO.out]; simp), HFD.out, ← hzs, List.map_append, List.map_append, List.map_take, List.map_drop]; rfl
        · intro z hz
          rcases List.mem_append.1 hz with hz | hz
          · rcases List.mem_append.1 hz with hz | hz
            · exact HZ.out z (List.mem_of_mem_take hz)
            · rw [List.mem_singleton.1 hz]
              exact ⟨⟨bytes_nil _, attrs_nil _⟩, deeds3_nil _⟩
          · exact HZ.out z (List.mem_of_mem_drop hz)
      have HFIN := Lib.hid hfin3
      clear hfin hfin2 hfin3 hfl hfx
      go_wp2_with fail
      refine NoPanic.normal ?_
      go_wp2_with fail
      exact HQ.out _ _ _ _ _ _ _ _ _ _ _ _ _ _ _ _ _ _ _ _ _ _ I _ (Hp.sub.refl _) HFIN.out
    · have h2 := HL1.out.alloc (.cells #[.int .i64 k.kind, .int .i64 k.img, .int .i64 k.num, .int .i64 k.snap, .bool false, .slice none 0 0, .slice none 0 0, .slice none 0 0] 95)
      go_wp2_with fail
      obtain ⟨wb, hwb⟩ : ∃ x, x = wa.alloc (.cells #[.int .i64 k.kind, .int .i64 k.img, .int .i64 k.num, .int .i64 k.snap, .bool false, .slice none 0 0, .slice none 0 0, .slice none 0 0] 95) := ⟨_, rfl⟩
      obtain ⟨gb, hgb⟩ : ∃ x, x = wa.heap.size := ⟨_, rfl⟩
      rw [← hwb, ← hgb] at h2
      rw [← hwb, ← hgb]
      clear hwb hgb
      have h2 := h2.pull 1 _ rfl
      simp only [List.eraseIdx_cons_zero, List.eraseIdx_cons_succ] at h2
      have HL2 := Lib.hid h2
      clear h2 HL1
      obtain ⟨x0, x1, x2, x3⟩ := imm_cells4 (((HL2.out).pull 2 _ rfl)) HI13.out
      have y2 := St.q2 (((HL2.out).pull 2 _ rfl))
      refine holdPost_normal ⟨y2, x0, x1, x2, x3⟩ ?_
      unfold wpTr
      (try simp only [pickL, List.getElem?_cons_zero, List.getElem?_cons_succ])
      have hsr := src_take (St.row_src (HL2.out.pull 3 _ rfl) (tzs_one HZ.out)) hil
      obtain ⟨Aw3, cw3, wx3, hr, h3⟩ := things_append HL2.out hsr (by omega)
      rw [Nat.zero_add, List.nil_append] at h3
      rw [Nat.zero_add] at hr
      have HR := Lib.hid hr
      clear hr hsr
      go_wp2_with (at_builtin; refine Lib.wpList_append_run _ rfl (.tmp 130) (.tmp 136) 55 55 rfl _ _ rfl rfl _ _ HR.out ?_)
      clear HR
      have HL3 := Lib.hid h3
      clear h3 HL2
      obtain ⟨x0, x1, x2, x3⟩ := imm_cells4 (((HL3.out).pull 2 _ rfl)) HI13.out
      have y2 := St.q2 (((HL3.out).pull 2 _ rfl))
      refine holdPost_normal ⟨y2, x0, x1, x2, x3⟩ ?_
      unfold wpTr
      (try simp only [pickL, List.getElem?_cons_zero, List.getElem?_cons_succ])
      have hsr := pt_src (k := 8) (HL3.out.pull 1 _ rfl) rfl (tz_one (I := I) (z := (⟨⟨k, RB.no, []⟩, .slice none 0 0, .slice none 0 0, .slice none 0 0⟩ : TZ)) ⟨⟨bytes_nil _, attrs_nil _⟩, deeds3_nil _⟩)
      obtain ⟨Aw4, cw4, wx4, hr, h4⟩ := things_append HL3.out hsr (by omega)
      have HR := Lib.hid hr
      clear hr hsr
      go_wp2_with (at_builtin; refine Lib.wpList_append_run _ rfl (.tmp 137) (.tmp 140) 55 55 rfl _ _ rfl rfl _ _ HR.out ?_)
      clear HR
      have HL4 := Lib.hid h4
      clear h4 HL3
      obtain ⟨x0, x1, x2, x3⟩ := imm_cells4 (((HL4.out).pull 2 _ rfl)) HI13.out
      have y2 := St.q2 (((HL4.out).pull 2 _ rfl))
      refine holdPost_normal ⟨y2, x0, x1, x2, x3⟩ ?_
      unfold wpTr
      (try simp only [pickL, List.getElem?_cons_zero, List.getElem?_cons_succ])
      have hsr := sliced_src (lo := fi) (hi := zs.length) (St.row_src (HL4.out.pull 3 _ rfl) (tzs_one HZ.out)) hcl hil (Nat.le_refl _)
      unfold sliced at hsr
      rw [← HAX.out] at hsr
      obtain ⟨Aw5, cw5, wx5, hr, h5⟩ := things_append HL4.out hsr (by omega)
      have HR := Lib.hid hr
      clear hr hsr
      go_wp2_with (at_builtin; refine Lib.wpList_append_run _ rfl (.tmp 141) (.tmp 147) 55 55 rfl _ _ rfl rfl _ _ HR.out ?_)
      clear HR
      have HL5 := Lib.hid h5
      clear h5 HL4
      obtain ⟨x0, x1, x2, x3⟩ := imm_cells4 (((HL5.out).pull 2 _ rfl)) HI13.out
      have y2 := St.q2 (((HL5.out).pull 2 _ rfl))
      refine holdPost_normal ⟨y2, x0, x1, x2, x3⟩ ?_
      unfold wpTr
      (try simp only [pickL, List.getElem?_cons_zero, List.getElem?_cons_succ])
      have hfl : fi + 1 + (zs.length - fi) = (zs.take fi ++ [(⟨⟨k, RB.no, []⟩, .slice none 0 0, .slice none 0 0, .slice none 0 0⟩ : TZ)] ++ zs.drop fi).length := by
        rw [List.length_append, List.length_append, List.length_take, List.length_drop, List.length_singleton]; omega
      have hfx : (zs.flatMap TZ.cells).take (fi * 8) ++ (#[.int .i64 k.kind, .int .i64 k.img, .int .i64 k.num, .int .i64 k.snap, .bool false, .slice none 0 0, .slice none 0 0, .slice none 0 0] : Array Value).toList ++ ((zs.flatMap TZ.cells).drop (fi * 8)).take ((zs.length - fi) * 8) = (zs.take fi ++ [(⟨⟨k, RB.no, []⟩, .slice none 0 0, .slice none 0 0, .slice none 0 0⟩ : TZ)] ++ zs.drop fi).flatMap TZ.cells := by
        have e2 : ((zs.flatMap TZ.cells).drop (fi * 8)).take ((zs.length - fi) * 8) = (zs.drop fi).flatMap TZ.cells := by
          rw [flat_drop (k := 8) (fun _ => rfl)]
          exact List.take_of_length_le (by rw [flatz_len (k := 8) (fun _ => rfl), List.length_drop]; omega)
        rw [flat_take (k := 8) (fun _ => rfl), e2, List.flatMap_append, List.flatMap_append]
        rfl
      have hfin := (((HL5.out.pull 1 _ rfl).drop.pull 1 _ rfl).setCell 2 (.slice Aw5 (fi + 1 + (zs.length - fi)) cw5))
      have hfin2 := ((hfin.pull 2 _ rfl).drop)
      rw [hfx] at hfin2
      have hfr := frozen_of_row ((HL5.out.pull 2 _ rfl).heap)
      have hfin3 : St W I (wx5.setCell ⟨q, 2, none⟩ (.slice Aw5 (fi + 1 + (zs.length - fi)) cw5)) (refHP q { R2 with l := radd R2.l k } :: G5 :: l) := by
        refine St.ref_shut (R := { R2 with l := radd R2.l k }) (zs := zs.take fi ++ [⟨⟨k, RB.no, []⟩, .slice none 0 0, .slice none 0 0, .slice none 0 0⟩] ++ zs.drop fi) (vl := .slice Aw5 (fi + 1 + (zs.length - fi)) cw5) (vk := vk) ?_ ?_ ?_ hkk
        · rw [hfl] at hfin2 ⊢
          exact hfin2
        · rw [radd, if_neg (by rw [HFO.out]; simp), HFD.out, ← hzs, List.map_append, List.map_append, List.map_take, List.map_drop]; rfl
        · intro z hz
          rcases List.mem_append.1 hz with hz | hz
          · rcases List.mem_append.1 hz with hz | hz
            · exact HZ.out z (List.mem_of_mem_take hz)
            · rw [List.mem_singleton.1 hz]
              exact ⟨⟨bytes_nil _, attrs_nil _⟩, deeds3_nil _⟩
          · exact HZ.out z (List.mem_of_mem_drop hz)
      have HFIN := Lib.hid hfin3
      clear hfin hfin2 hfin3 hfl hfx
      go_wp2_with fail
      refine NoPanic.normal ?_
      go_wp2_with fail
      exact HQ.out _ _ _ _ _ _ _ _ _ _ _ _ _ _ _ _ _ _ _ _ _ _ I _ (Hp.sub.refl _) HFIN.out
  · have h1 := HOP.out.alloc (.cells #[.int .i64 k.kind, .int .i64 k.img, .int .i64 k.num, .int .i64 k.snap, .bool false, .slice none 0 0, .slice none 0 0, .slice none 0 0] 95)
    go_wp2_with fail
    obtain ⟨wb, hwb⟩ : ∃ x, x = w0.alloc (.cells #[.int .i64 k.kind, .int .i64 k.img, .int .i64 k.num, .int .i64 k.snap, .bool false, .slice none 0 0, .slice none 0 0, .slice none 0 0] 95) := ⟨_, rfl⟩
    obtain ⟨gb, hgb⟩ : ∃ x, x = w0.heap.size := ⟨_, rfl⟩
    rw [← hwb, ← hgb] at h1
    rw [← hwb, ← hgb]
    clear hwb hgb
    have HL1 := Lib.hid h1
    clear h1
    obtain ⟨x0, x1, x2, x3⟩ := imm_cells4 (((HL1.out).pull 1 _ rfl)) HI13.out
    have y2 := St.q2 (((HL1.out).pull 1 _ rfl))
    refine holdPost_normal ⟨y2, x0, x1, x2, x3⟩ ?_
    unfold wpTr
    (try simp only [pickL, List.getElem?_cons_zero, List.getElem?_cons_succ])
    have h2 := St.empty_row HL1.out 95 8
    go_wp2_with fail
    obtain ⟨wa, hwa⟩ : ∃ x, x = wb.alloc (.cells #[] 95) := ⟨_, rfl⟩
    obtain ⟨ga, hga⟩ : ∃ x, x = wb.heap.size := ⟨_, rfl⟩
    rw [← hwa, ← hga] at h2
    rw [← hwa, ← hga]
    clear hwa hga
    have HL2 := Lib.hid h2
    clear h2 HL1
    obtain ⟨x0, x1, x2, x3⟩ := imm_cells4 (((HL2.out).pull 2 _ rfl)) HI13.out
    have y2 := St.q2 (((HL2.out).pull 2 _ rfl))
    refine holdPost_normal ⟨y2, x0, x1, x2, x3⟩ ?_
    unfold wpTr
    (try simp only [pickL, List.getElem?_cons_zero, List.getElem?_cons_succ])
    have hsr := src_take (St.row_src (HL2.out.pull 3 _ rfl) (tzs_one HZ.out)) hil
    obtain ⟨Aw3, cw3, wx3, hr, h3⟩ := things_append HL2.out hsr (by omega)
    rw [Nat.zero_add, List.nil_append] at h3
    rw [Nat.zero_add] at hr
    have HR := Lib.hid hr
    clear hr hsr
    go_wp2_with (at_builtin; refine Lib.wpList_append_run _ rfl (.tmp 130) (.tmp 136) 55 55 rfl _ _ rfl rfl _ _ HR.out ?_)
    clear HR
    have HL3 := Lib.hid h3
    clear h3 HL2
    obtain ⟨x0, x1, x2, x3⟩ := imm_cells4 (((HL3.out).pull 2 _ rfl)) HI13.out
    have y2 := St.q2 (((HL3.out).pull 2 _ rfl))
    refine holdPost_normal ⟨y2, x0, x1, x2, x3⟩ ?_
    unfold wpTr
    (try simp only [pickL, List.getElem?_cons_zero, List.getElem?_cons_succ])
    have hsr := pt_src (k := 8) (HL3.out.pull 1 _ rfl) rfl (tz_one (I := I) (z := (⟨⟨k, RB.no, []⟩, .slice none 0 0, .slice none 0 0, .slice none 0 0⟩ : TZ)) ⟨⟨bytes_nil _, attrs_nil _⟩, deeds3_nil _⟩)
    obtain ⟨Aw4, cw4, wx4, hr, h4⟩ := things_append HL3.out hsr (by omega)
    have HR := Lib.hid hr
    clear hr hsr
    go_wp2_with (at_builtin; refine Lib.wpList_append_run _ rfl (.tmp 137) (.tmp 140) 55 55 rfl _ _ rfl rfl _ _ HR.out ?_)
    clear HR
    have HL4 := Lib.hid h4
    clear h4 HL3
    obtain ⟨x0, x1, x2, x3⟩ := imm_cells4 (((HL4.out).pull 2 _ rfl)) HI13.out
    have y2 := St.q2 (((HL4.out).pull 2 _ rfl))
    refine holdPost_normal ⟨y2, x0, x1, x2, x3⟩ ?_
    unfold wpTr
    (try simp only [pickL, List.getElem?_cons_zero, List.getElem?_cons_succ])
    have hsr := sliced_src (lo := fi) (hi := zs.length) (St.row_src (HL4.out.pull 3 _ rfl) (tzs_one HZ.out)) hcl hil (Nat.le_refl _)
    unfold sliced at hsr
    rw [← HAX.out] at hsr
    obtain ⟨Aw5, cw5, wx5, hr, h5⟩ := things_append HL4.out hsr (by omega)
    have HR := Lib.hid hr
    clear hr hsr
    go_wp2_with (at_builtin; refine Lib.wpList_append_run _ rfl (.tmp 141) (.tmp 147) 55 55 rfl _ _ rfl rfl _ _ HR.out ?_)
    clear HR
    have HL5 := Lib.hid h5
    clear h5 HL4
    obtain ⟨x0, x1, x2, x3⟩ := imm_cells4 (((HL5.out).pull 2 _ rfl)) HI13.out
    have y2 := St.q2 (((HL5.out).pull 2 _ rfl))
    refine holdPost_normal ⟨y2, x0, x1, x2, x3⟩ ?_
    unfold wpTr
    (try simp only [pickL, List.getElem?_cons_zero, List.getElem?_cons_succ])
    have hfl : fi + 1 + (zs.length - fi) = (zs.take fi ++ [(⟨⟨k, RB.no, []⟩, .slice none 0 0, .slice none 0 0, .slice none 0 0⟩ : TZ)] ++ zs.drop fi).length := by
      rw [List.length_append, List.length_append, List.length_take, List.length_drop, List.length_singleton]; omega
    have hfx : (zs.flatMap TZ.cells).take (fi * 8) ++ (#[.int .i64 k.kind, .int .i64 k.img, .int .i64 k.num, .int .i64 k.snap, .bool false, .slice none 0 0, .slice none 0 0, .slice none 0 0] : Array Value).toList ++ ((zs.flatMap TZ.cells).drop (fi * 8)).take ((zs.length - fi) * 8) = (zs.take fi ++ [(⟨⟨k, RB.no, []⟩, .slice none 0 0, .slice none 0 0, .slice none 0 0⟩ : TZ)] ++ zs.drop fi).flatMap TZ.cells := by
      have e2 : ((zs.flatMap TZ.cells).drop (fi * 8)).take ((zs.length - fi) * 8) = (zs.drop fi).flatMap TZ.cells := by
        rw [flat_drop (k := 8) (fun _ => rfl)]
        exact List.take_of_length_le (by rw [flatz_len (k := 8) (fun _ => rfl), List.length_drop]; omega)
      rw [flat_take (k := 8) (fun _ => rfl), e2, List.flatMap_append, List.flatMap_append]
      rfl
    have hfin := (((HL5.out.pull 1 _ rfl).drop.pull 1 _ rfl).setCell 2 (.slice Aw5 (fi + 1 + (zs.length - fi)) cw5))
    have hfin2 := ((hfin.pull 2 _ rfl).drop)
    rw [hfx] at hfin2
    have hfr := frozen_of_row ((HL5.out.pull 2 _ rfl).heap)
    have hfin3 : St W I (wx5.setCell ⟨q, 2, none⟩ (.slice Aw5 (fi + 1 + (zs.length - fi)) cw5)) (refHP q { R2 with l := radd R2.l k } :: G5 :: l) := by
      refine St.ref_shut (R := { R2 with l := radd R2.l k }) (zs := zs.take fi ++ [⟨⟨k, RB.no, []⟩, .slice none 0 0, .slice none 0 0, .slice none 0 0⟩] ++ zs.drop fi) (vl := .slice Aw5 (fi + 1 + (zs.length - fi)) cw5) (vk := vk) ?_ ?_ ?_ hkk
      · rw [hfl] at hfin2 ⊢
        exact hfin2
      · rw [radd, if_neg (by rw [HFO.out]; simp), HFD.out, ← hzs, List.map_append, List.map_append, List.map_take, List.map_drop]; rfl
      · intro z hz
        rcases List.mem_append.1 hz with hz | hz
        · rcases List.mem_append.1 hz with hz | hz
          · exact HZ.out z (List.mem_of_mem_take hz)
          · rw [List.mem_singleton.1 hz]
            exact ⟨⟨bytes_nil _, attrs_nil _⟩, deeds3_nil _⟩
        · exact HZ.out z (List.mem_of_mem_drop hz)
    have HFIN := Lib.hid hfin3
    clear hfin hfin2 hfin3 hfl hfx
    go_wp2_with fail
    refine NoPanic.normal ?_
    go_wp2_with fail
    exact HQ.out _ _ _ _ _ _ _ _ _ _ _ _ _ _ _ _ _ _ _ _ _ _ I _ (Hp.sub.refl _) HFIN.out
end
end Go.Proofs.YtagljjhfkhadpaaGreat
