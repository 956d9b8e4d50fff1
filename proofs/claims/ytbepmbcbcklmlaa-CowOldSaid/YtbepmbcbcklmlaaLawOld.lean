/- CowOld: the walk. -/
import Derived.Test.YtbepmbcbcklmlaaCowStart
import Derived.Test.YtbepmbcbcklmlaaKnown17
import Derived.Test.YtbepmbcbcklmlaaArgs17
import Derived.Deep.CutRange
set_option linter.unusedSimpArgs false
set_option linter.unusedVariables false
set_option linter.unusedSectionVars false
namespace Go.Proofs.Ytbepmbcbcklmlaa
open Go.RowKit
section
variable {W w : World} {I : Hp} {l : List HP} {p : Nat} {S : Str}
set_option maxRecDepth 4000
set_option maxHeartbeats 8000000
/-- Region 35: each object at the mark. -/
theorem old_marks {a b : Code} {Q : Exit → Act → World → Prop} {K : Act → World → Prop} (hK : ∀ x y, b.wp Try.prog Q x y → K x y) (hC : (Try.f4).body.bind (fromR 35) = some (.seq a b)) {x0 x1 x3 x4 x5 x6 x7 x8 x9 x10 x11 x12 x14 x15 x18 x19 x20 x21 x22 x23 x24 x25 x26 x27 x28 x29 x30 x31 x32 x33 x34 x35 x36 x37 x38 x39 x40 x41 x42 x43 x44 x45 x46 x47 x48 x49 x50 x51 x52 x53 x54 x55 x56 x57 x58 x59 x60 x61 x62 x63 x64 x65 x66 x67 x68 x69 x70 x71 x72 x73 x74 x75 x76 x77 x78 x79 x80 x81 x82 x83 x84 x85 x86 x87 x88 x89 x90 x91 x92 x93 x94 x95 x96 x97 x98 x99 x100 x101 x102 x103 x104 x105 x106 x107 x108 x109 x110 x111 x112 x113 x114 x115 x116 x117 x118 x119 x120 x121 x122 x123 x124 x125 x126 x127 x128 x129 x130 x131 x132 x133 x134 x135 x136 x137 x138 x139 x140 x141 x142 x143 x144 x145 x146 x147 x148 x149 x150 x151 x152 x153 x154 x155 x156 x157 x158 x159 x160 x161 x162 x163 x164 x165 x166 x167 x168 x169 x170 x171 x172 x173 x174 x175 x176 x177 x178 x179 x180 x181 x182 x183 x184 x185 x186 x187 x188 x189 x190 x191 x192 x193 x194 x195 : Value} {bw bt : Nat} {cw ct : Array Value} {tw tt : TypeId} {mark : Int} {v : Int → Option (List Int)} {m : Nat}
    (h : St W I w (storeHP p S :: l)) (hkS : Inv S m) (h0 : 0 < mark ∧ mark ≤ 8) (hl : Live U17 S) (ho : Olds S mark v)
    (hw : I bw = some (.cells cw tw)) (ht : I bt = some (.cells ct tt)) (hwc : ∀ i : Nat, i < 4 → cw[i]? = some (.string (strOfNums (padB ((v i).getD []) 0 64)))) (htc : ∀ i : Nat, i < 4 → ct[i]? = some (.bool (v i).isSome))
    (hQ : ∀ (y12 y23 y24 y25 y26 y27 y154 y155 y156 y157 y158 y159 y160 y161 y162 y163 y164 y165 y166 y167 y168 y169 y170 y171 y172 y173 y174 y175 y176 y177 y178 y179 y180 y181 y182 y183 y184 y185 y186 y187 y188 y189 y190 y191 y192 y193 y194 : Value) (I' : Hp) (w' : World), I.sub I' → St W I' w' (storeHP p S :: l) → Q .normal ⟨#[x0, x1, .int .i64 mark, x3, x4, x5, x6, x7, x8, x9, x10, x11, y12, .pointer (some ⟨p, 0, none⟩), x14, x15, .slice (some ⟨bw, 0, none⟩) 4 4, .slice (some ⟨bt, 0, none⟩) 4 4, x18, x19, x20, x21, x22, y23, y24, y25, y26, y27, x28, x29, x30, x31, x32, x33, x34, x35, x36, x37, x38, x39, x40, x41, x42, x43, x44, x45, x46, x47, x48, x49, x50, x51, x52, x53, x54, x55, x56, x57, x58, x59, x60, x61, x62, x63, x64, x65, x66, x67, x68, x69, x70, x71, x72, x73, x74, x75, x76, x77, x78, x79, x80, x81, x82, x83, x84, x85, x86, x87, x88, x89, x90, x91, x92, x93, x94, x95, x96, x97, x98, x99, x100, x101, x102, x103, x104, x105, x106, x107, x108, x109, x110, x111, x112, x113, x114, x115, x116, x117, x118, x119, x120, x121, x122, x123, x124, x125, x126, x127, x128, x129, x130, x131, x132, x133, x134, x135, x136, x137, x138, x139, x140, x141, x142, x143, x144, x145, x146, x147, x148, x149, x150, x151, x152, x153, y154, y155, y156, y157, y158, y159, y160, y161, y162, y163, y164, y165, y166, y167, y168, y169, y170, y171, y172, y173, y174, y175, y176, y177, y178, y179, y180, y181, y182, y183, y184, y185, y186, y187, y188, y189, y190, y191, y192, y193, y194, x195], []⟩ w') :
    a.wp Try.prog (Exit.then K Q) ⟨#[x0, x1, .int .i64 mark, x3, x4, x5, x6, x7, x8, x9, x10, x11, x12, .pointer (some ⟨p, 0, none⟩), x14, x15, .slice (some ⟨bw, 0, none⟩) 4 4, .slice (some ⟨bt, 0, none⟩) 4 4, x18, x19, x20, x21, x22, x23, x24, x25, x26, x27, x28, x29, x30, x31, x32, x33, x34, x35, x36, x37, x38, x39, x40, x41, x42, x43, x44, x45, x46, x47, x48, x49, x50, x51, x52, x53, x54, x55, x56, x57, x58, x59, x60, x61, x62, x63, x64, x65, x66, x67, x68, x69, x70, x71, x72, x73, x74, x75, x76, x77, x78, x79, x80, x81, x82, x83, x84, x85, x86, x87, x88, x89, x90, x91, x92, x93, x94, x95, x96, x97, x98, x99, x100, x101, x102, x103, x104, x105, x106, x107, x108, x109, x110, x111, x112, x113, x114, x115, x116, x117, x118, x119, x120, x121, x122, x123, x124, x125, x126, x127, x128, x129, x130, x131, x132, x133, x134, x135, x136, x137, x138, x139, x140, x141, x142, x143, x144, x145, x146, x147, x148, x149, x150, x151, x152, x153, x154, x155, x156, x157, x158, x159, x160, x161, x162, x163, x164, x165, x166, x167, x168, x169, x170, x171, x172, x173, x174, x175, x176, x177, x178, x179, x180, x181, x182, x183, x184, x185, x186, x187, x188, x189, x190, x191, x192, x193, x194, x195], []⟩ w := by
  injection hC with hC
  injection hC with hC1 hC2
  subst hC1 hC2
  have hrd := fun (i : Nat) (hi : i < 4) => old_reads h0 hl ho hi
  have HRD := Lib.hid hrd
  have HQ := Lib.hid hQ
  have H := Lib.hid h
  have HKS := Lib.hid hkS
  have HW := Lib.hid hw
  have HT := Lib.hid ht
  have HWC := Lib.hid hwc
  have HTC := Lib.hid htc
  clear hQ h hkS h0 hl ho hw ht hwc htc hrd
  go_wp2_with fail
  go_loopw [23] (fun a23 wr => ∃ (i : Nat) (I1 : Hp), a23 = .int .i64 i ∧ i ≤ 4 ∧ I.sub I1 ∧ St W I1 wr (storeHP p S :: l)) (fun a23 _ => 4 - (intOf a23).toNat)
  case atStart => exact ⟨0, I, rfl, by omega, Hp.sub.refl _, H.out⟩
  case round =>
    obtain ⟨i, I1, rfl, hi, hI1, hst⟩ := hrel
    by_cases hlt : i < 4
    · have di : decide ((i : Int) < 4) = true := by rw [decide_eq_true_eq]; omega
      obtain ⟨hr, hth⟩ := HRD.out i hlt
      obtain ⟨bs, hbs⟩ : ∃ bs, padB ((v i).getD []) 0 64 = bs := ⟨_, rfl⟩
      obtain ⟨tb, htb⟩ : ∃ tb, (v i).isSome = tb := ⟨_, rfl⟩
      have hcw := HWC.out i hlt
      have hct := HTC.out i hlt
      rw [hbs] at hr hcw
      rw [htb] at hth hct
      have hc := cread_spec 0 i mark 0 64 hst HKS.out
      rw [hr] at hc
      have HC := Lib.hid hc
      have HTH := Lib.hid hth
      have HCW := Lib.hid hcw
      have HCT := Lib.hid hct
      have HI1 := Lib.hid hI1
      clear hc hr hth hst hI1 hcw hct hbs htb
      go_wp2_with fail
      refine HC.out.mono ?_
      rintro e w3 ⟨v3, I3, hs3, rfl, hb3, h3⟩
      have HB3 := Lib.hid hb3
      obtain ⟨A3, c3, rfl, _⟩ := hb3
      have hc := cthere_spec 0 i mark h3 HKS.out
      rw [HTH.out] at hc
      have HC2 := Lib.hid hc
      have HS3 := Lib.hid (HI1.out.trans hs3)
      clear hc h3 hs3 HC
      go_wp2_with fail
      refine HC2.out.mono ?_
      rintro e w4 ⟨I4, hs4, rfl, h4⟩
      have hst1 := fun nq : Nat => src_string (bytes_src (h4.drewN nq) ((bytesIP _ _).mono hs4 HB3.out))
      have e1 : w4.cell? ⟨bw, i, none⟩ = some (.string (strOfNums bs)) := (h4.imm_cell ((HS3.out.trans hs4) _ _ HW.out) i).trans HCW.out
      have e2 : w4.cell? ⟨bt, i, none⟩ = some (.bool tb) := (h4.imm_cell ((HS3.out.trans hs4) _ _ HT.out) i).trans HCT.out
      have hss : (strOfNums bs != strOfNums bs) = false := by
        show (!(strOfNums bs == strOfNums bs)) = false
        rw [(MapKept.bytes_beq _ _).2 rfl]
        rfl
      have htt : (tb != tb) = false := by cases tb <;> rfl
      have H4 := Lib.hid h4
      have HS4 := Lib.hid (HS3.out.trans hs4)
      clear h4 hs4 HC2
      go_wp2_with fail
      go_quiet (fail)
      go_wp2_with fail
      go_roundw
      case rel => exact ⟨i + 1, I4, by go_num, by omega, HS4.out, H4.out.drewN nq⟩
      case measure => simp [intOf]; omega
    · obtain rfl : i = 4 := by omega
      have di : decide (((4 : Nat) : Int) < 4) = false := rfl
      have H9 := Lib.hid hst
      have HI9 := Lib.hid hI1
      clear hst hI1
      go_wp2_with fail
      exact HQ.out _ _ _ _ _ _ _ _ _ _ _ _ _ _ _ _ _ _ _ _ _ _ _ _ _ _ _ _ _ _ _ _ _ _ _ _ _ _ _ _ _ _ _ _ _ _ _ I1 _ HI9.out H9.out
end
def genArr (f : Nat → Value) : Array Value := ((List.range 4).map f).toArray
def updV (f : Nat → Value) (n : Nat) (v : Value) : Nat → Value := fun i => if i = n then v else f i
theorem genArr_get (f : Nat → Value) {n : Nat} (h : n < 4) : (genArr f)[n]? = some (f n) := by
  unfold genArr
  simp [h]
theorem genArr_set (f : Nat → Value) {n : Nat} (v : Value) : (genArr f).setIfInBounds n v = genArr (updV f n v) := by
  apply Array.ext
  · simp [genArr]
  · intro i h1 h2
    simp only [genArr, updV, Array.getElem_setIfInBounds, List.getElem_toArray, List.getElem_map, List.getElem_range]
    by_cases e : n = i
    · subst e; simp
    · simp [e, Ne.symm e]
section
variable {W w : World} {I : Hp} {l : List HP} {p : Nat} {S : Str}
set_option maxRecDepth 4000
set_option maxHeartbeats 8000000
/-- Region 18: what each object was. -/
theorem old_was {a b : Code} {Q : Exit → Act → World → Prop} {K : Act → World → Prop} (hK : ∀ x y, b.wp Try.prog Q x y → K x y) (hC : (Try.f4).body.bind (fromR 18) = some (.seq a b)) {x0 x1 x2 x3 x4 x5 x6 x7 x8 x9 x10 x11 x12 x14 x15 x18 x19 x20 x21 x22 x23 x24 x25 x26 x27 x28 x29 x30 x31 x32 x33 x34 x35 x36 x37 x38 x39 x40 x41 x42 x43 x44 x45 x46 x47 x48 x49 x50 x51 x52 x53 x54 x55 x56 x57 x58 x59 x60 x61 x62 x63 x64 x65 x66 x67 x68 x69 x70 x71 x72 x73 x74 x75 x76 x77 x78 x79 x80 x81 x82 x83 x84 x85 x86 x87 x88 x89 x90 x91 x92 x93 x94 x95 x96 x97 x98 x99 x100 x101 x102 x103 x104 x105 x106 x107 x108 x109 x110 x111 x112 x113 x114 x115 x116 x117 x118 x119 x120 x121 x122 x123 x124 x125 x126 x127 x128 x129 x130 x131 x132 x133 x134 x135 x136 x137 x138 x139 x140 x141 x142 x143 x144 x145 x146 x147 x148 x149 x150 x151 x152 x153 x154 x155 x156 x157 x158 x159 x160 x161 x162 x163 x164 x165 x166 x167 x168 x169 x170 x171 x172 x173 x174 x175 x176 x177 x178 x179 x180 x181 x182 x183 x184 x185 x186 x187 x188 x189 x190 x191 x192 x193 x194 x195 : Value} {bw bt : Nat} {f0 g0 : Nat → Value} {m : Nat}
    (h : St W I w (HP.pt bw (.cells (genArr f0) 9) :: HP.pt bt (.cells (genArr g0) 4) :: storeHP p S :: l)) (hkS : Inv S m) (hl : Live U17 S)
    (hQ : ∀ (y18 y19 y20 y78 y79 y80 y81 y82 y83 y84 y85 y86 y87 y88 y89 y90 y91 y92 y93 y94 y95 y96 y97 y98 y99 y100 y101 : Value) (I' : Hp) (w' : World) (cw ct : Array Value), I.sub I' → St W I' w' (storeHP p S :: l) → I' bw = some (.cells cw 9) → I' bt = some (.cells ct 4) →
      (∀ i : Nat, i < 4 → cw[i]? = some (.string (strOfNums (padB (((cview S 0 i 0).map (·.b)).getD []) 0 64)))) → (∀ i : Nat, i < 4 → ct[i]? = some (.bool ((cview S 0 i 0).map (·.b)).isSome)) → Q .normal ⟨#[x0, x1, x2, x3, x4, x5, x6, x7, x8, x9, x10, x11, x12, .pointer (some ⟨p, 0, none⟩), x14, x15, .slice (some ⟨bw, 0, none⟩) 4 4, .slice (some ⟨bt, 0, none⟩) 4 4, y18, y19, y20, x21, x22, x23, x24, x25, x26, x27, x28, x29, x30, x31, x32, x33, x34, x35, x36, x37, x38, x39, x40, x41, x42, x43, x44, x45, x46, x47, x48, x49, x50, x51, x52, x53, x54, x55, x56, x57, x58, x59, x60, x61, x62, x63, x64, x65, x66, x67, x68, x69, x70, x71, x72, x73, x74, x75, x76, x77, y78, y79, y80, y81, y82, y83, y84, y85, y86, y87, y88, y89, y90, y91, y92, y93, y94, y95, y96, y97, y98, y99, y100, y101, x102, x103, x104, x105, x106, x107, x108, x109, x110, x111, x112, x113, x114, x115, x116, x117, x118, x119, x120, x121, x122, x123, x124, x125, x126, x127, x128, x129, x130, x131, x132, x133, x134, x135, x136, x137, x138, x139, x140, x141, x142, x143, x144, x145, x146, x147, x148, x149, x150, x151, x152, x153, x154, x155, x156, x157, x158, x159, x160, x161, x162, x163, x164, x165, x166, x167, x168, x169, x170, x171, x172, x173, x174, x175, x176, x177, x178, x179, x180, x181, x182, x183, x184, x185, x186, x187, x188, x189, x190, x191, x192, x193, x194, x195], []⟩ w') :
    a.wp Try.prog (Exit.then K Q) ⟨#[x0, x1, x2, x3, x4, x5, x6, x7, x8, x9, x10, x11, x12, .pointer (some ⟨p, 0, none⟩), x14, x15, .slice (some ⟨bw, 0, none⟩) 4 4, .slice (some ⟨bt, 0, none⟩) 4 4, x18, x19, x20, x21, x22, x23, x24, x25, x26, x27, x28, x29, x30, x31, x32, x33, x34, x35, x36, x37, x38, x39, x40, x41, x42, x43, x44, x45, x46, x47, x48, x49, x50, x51, x52, x53, x54, x55, x56, x57, x58, x59, x60, x61, x62, x63, x64, x65, x66, x67, x68, x69, x70, x71, x72, x73, x74, x75, x76, x77, x78, x79, x80, x81, x82, x83, x84, x85, x86, x87, x88, x89, x90, x91, x92, x93, x94, x95, x96, x97, x98, x99, x100, x101, x102, x103, x104, x105, x106, x107, x108, x109, x110, x111, x112, x113, x114, x115, x116, x117, x118, x119, x120, x121, x122, x123, x124, x125, x126, x127, x128, x129, x130, x131, x132, x133, x134, x135, x136, x137, x138, x139, x140, x141, x142, x143, x144, x145, x146, x147, x148, x149, x150, x151, x152, x153, x154, x155, x156, x157, x158, x159, x160, x161, x162, x163, x164, x165, x166, x167, x168, x169, x170, x171, x172, x173, x174, x175, x176, x177, x178, x179, x180, x181, x182, x183, x184, x185, x186, x187, x188, x189, x190, x191, x192, x193, x194, x195], []⟩ w := by
  injection hC with hC
  injection hC with hC1 hC2
  subst hC1 hC2
  have hrd := fun (i : Nat) (hi : i < 4) => head_reads hl hi
  have HRD := Lib.hid hrd
  have HQ := Lib.hid hQ
  have H := Lib.hid h
  have HKS := Lib.hid hkS
  clear hQ h hkS hl hrd
  go_wp2_with fail
  go_loopw [18] (fun a18 wr => ∃ (i : Nat) (f g : Nat → Value) (I1 : Hp), a18 = .int .i64 i ∧ i ≤ 4 ∧ I.sub I1 ∧ (∀ k : Nat, k < i → f k = .string (strOfNums (padB (((cview S 0 k 0).map (·.b)).getD []) 0 64)) ∧ g k = .bool ((cview S 0 k 0).map (·.b)).isSome) ∧
    St W I1 wr (HP.pt bw (.cells (genArr f) 9) :: HP.pt bt (.cells (genArr g) 4) :: storeHP p S :: l)) (fun a18 _ => 4 - (intOf a18).toNat)
  case atStart => exact ⟨0, f0, g0, I, rfl, by omega, Hp.sub.refl _, fun k hk => absurd hk (by omega), H.out⟩
  case round =>
    obtain ⟨i, f, g, I1, rfl, hi, hI1, hfg, hst⟩ := hrel
    by_cases hlt : i < 4
    · have di : decide ((i : Int) < 4) = true := by rw [decide_eq_true_eq]; omega
      obtain ⟨hr, hth⟩ := HRD.out i hlt
      obtain ⟨bs, hbs⟩ : ∃ bs, padB (((cview S 0 i 0).map (·.b)).getD []) 0 64 = bs := ⟨_, rfl⟩
      obtain ⟨tb, htb⟩ : ∃ tb, ((cview S 0 i 0).map (·.b)).isSome = tb := ⟨_, rfl⟩
      have hfg2 : ∀ k : Nat, k < i + 1 → updV f i (.string (strOfNums bs)) k = .string (strOfNums (padB (((cview S 0 k 0).map (·.b)).getD []) 0 64)) ∧ updV g i (.bool tb) k = .bool ((cview S 0 k 0).map (·.b)).isSome := fun k hk => by
        unfold updV
        by_cases e : k = i
        · subst e; rw [if_pos rfl, if_pos rfl, hbs, htb]; exact ⟨rfl, rfl⟩
        · rw [if_neg e, if_neg e]; exact hfg k (by omega)
      rw [hbs] at hr
      rw [htb] at hth
      have hc := cread_spec 0 i 0 0 64 (hst.pull 2 _ rfl) HKS.out
      rw [hr] at hc
      have HC := Lib.hid hc
      have HTH := Lib.hid hth
      have HI1 := Lib.hid hI1
      have HFG := Lib.hid hfg2
      clear hc hr hth hst hI1 hfg hfg2 hbs htb
      go_wp2_with fail
      refine HC.out.mono ?_
      rintro e w3 ⟨v3, I3, hs3, rfl, hb3, h3⟩
      have hst1 := src_string (bytes_src h3 hb3)
      obtain ⟨A3, c3, rfl, _⟩ := hb3
      have ct2 : w3.cell? ⟨bw, i, none⟩ = _ := (cells_of (h3.pull 1 _ rfl).heap i).trans (genArr_get f hlt)
      have ft := frozen_of_row (h3.pull 1 _ rfl).heap i
      have ltt := (h3.pull 1 _ rfl).lt
      have ltb := (h3.pull 2 _ rfl).lt
      have h4 := (h3.pull 1 _ rfl).setCell i (.string (strOfNums bs))
      rw [genArr_set f] at h4
      have hc := cthere_spec 0 i 0 (h4.pull 1 _ rfl) HKS.out
      rw [HTH.out] at hc
      have HC2 := Lib.hid hc
      have HS3 := Lib.hid (HI1.out.trans hs3)
      clear hc h3 h4 hs3 HC
      go_wp2_with fail
      refine HC2.out.mono ?_
      rintro e w4 ⟨I4, hs4, rfl, h4⟩
      have ct5 : w4.cell? ⟨bt, i, none⟩ = _ := (cells_of (h4.pull 2 _ rfl).heap i).trans (genArr_get g hlt)
      have ft5 := frozen_of_row (h4.pull 2 _ rfl).heap i
      have ltt5 := (h4.pull 2 _ rfl).lt
      have h5 := (h4.pull 2 _ rfl).setCell i (.bool tb)
      rw [genArr_set g] at h5
      have H5 := Lib.hid (h5.pull 2 _ rfl)
      have HS4 := Lib.hid (HS3.out.trans hs4)
      clear h4 h5 hs4 HC2
      go_wp2_with fail
      go_roundw
      case rel => exact ⟨i + 1, updV f i (.string (strOfNums bs)), updV g i (.bool tb), I4, by go_num, by omega, HS4.out, HFG.out, H5.out.perm (by ((try simp only [List.eraseIdx_cons_succ, List.eraseIdx_cons_zero, List.cons_append, List.nil_append]); repeat (first | with_reducible exact List.Perm.refl _ | (apply perm_step; (· repeat (first | with_reducible exact find_here | with_reducible apply find_there))))))⟩
      case measure => simp [intOf]; omega
    · obtain rfl : i = 4 := by omega
      have di : decide (((4 : Nat) : Int) < 4) = false := rfl
      obtain ⟨I5, hs5, e5, h5⟩ := hst.freeze
      obtain ⟨I6, hs6, e6, h6⟩ := h5.freeze
      have H6 := Lib.hid h6
      have HI9 := Lib.hid ((hI1.trans hs5).trans hs6)
      have E5 := Lib.hid (hs6 _ _ e5)
      have E6 := Lib.hid e6
      have HFG := Lib.hid hfg
      clear hst hI1 h5 h6 hs5 hs6 e5 e6 hfg
      go_wp2_with fail
      exact HQ.out _ _ _ _ _ _ _ _ _ _ _ _ _ _ _ _ _ _ _ _ _ _ _ _ _ _ _ I6 _ (genArr f) (genArr g) HI9.out H6.out E5.out E6.out (fun k hk => by rw [genArr_get f hk, (HFG.out k hk).1]) (fun k hk => by rw [genArr_get g hk, (HFG.out k hk).2])
end
theorem low_fine {mark : Int} (h0 : 0 < mark ∧ mark ≤ 8) (a : A17) : Fine U17 0 { a.mild with newest := a.mild.newest % mark } := by
  have h := mild_fine (img := 0) ⟨by omega, by omega⟩ a
  have hx : 0 ≤ a.num % 4 ∧ a.num % 4 ≤ 3 := by omega
  have hr := emod_rng (a.newest % 16) mark h0.1
  refine ⟨h.obj, ?_, h.snap, h.span, h.head, fun _ => U17_mem ⟨by omega, by omega⟩ hx ?_⟩
  · show snapB (a.newest % 16 % mark) = true
    unfold snapB
    rw [decide_eq_true_eq]
    omega
  · show 0 ≤ a.newest % 16 % mark ∧ a.newest % 16 % mark ≤ 15
    omega
section
variable {W w : World} {I : Hp} {l : List HP} {p : Nat} {S : Str}
set_option maxRecDepth 4000
set_option maxHeartbeats 8000000
/-- Region 7: the first row of acts. -/
theorem old_ones {a b : Code} {Q : Exit → Act → World → Prop} {K : Act → World → Prop} (hK : ∀ x y, b.wp Try.prog Q x y → K x y) (hC : (Try.f4).body.bind (fromR 7) = some (.seq a b)) {x1 x3 x4 x5 x6 x7 x8 x9 x10 x11 x12 x14 x15 x16 x17 x18 x19 x20 x21 x22 x23 x24 x25 x26 x27 x28 x29 x30 x31 x32 x33 x34 x35 x36 x37 x38 x39 x40 x41 x42 x43 x44 x45 x46 x47 x48 x49 x50 x51 x52 x53 x54 x55 x56 x57 x58 x59 x60 x61 x62 x63 x64 x65 x66 x67 x68 x69 x70 x71 x72 x73 x74 x75 x76 x77 x78 x79 x80 x81 x82 x83 x84 x85 x86 x87 x88 x89 x90 x91 x92 x93 x94 x95 x96 x97 x98 x99 x100 x101 x102 x103 x104 x105 x106 x107 x108 x109 x110 x111 x112 x113 x114 x115 x116 x117 x118 x119 x120 x121 x122 x123 x124 x125 x126 x127 x128 x129 x130 x131 x132 x133 x134 x135 x136 x137 x138 x139 x140 x141 x142 x143 x144 x145 x146 x147 x148 x149 x150 x151 x152 x153 x154 x155 x156 x157 x158 x159 x160 x161 x162 x163 x164 x165 x166 x167 x168 x169 x170 x171 x172 x173 x174 x175 x176 x177 x178 x179 x180 x181 x182 x183 x184 x185 x186 x187 x188 x189 x190 x191 x192 x193 x194 x195 : Value} {A1 : Option Addr} {c1 : Nat} {ls : List A17} {mark : Int}
    (h : St W I w (storeHP p S :: [])) (h0 : 0 < mark ∧ mark ≤ 8) (hc : Calm17 S) (hlo : LowV mark (viewOf S)) (hk : Keeps S 90000) (h1 : RowI I 8 (.slice A1 ls.length c1) ls.length (ls.flatMap A17.vals)) (hok : ∀ a ∈ ls, a.ok I) (hl30 : ls.length ≤ 30)
    (hQ : ∀ (y12 y14 y15 y53 y54 y55 y56 y57 y58 y59 y60 y61 y62 y63 y64 y65 y66 y67 y68 y69 y70 y71 y72 : Value) (I' : Hp) (w' : World) (S' : Str), I.sub I' → Calm17 S' → LowV mark (viewOf S') → Keeps S' 80000 → St W I' w' (storeHP p S' :: []) → Q .normal ⟨#[.slice A1 ls.length c1, x1, .int .i64 mark, x3, x4, x5, x6, x7, x8, x9, x10, x11, y12, .pointer (some ⟨p, 0, none⟩), y14, y15, x16, x17, x18, x19, x20, x21, x22, x23, x24, x25, x26, x27, x28, x29, x30, x31, x32, x33, x34, x35, x36, x37, x38, x39, x40, x41, x42, x43, x44, x45, x46, x47, x48, x49, x50, x51, x52, y53, y54, y55, y56, y57, y58, y59, y60, y61, y62, y63, y64, y65, y66, y67, y68, y69, y70, y71, y72, x73, x74, x75, x76, x77, x78, x79, x80, x81, x82, x83, x84, x85, x86, x87, x88, x89, x90, x91, x92, x93, x94, x95, x96, x97, x98, x99, x100, x101, x102, x103, x104, x105, x106, x107, x108, x109, x110, x111, x112, x113, x114, x115, x116, x117, x118, x119, x120, x121, x122, x123, x124, x125, x126, x127, x128, x129, x130, x131, x132, x133, x134, x135, x136, x137, x138, x139, x140, x141, x142, x143, x144, x145, x146, x147, x148, x149, x150, x151, x152, x153, x154, x155, x156, x157, x158, x159, x160, x161, x162, x163, x164, x165, x166, x167, x168, x169, x170, x171, x172, x173, x174, x175, x176, x177, x178, x179, x180, x181, x182, x183, x184, x185, x186, x187, x188, x189, x190, x191, x192, x193, x194, x195], []⟩ w') :
    a.wp Try.prog (Exit.then K Q) ⟨#[.slice A1 ls.length c1, x1, .int .i64 mark, x3, x4, x5, x6, x7, x8, x9, x10, x11, x12, .pointer (some ⟨p, 0, none⟩), x14, x15, x16, x17, x18, x19, x20, x21, x22, x23, x24, x25, x26, x27, x28, x29, x30, x31, x32, x33, x34, x35, x36, x37, x38, x39, x40, x41, x42, x43, x44, x45, x46, x47, x48, x49, x50, x51, x52, x53, x54, x55, x56, x57, x58, x59, x60, x61, x62, x63, x64, x65, x66, x67, x68, x69, x70, x71, x72, x73, x74, x75, x76, x77, x78, x79, x80, x81, x82, x83, x84, x85, x86, x87, x88, x89, x90, x91, x92, x93, x94, x95, x96, x97, x98, x99, x100, x101, x102, x103, x104, x105, x106, x107, x108, x109, x110, x111, x112, x113, x114, x115, x116, x117, x118, x119, x120, x121, x122, x123, x124, x125, x126, x127, x128, x129, x130, x131, x132, x133, x134, x135, x136, x137, x138, x139, x140, x141, x142, x143, x144, x145, x146, x147, x148, x149, x150, x151, x152, x153, x154, x155, x156, x157, x158, x159, x160, x161, x162, x163, x164, x165, x166, x167, x168, x169, x170, x171, x172, x173, x174, x175, x176, x177, x178, x179, x180, x181, x182, x183, x184, x185, x186, x187, x188, x189, x190, x191, x192, x193, x194, x195], []⟩ w := by
  injection hC with hC
  injection hC with hC1 hC2
  subst hC1 hC2
  have hn1 : (ls.length : Int) ≤ 9223372036854775807 := by omega
  have HM0 := Lib.hid h0
  have HQ := Lib.hid hQ
  have H := Lib.hid h
  have HC0 := Lib.hid hc
  have HLO := Lib.hid hlo
  have HK0 := Lib.hid hk
  have H1 := Lib.hid h1
  have HOK := Lib.hid hok
  clear hQ h hc hlo hk h1 hok h0
  go_wp2_with fail
  go_loopw [14] (fun a14 wr => ∃ (i : Nat) (S : Str) (I1 : Hp), a14 = .int .i64 i ∧ i ≤ ls.length ∧ Calm17 S ∧ LowV mark (viewOf S) ∧ Keeps S (90000 - 300 * i) ∧ I.sub I1 ∧ St W I1 wr (storeHP p S :: [])) (fun a14 _ => ls.length - (intOf a14).toNat)
  case atStart => exact ⟨0, S, I, rfl, Nat.zero_le _, HC0.out, HLO.out, HK0.out.fewer (by omega), Hp.sub.refl _, H.out⟩
  case round =>
    obtain ⟨i, S, I1, rfl, hi, hcS, hoS, hkS, hI1, hst⟩ := hrel
    by_cases hlt : i < ls.length
    · obtain ⟨a, ha⟩ : ∃ a, ls[i]? = some a := ⟨_, List.getElem?_eq_getElem hlt⟩
      obtain ⟨b, off, e1, hc⟩ := rowk_cell (i := i) H1.out hI1 hst (fun _ => rfl) ha
      simp only [Value.slice.injEq, and_true] at e1
      subst e1
      have h0 := HM0.out
      have hoka := A17.ok_mono (HOK.out a (List.mem_of_getElem? ha)) hI1
      have y0 := hc 0 (by omega)
      have y1 := hc 1 (by omega)
      have y2 := hc 2 (by omega)
      have y3 := hc 3 (by omega)
      have y4 := hc 4 (by omega)
      have y5 := hc 5 (by omega)
      have y6 := hc 6 (by omega)
      have y7 := hc 7 (by omega)
      have hml := mild_spec a hst hoka
      obtain ⟨hmok, hmpl⟩ := mild_ok hoka
      have hfi := low_fine h0 a
      have hm2 : 0 ≤ a.mild.newest := by show 0 ≤ a.newest % 16; omega
      obtain ⟨B, hB⟩ : ∃ B, a.mild = B := ⟨_, rfl⟩
      rw [hB] at hml hmok hmpl hfi hm2
      obtain ⟨Bp, bcp, hbpv, _⟩ := hoka.1
      obtain ⟨Bm, bcm, hbmv, _⟩ := hoka.2.1
      have hmpv := hmok.1
      have hmmv := hmok.2.1
      obtain ⟨Cp, ccp, hcpv, _⟩ := hmpv
      obtain ⟨Cm, ccm, hcmv, _⟩ := hmmv
      obtain ⟨b0, b1, b2, b3, b4, b5, bp, bpv, bms, bmv⟩ := a
      obtain ⟨m0, m1, m2, m3, m4, m5, mp, mpv, mms, mmv⟩ := B
      simp only at hbpv hbmv hcpv hcmv hmpl hfi hm2
      subst hbpv hbmv hcpv hcmv
      simp only [A17.vals, List.getElem?_cons_succ, List.getElem?_cons_zero, Nat.add_zero] at y0 y1 y2 y3 y4 y5 y6 y7
      simp only [A17.val] at hml
      have hr2 := emod_rng m2 mark h0.1
      obtain ⟨m2', hm2'⟩ : ∃ x, m2 % mark = x := ⟨_, rfl⟩
      rw [hm2'] at hr2 hfi
      have hrem : m2.tmod mark = m2' := by rw [Int.tmod_eq_emod_of_nonneg hm2]; exact hm2'
      have hwr : IntKind.i64.wrap m2' = m2' := by rw [IntKind.wrap_i64]; omega
      have hne : ¬ (mark = 0) := by omega
      have hmok' : A17.ok I1 ⟨m0, m1, m2', m3, m4, m5, mp, .slice Cp mp.length ccp, mms, .slice Cm mms.length ccm⟩ := by
        obtain ⟨q1, q2, q3, q4, q5, q6, q7, q8⟩ := hmok
        exact ⟨q1, q2, q3, q4, by show isI m2'; unfold isI; omega, q6, q7, q8⟩
      obtain ⟨hr1, hr3, _⟩ := hcS.done (img := 0) (a := ⟨m0, m1, m2', m3, m4, m5, mp, .slice Cp mp.length ccp, mms, .slice Cm mms.length ccm⟩) ⟨by omega, by omega⟩ (.inr hfi)
      have hlow := low_step h0.1 hcS hoS (a := ⟨m0, m1, m2', m3, m4, m5, mp, .slice Cp mp.length ccp, mms, .slice Cm mms.length ccm⟩) (.inr hfi) (by show m2' < mark; omega)
      have hks : Keeps S (89700 - 300 * i + 16 + 2 * (keysTold S ⟨4, 0⟩).length) := hkS.fewer (by have := hcS.keys 0; omega)
      have hks2 := oursS_keeps (a := ⟨m0, m1, m2', m3, m4, m5, mp, .slice Cp mp.length ccp, mms, .slice Cm mms.length ccm⟩) hks
      obtain ⟨r1, hre1⟩ : ∃ r, oursS S 0 ⟨m0, m1, m2', m3, m4, m5, mp, .slice Cp mp.length ccp, mms, .slice Cm mms.length ccm⟩ = r := ⟨_, rfl⟩
      rw [hre1] at hr1 hr3 hks2 hlow
      obtain ⟨e1, S1⟩ := r1
      simp only at hr1
      subst hr1
      have HML := Lib.hid hml
      have HMOK := Lib.hid hmok'
      have HPL := Lib.hid hmpl
      have HST := Lib.hid hst
      have HKS := Lib.hid hks
      have HRE := Lib.hid hre1
      have HS1 := Lib.hid (show Calm17 S1 from hr3)
      have HLW := Lib.hid (show LowV mark (viewOf S1) from hlow)
      have HKS2 := Lib.hid (show Keeps S1 (89700 - 300 * i) from hks2)
      have HI1 := Lib.hid hI1
      clear hc ha hoka hml hmok hmok' hfi hst hcS hoS hkS hI1 hB hr3 hlow hks hks2 hre1 hmpl hm2 hm2' hr2 h0
      go_wp2_with fail
      refine HML.out.mono ?_
      rintro e w5 ⟨rfl, hb5⟩
      have h6 := (HST.out.keep hb5).alloc (.cells #[.int .i64 m0, .int .i64 m1, .int .i64 m2, .int .i64 m3, .int .i64 m4, .int .i64 m5, .slice Cp mp.length ccp, .slice Cm mms.length ccm] 26)
      have z2 := cells_of h6.heap 2
      have ft := frozen_of_row h6.heap 2
      have ltt := h6.lt
      have h7 := (HST.out.keep hb5).alloc (.cells #[.int .i64 m0, .int .i64 m1, .int .i64 m2', .int .i64 m3, .int .i64 m4, .int .i64 m5, .slice Cp mp.length ccp, .slice Cm mms.length ccm] 26)
      have k0 := cells_of h7.heap 0
      have k1 := cells_of h7.heap 1
      have k2 := cells_of h7.heap 2
      have k3 := cells_of h7.heap 3
      have k4 := cells_of h7.heap 4
      have k5 := cells_of h7.heap 5
      have k6 := cells_of h7.heap 6
      have k7 := cells_of h7.heap 7
      simp at z2 k0 k1 k2 k3 k4 k5 k6 k7
      have hob := ours17_spec 0 ⟨m0, m1, m2', m3, m4, m5, mp, .slice Cp mp.length ccp, mms, .slice Cm mms.length ccm⟩ (h7.pull 1 _ rfl) HKS.out HMOK.out (by have := HPL.out; simp only; omega)
      rw [HRE.out] at hob
      simp only [A17.val] at hob
      have HOB := Lib.hid hob
      clear hb5 h6 h7 y0 y1 y2 y3 y4 y5 y6 y7 HML HST hob
      go_wp2_with fail
      refine HOB.out.mono ?_
      rintro e w7 ⟨I7, hs7, rfl, h7⟩
      have H7 := Lib.hid ((h7.pull 1 _ rfl).drop)
      have HS7 := Lib.hid (HI1.out.trans hs7)
      clear h7 hs7 HOB z2 ft ltt k0 k1 k2 k3 k4 k5 k6 k7
      go_wp2_with fail
      go_roundw
      case rel => exact ⟨i + 1, S1, I7, by go_num, by omega, HS1.out, HLW.out, HKS2.out.fewer (by omega), HS7.out, H7.out⟩
      case measure => simp [intOf]; omega
    · obtain rfl : i = ls.length := by omega
      have H9 := Lib.hid hst
      have HCS := Lib.hid hcS
      have HOS := Lib.hid hoS
      have HKS := Lib.hid (hkS.fewer (n := 80000) (by omega))
      have HI9 := Lib.hid hI1
      clear hst hI1 hcS hoS hkS
      go_wp2_with fail
      exact HQ.out _ _ _ _ _ _ _ _ _ _ _ _ _ _ _ _ _ _ _ _ _ _ _ I1 _ S HI9.out HCS.out HOS.out HKS.out H9.out
end
section
variable {W w : World} {I : Hp} {l : List HP} {p : Nat} {S : Str}
set_option maxRecDepth 4000
set_option maxHeartbeats 8000000
theorem fuseC_spec (n : Int) (kv : Value) (keep : List Int) (torn : Int) (h : St W I w (storeHP p S :: l)) (hk : IntsI I kv keep) (hn : keep.length ≤ 1000000) :
    Calls Try.prog 17 #[.pointer (some ⟨p, 0, none⟩), .int .i64 n, kv, .int .i64 torn] w fun e w' => ∃ I', I.sub I' ∧ e = .returned (.tuple #[]) ∧ St W I' w' (storeHP p (fuseS S n keep torn) :: l) := by
  obtain ⟨B, h1⟩ := h.store_open
  have h2 := (h1.pull 5 _ rfl).drop
  refine (fuse_spec n kv keep torn h2 hk hn).mono ?_
  rintro e w' ⟨rfl, vk, I', hs, hv, h3⟩
  refine ⟨I', hs, rfl, St.store_shut (B := { B with vk := vk }) ?_⟩
  have e1 : seenHP B S = seenHP { B with vk := vk } (fuseS S n keep torn) := by unfold seenHP fuseS; split <;> rfl
  have e2 : dryHP B S = dryHP { B with vk := vk } (fuseS S n keep torn) := by unfold dryHP fuseS; split <;> rfl
  have e3 : lateHP B S = lateHP { B with vk := vk } (fuseS S n keep torn) := by unfold lateHP fuseS; split <;> rfl
  have e4 : keyHP B S = keyHP { B with vk := vk } (fuseS S n keep torn) := by unfold keyHP fuseS; split <;> rfl
  rw [← e1, ← e2, ← e3, ← e4]
  exact (St.imm_shut (A := intsIP vk (fuseS S n keep torn).keep) hv h3).perm (by ((try simp only [List.eraseIdx_cons_succ, List.eraseIdx_cons_zero, List.cons_append, List.nil_append]); repeat (first | with_reducible exact List.Perm.refl _ | (apply perm_step; (· repeat (first | with_reducible exact find_here | with_reducible apply find_there))))))
/-- Region 32 on: an act behind the mark, whatever the fuse is. -/
theorem old_act {a1 b1 : Code} {Q : Exit → Act → World → Prop} {K : Act → World → Prop} (hK : ∀ x y, b1.wp Try.prog Q x y → K x y) (hC : (Try.f4).body.bind (fromR 32) = some (.seq a1 b1)) {x0 x1 x3 x4 x5 x6 x7 x8 x9 x10 x11 x12 x14 x15 x18 x19 x20 x21 x23 x24 x25 x26 x27 x28 x29 x30 x31 x32 x33 x34 x35 x36 x37 x38 x39 x40 x41 x42 x43 x44 x45 x46 x47 x48 x49 x50 x51 x52 x53 x54 x55 x56 x57 x58 x59 x60 x61 x62 x63 x64 x65 x66 x67 x68 x69 x70 x71 x72 x73 x74 x75 x76 x77 x78 x79 x80 x81 x82 x83 x84 x85 x86 x87 x88 x89 x90 x91 x92 x93 x94 x95 x96 x97 x98 x99 x100 x101 x102 x103 x104 x105 x106 x107 x108 x109 x110 x111 x112 x113 x114 x115 x116 x117 x118 x119 x120 x121 x122 x123 x124 x125 x126 x127 x128 x129 x130 x131 x132 x133 x134 x135 x136 x137 x138 x139 x140 x141 x142 x143 x144 x145 x146 x147 x148 x149 x150 x151 x152 x153 x154 x155 x156 x157 x158 x159 x160 x161 x162 x163 x164 x165 x166 x167 x168 x169 x170 x171 x172 x173 x174 x175 x176 x177 x178 x179 x180 x181 x182 x183 x184 x185 x186 x187 x188 x189 x190 x191 x192 x193 x194 x195 : Value} {g bw bt : Nat} {mark : Int} {cw ct : Array Value} {tw tt : TypeId} {v : Int → Option (List Int)} {m : Nat}
    (a : A17) (h : St W I w (storeHP p S :: l)) (hk : Keeps S (m + 300)) (h0 : 0 < mark ∧ mark ≤ 8) (hl : Live U17 S) (ho : Olds S mark v) (hkl : (keysTold S ⟨4, 0⟩).length ≤ 128)
    (hA : I g = some (.cells #[.int .i64 a.what, .int .i64 a.num, .int .i64 a.newest, .int .i64 a.off, .int .i64 a.n, .int .i64 a.snap, a.pv, a.mv] 26)) (hok : a.ok I) (hpl : a.p.length ≤ 64) (hfi : Fine U17 0 a) (hnew : mark ≤ a.newest) (hms : mark ∈ a.ms)
    (hw : I bw = some (.cells cw tw)) (ht : I bt = some (.cells ct tt)) (hwc : ∀ i : Nat, i < 4 → cw[i]? = some (.string (strOfNums (padB ((v i).getD []) 0 64)))) (htc : ∀ i : Nat, i < 4 → ct[i]? = some (.bool (v i).isSome))
    (hQ : ∀ (y12 y23 y24 y25 y26 y27 y147 y148 y149 y150 y151 y152 y153 y154 y155 y156 y157 y158 y159 y160 y161 y162 y163 y164 y165 y166 y167 y168 y169 y170 y171 y172 y173 y174 y175 y176 y177 y178 y179 y180 y181 y182 y183 y184 y185 y186 y187 y188 y189 y190 y191 y192 y193 y194 : Value) (I' : Hp) (w' : World) (S' : Str), I.sub I' → Live U17 S' → Olds S' mark v → Keeps S' m → St W I' w' (storeHP p S' :: l) → Q .normal ⟨#[x0, x1, .int .i64 mark, x3, x4, x5, x6, x7, x8, x9, x10, x11, y12, .pointer (some ⟨p, 0, none⟩), x14, x15, .slice (some ⟨bw, 0, none⟩) 4 4, .slice (some ⟨bt, 0, none⟩) 4 4, x18, x19, x20, x21, .pointer (some ⟨g, 0, none⟩), y23, y24, y25, y26, y27, x28, x29, x30, x31, x32, x33, x34, x35, x36, x37, x38, x39, x40, x41, x42, x43, x44, x45, x46, x47, x48, x49, x50, x51, x52, x53, x54, x55, x56, x57, x58, x59, x60, x61, x62, x63, x64, x65, x66, x67, x68, x69, x70, x71, x72, x73, x74, x75, x76, x77, x78, x79, x80, x81, x82, x83, x84, x85, x86, x87, x88, x89, x90, x91, x92, x93, x94, x95, x96, x97, x98, x99, x100, x101, x102, x103, x104, x105, x106, x107, x108, x109, x110, x111, x112, x113, x114, x115, x116, x117, x118, x119, x120, x121, x122, x123, x124, x125, x126, x127, x128, x129, x130, x131, x132, x133, x134, x135, x136, x137, x138, x139, x140, x141, x142, x143, x144, x145, x146, y147, y148, y149, y150, y151, y152, y153, y154, y155, y156, y157, y158, y159, y160, y161, y162, y163, y164, y165, y166, y167, y168, y169, y170, y171, y172, y173, y174, y175, y176, y177, y178, y179, y180, y181, y182, y183, y184, y185, y186, y187, y188, y189, y190, y191, y192, y193, y194, x195], []⟩ w') :
    a1.wp Try.prog (Exit.then K Q) ⟨#[x0, x1, .int .i64 mark, x3, x4, x5, x6, x7, x8, x9, x10, x11, x12, .pointer (some ⟨p, 0, none⟩), x14, x15, .slice (some ⟨bw, 0, none⟩) 4 4, .slice (some ⟨bt, 0, none⟩) 4 4, x18, x19, x20, x21, .pointer (some ⟨g, 0, none⟩), x23, x24, x25, x26, x27, x28, x29, x30, x31, x32, x33, x34, x35, x36, x37, x38, x39, x40, x41, x42, x43, x44, x45, x46, x47, x48, x49, x50, x51, x52, x53, x54, x55, x56, x57, x58, x59, x60, x61, x62, x63, x64, x65, x66, x67, x68, x69, x70, x71, x72, x73, x74, x75, x76, x77, x78, x79, x80, x81, x82, x83, x84, x85, x86, x87, x88, x89, x90, x91, x92, x93, x94, x95, x96, x97, x98, x99, x100, x101, x102, x103, x104, x105, x106, x107, x108, x109, x110, x111, x112, x113, x114, x115, x116, x117, x118, x119, x120, x121, x122, x123, x124, x125, x126, x127, x128, x129, x130, x131, x132, x133, x134, x135, x136, x137, x138, x139, x140, x141, x142, x143, x144, x145, x146, x147, x148, x149, x150, x151, x152, x153, x154, x155, x156, x157, x158, x159, x160, x161, x162, x163, x164, x165, x166, x167, x168, x169, x170, x171, x172, x173, x174, x175, x176, x177, x178, x179, x180, x181, x182, x183, x184, x185, x186, x187, x188, x189, x190, x191, x192, x193, x194, x195], []⟩ w := by
  injection hC with hC
  injection hC with hC1 hC2
  subst hC1 hC2
  have key : Live U17 (powerS (fuseS (oursS S 0 a).2 (-1) [] 0)) ∧ Olds (powerS (fuseS (oursS S 0 a).2 (-1) [] 0)) mark v ∧ Keeps (powerS (fuseS (oursS S 0 a).2 (-1) [] 0)) m ∧ Keeps S (m + 16 + 2 * (keysTold S ⟨4, 0⟩).length) := by
    obtain ⟨q1, q2⟩ := ours_old hl (.inr hfi) h0.1 hnew hms ho
    have k3 : Keeps S (m + 16 + 2 * (keysTold S ⟨4, 0⟩).length) := hk.fewer (by omega)
    have k4 := oursS_keeps (a := a) k3
    exact ⟨⟨(q2.fuse _ _ _).power, rfl⟩, (q1.fuse _ _ _).of rfl rfl rfl, powerS_keeps (fuseS_keeps k4 (by simp) (by omega)), k3⟩
  obtain ⟨hl3, ho3, hk3, hk5⟩ := key
  have hob := ours17_spec 0 a h hk5 hok (by omega)
  simp only [A17.val] at hob
  obtain ⟨x0, x1, x2, x3, x4, x5, x6, x7⟩ := act_cells h hA
  have HM0 := Lib.hid h0
  have HQ := Lib.hid hQ
  have HW := Lib.hid hw
  have HT := Lib.hid ht
  have HWC := Lib.hid hwc
  have HTC := Lib.hid htc
  have HOB := Lib.hid hob
  have HL3 := Lib.hid hl3
  have HO3 := Lib.hid ho3
  have HK3 := Lib.hid hk3
  clear hob hl3 ho3 hk3 hk5 h hQ hw ht hwc htc hA hok hl ho hk hfi hnew hms hpl h0 hkl
  go_wp2_with fail
  refine HOB.out.mono ?_
  rintro e w5 ⟨I5, hs5, rfl, h5⟩
  have hfu := fuseC_spec (-1) (.slice none 0 0) [] 0 h5 (ints_nil _) (by simp)
  have HFU := Lib.hid hfu
  have HS5 := Lib.hid hs5
  clear hfu h5 hs5 HOB x0 x1 x2 x3 x4 x5 x6 x7
  go_wp2_with fail
  refine HFU.out.mono ?_
  rintro e w6 ⟨I6, hs6, rfl, h6⟩
  have hpw := power_spec h6
  have HPW := Lib.hid hpw
  have HS6 := Lib.hid (HS5.out.trans hs6)
  clear hpw h6 hs6 HFU
  go_wp2_with fail
  refine HPW.out.mono ?_
  rintro e w7 ⟨rfl, h7⟩
  have h7 : St W I6 w7 (storeHP p (powerS (fuseS (oursS S 0 a).2 (-1) [] 0)) :: l) := h7
  have H7 := Lib.hid h7
  clear h7 HPW
  go_upto_region 35 with fail
  refine old_marks (by assumption) (by kernel_rfl) H7.out HK3.out.inv HM0.out HL3.out HO3.out (HS6.out _ _ HW.out) (HS6.out _ _ HT.out) HWC.out HTC.out ?_
  intro q12 q23 q24 q25 q26 q27 q154 q155 q156 q157 q158 q159 q160 q161 q162 q163 q164 q165 q166 q167 q168 q169 q170 q171 q172 q173 q174 q175 q176 q177 q178 q179 q180 q181 q182 q183 q184 q185 q186 q187 q188 q189 q190 q191 q192 q193 q194 I8 w8 hs8 h8
  have H8 := Lib.hid h8
  have HS8 := Lib.hid (HS6.out.trans hs8)
  clear h8 hs8
  go_wp2_with fail
  exact HQ.out _ _ _ _ _ _ _ _ _ _ _ _ _ _ _ _ _ _ _ _ _ _ _ _ _ _ _ _ _ _ _ _ _ _ _ _ _ _ _ _ _ _ _ _ _ _ _ _ _ _ _ _ _ _ I8 w8 _ HS8.out HL3.out HO3.out HK3.out H8.out
end
theorem string_info : (Try.prog.info? 9).map (fun i => (i.zero, i.size, i.bytes)) = some (some (.string ⟨#[]⟩), 1, 16) := by kernel_rfl
theorem bool_info4 : (Try.prog.info? 4).map (fun i => (i.zero, i.size, i.bytes)) = some (some (.bool false), 1, 1) := by kernel_rfl
theorem make_strings (w : World) : (Instr.makeSlice 44 (.int .i64 4) (.int .i64 4)).run Try.prog w = .ok (.slice (some ⟨w.heap.size, 0, none⟩) 4 4) (w.alloc (.cells (genArr fun _ => .string ⟨#[]⟩) 9)) := by
  obtain ⟨i0, hi0, hz0, hz1, hz2⟩ := info_parts string_info
  have h := run_makeSlice (P := Try.prog) w 44 9 i0 (.string ⟨#[]⟩) Try.underlying44 hi0 hz0 .i64 .i64 4 4 (by decide) (by decide) (by rw [hz1]; decide) (by rw [hz2]; decide) (by decide)
  rw [hz1, show madeCells (Value.string ⟨#[]⟩).cells ((4 : Int).toNat * 1) = genArr fun _ => .string ⟨#[]⟩ by kernel_rfl] at h
  exact h
theorem make_bools4 (w : World) : (Instr.makeSlice 45 (.int .i64 4) (.int .i64 4)).run Try.prog w = .ok (.slice (some ⟨w.heap.size, 0, none⟩) 4 4) (w.alloc (.cells (genArr fun _ => .bool false) 4)) := by
  obtain ⟨i0, hi0, hz0, hz1, hz2⟩ := info_parts bool_info4
  have h := run_makeSlice (P := Try.prog) w 45 4 i0 (.bool false) Try.underlying45 hi0 hz0 .i64 .i64 4 4 (by decide) (by decide) (by rw [hz1]; decide) (by rw [hz2]; decide) (by decide)
  rw [hz1, show madeCells (Value.bool false).cells ((4 : Int).toNat * 1) = genArr fun _ => .bool false by kernel_rfl] at h
  exact h
section
variable {W w : World} {I : Hp} {l : List HP} {p : Nat} {S : Str}
set_option maxRecDepth 4000
set_option maxHeartbeats 8000000
/-- Region 24: the second row of acts. -/
theorem old_twos {a b : Code} {Q : Exit → Act → World → Prop} {K : Act → World → Prop} (hK : ∀ x y, b.wp Try.prog Q x y → K x y) (hC : (Try.f4).body.bind (fromR 24) = some (.seq a b)) {x0 x6 x7 x8 x9 x10 x11 x12 x14 x15 x18 x19 x20 x21 x22 x23 x24 x25 x26 x27 x28 x29 x30 x31 x32 x33 x34 x35 x36 x37 x38 x39 x40 x41 x42 x43 x44 x45 x46 x47 x48 x49 x50 x51 x52 x53 x54 x55 x56 x57 x58 x59 x60 x61 x62 x63 x64 x65 x66 x67 x68 x69 x70 x71 x72 x73 x74 x75 x76 x77 x78 x79 x80 x81 x82 x83 x84 x85 x86 x87 x88 x89 x90 x91 x92 x93 x94 x95 x96 x97 x98 x99 x100 x101 x102 x103 x104 x105 x106 x107 x108 x109 x110 x111 x112 x113 x114 x115 x116 x117 x118 x119 x120 x121 x122 x123 x124 x125 x126 x127 x128 x129 x130 x131 x132 x133 x134 x135 x136 x137 x138 x139 x140 x141 x142 x143 x144 x145 x146 x147 x148 x149 x150 x151 x152 x153 x154 x155 x156 x157 x158 x159 x160 x161 x162 x163 x164 x165 x166 x167 x168 x169 x170 x171 x172 x173 x174 x175 x176 x177 x178 x179 x180 x181 x182 x183 x184 x185 x186 x187 x188 x189 x190 x191 x192 x193 x194 x195 : Value} {A2 Af Ak : Option Addr} {c2 cf ck bw bt : Nat} {two : List A17} {fz kp : List Int} {mark torn : Int} {cw ct : Array Value} {tw tt : TypeId} {v : Int → Option (List Int)}
    (h : St W I w (storeHP p S :: [])) (h0 : 0 < mark ∧ mark ≤ 8) (hl : Live U17 S) (ho : Olds S mark v) (hk : Keeps S 70000) (h1 : RowI I 8 (.slice A2 two.length c2) two.length (two.flatMap A17.vals)) (hok : ∀ a ∈ two, a.ok I) (hl30 : two.length ≤ 30) (hms20 : ∀ a ∈ two, a.ms.length ≤ 20)
    (hf : IntsI I (.slice Af fz.length cf) fz) (hkp : IntsI I (.slice Ak kp.length ck) kp) (hfl : fz.length ≤ 30) (hkpl : kp.length ≤ 20)
    (hw : I bw = some (.cells cw tw)) (ht : I bt = some (.cells ct tt)) (hwc : ∀ i : Nat, i < 4 → cw[i]? = some (.string (strOfNums (padB ((v i).getD []) 0 64)))) (htc : ∀ i : Nat, i < 4 → ct[i]? = some (.bool (v i).isSome))
    (hQ : ∀ (y12 y21 y22 y23 y24 y25 y26 y27 y102 y103 y104 y105 y106 y107 y108 y109 y110 y111 y112 y113 y114 y115 y116 y117 y118 y119 y120 y121 y122 y123 y124 y125 y126 y127 y128 y129 y130 y131 y132 y133 y134 y135 y136 y137 y138 y139 y140 y141 y142 y143 y144 y145 y146 y147 y148 y149 y150 y151 y152 y153 y154 y155 y156 y157 y158 y159 y160 y161 y162 y163 y164 y165 y166 y167 y168 y169 y170 y171 y172 y173 y174 y175 y176 y177 y178 y179 y180 y181 y182 y183 y184 y185 y186 y187 y188 y189 y190 y191 y192 y193 y194 : Value) (I' : Hp) (w' : World) (S' : Str), I.sub I' → St W I' w' (storeHP p S' :: []) → Q .normal ⟨#[x0, .slice A2 two.length c2, .int .i64 mark, .slice Af fz.length cf, .slice Ak kp.length ck, .int .i64 torn, x6, x7, x8, x9, x10, x11, y12, .pointer (some ⟨p, 0, none⟩), x14, x15, .slice (some ⟨bw, 0, none⟩) 4 4, .slice (some ⟨bt, 0, none⟩) 4 4, x18, x19, x20, y21, y22, y23, y24, y25, y26, y27, x28, x29, x30, x31, x32, x33, x34, x35, x36, x37, x38, x39, x40, x41, x42, x43, x44, x45, x46, x47, x48, x49, x50, x51, x52, x53, x54, x55, x56, x57, x58, x59, x60, x61, x62, x63, x64, x65, x66, x67, x68, x69, x70, x71, x72, x73, x74, x75, x76, x77, x78, x79, x80, x81, x82, x83, x84, x85, x86, x87, x88, x89, x90, x91, x92, x93, x94, x95, x96, x97, x98, x99, x100, x101, y102, y103, y104, y105, y106, y107, y108, y109, y110, y111, y112, y113, y114, y115, y116, y117, y118, y119, y120, y121, y122, y123, y124, y125, y126, y127, y128, y129, y130, y131, y132, y133, y134, y135, y136, y137, y138, y139, y140, y141, y142, y143, y144, y145, y146, y147, y148, y149, y150, y151, y152, y153, y154, y155, y156, y157, y158, y159, y160, y161, y162, y163, y164, y165, y166, y167, y168, y169, y170, y171, y172, y173, y174, y175, y176, y177, y178, y179, y180, y181, y182, y183, y184, y185, y186, y187, y188, y189, y190, y191, y192, y193, y194, x195], []⟩ w') :
    a.wp Try.prog (Exit.then K Q) ⟨#[x0, .slice A2 two.length c2, .int .i64 mark, .slice Af fz.length cf, .slice Ak kp.length ck, .int .i64 torn, x6, x7, x8, x9, x10, x11, x12, .pointer (some ⟨p, 0, none⟩), x14, x15, .slice (some ⟨bw, 0, none⟩) 4 4, .slice (some ⟨bt, 0, none⟩) 4 4, x18, x19, x20, x21, x22, x23, x24, x25, x26, x27, x28, x29, x30, x31, x32, x33, x34, x35, x36, x37, x38, x39, x40, x41, x42, x43, x44, x45, x46, x47, x48, x49, x50, x51, x52, x53, x54, x55, x56, x57, x58, x59, x60, x61, x62, x63, x64, x65, x66, x67, x68, x69, x70, x71, x72, x73, x74, x75, x76, x77, x78, x79, x80, x81, x82, x83, x84, x85, x86, x87, x88, x89, x90, x91, x92, x93, x94, x95, x96, x97, x98, x99, x100, x101, x102, x103, x104, x105, x106, x107, x108, x109, x110, x111, x112, x113, x114, x115, x116, x117, x118, x119, x120, x121, x122, x123, x124, x125, x126, x127, x128, x129, x130, x131, x132, x133, x134, x135, x136, x137, x138, x139, x140, x141, x142, x143, x144, x145, x146, x147, x148, x149, x150, x151, x152, x153, x154, x155, x156, x157, x158, x159, x160, x161, x162, x163, x164, x165, x166, x167, x168, x169, x170, x171, x172, x173, x174, x175, x176, x177, x178, x179, x180, x181, x182, x183, x184, x185, x186, x187, x188, x189, x190, x191, x192, x193, x194, x195], []⟩ w := by
  injection hC with hC
  injection hC with hC1 hC2
  subst hC1 hC2
  have hn1 : (two.length : Int) ≤ 9223372036854775807 := by omega
  have hn2 : (fz.length : Int) ≤ 9223372036854775807 := by omega
  have HM0 := Lib.hid h0
  have HQ := Lib.hid hQ
  have H := Lib.hid h
  have HL := Lib.hid hl
  have HO := Lib.hid ho
  have HK0 := Lib.hid hk
  have H1 := Lib.hid h1
  have HOK := Lib.hid hok
  have HF := Lib.hid hf
  have HKP := Lib.hid hkp
  have HKPL := Lib.hid hkpl
  have HMS20 := Lib.hid hms20
  have HW := Lib.hid hw
  have HT := Lib.hid ht
  have HWC := Lib.hid hwc
  have HTC := Lib.hid htc
  clear hQ h hl ho hk h1 hok h0 hf hkp hw ht hwc htc hms20
  go_wp2_with fail
  go_loopw [21] (fun a21 wr => ∃ (i : Nat) (S : Str) (I1 : Hp), a21 = .int .i64 i ∧ i ≤ two.length ∧ Live U17 S ∧ Olds S mark v ∧ Keeps S (70000 - 400 * i) ∧ I.sub I1 ∧ St W I1 wr (storeHP p S :: [])) (fun a21 _ => two.length - (intOf a21).toNat)
  case atStart => exact ⟨0, S, I, rfl, Nat.zero_le _, HL.out, HO.out, HK0.out.fewer (by omega), Hp.sub.refl _, H.out⟩
  case round =>
    obtain ⟨i, S, I1, rfl, hi, hlS, hoS, hkS, hI1, hst⟩ := hrel
    by_cases hlt : i < two.length
    · obtain ⟨a, ha⟩ : ∃ a, two[i]? = some a := ⟨_, List.getElem?_eq_getElem hlt⟩
      obtain ⟨b, off, e1, hc⟩ := rowk_cell (i := i) H1.out hI1 hst (fun _ => rfl) ha
      simp only [Value.slice.injEq, and_true] at e1
      subst e1
      have h0 := HM0.out
      have hoka := A17.ok_mono (HOK.out a (List.mem_of_getElem? ha)) hI1
      have y0 := hc 0 (by omega)
      have y1 := hc 1 (by omega)
      have y2 := hc 2 (by omega)
      have y3 := hc 3 (by omega)
      have y4 := hc 4 (by omega)
      have y5 := hc 5 (by omega)
      have y6 := hc 6 (by omega)
      have y7 := hc 7 (by omega)
      have hml := mild_spec a hst hoka
      obtain ⟨hmok, hmpl⟩ := mild_ok hoka
      have hcml : a.mild.ms.length ≤ 20 := HMS20.out a (List.mem_of_getElem? ha)
      have hfi := fun mv => behind_fine h0 a mv
      have hm2 : 0 ≤ a.mild.newest ∧ a.mild.newest ≤ 15 := by
        show 0 ≤ a.newest % 16 ∧ a.newest % 16 ≤ 15
        omega
      simp only [behind] at hfi
      obtain ⟨B, hB⟩ : ∃ B, a.mild = B := ⟨_, rfl⟩
      rw [hB] at hml hmok hmpl hm2 hcml
      simp only [hB] at hfi
      obtain ⟨Bp, bcp, hbpv, _⟩ := hoka.1
      obtain ⟨Bm, bcm, hbmv, _⟩ := hoka.2.1
      have hmpv := hmok.1
      have hmmv := hmok.2.1
      have hmm := hmok.2.1
      obtain ⟨Cp, ccp, hcpv, _⟩ := hmpv
      obtain ⟨Cm, ccm, hcmv, _⟩ := hmmv
      obtain ⟨b0, b1, b2, b3, b4, b5, bp, bpv, bms, bmv⟩ := a
      obtain ⟨m0, m1, m2, m3, m4, m5, mp, mpv, mms, mmv⟩ := B
      simp only at hbpv hbmv hcpv hcmv hmpl hfi hm2 hmm hcml
      subst hbpv hbmv hcpv hcmv
      simp only [A17.vals, List.getElem?_cons_succ, List.getElem?_cons_zero, Nat.add_zero] at y0 y1 y2 y3 y4 y5 y6 y7
      simp only [A17.val] at hml
      obtain ⟨m7, hm7⟩ : ∃ x, m2 % 8 = x := ⟨_, rfl⟩
      rw [hm7] at hfi
      have hand : bits .and .i64 m2 7 = m7 := (i64_and7 m2).trans hm7
      obtain ⟨m2', hm2'⟩ : ∃ x, mark + m7 = x := ⟨_, rfl⟩
      rw [hm2'] at hfi
      have hnew : mark ≤ m2' := by omega
      have hwr : IntKind.i64.wrap (mark + m7) = m2' := by rw [IntKind.wrap_i64]; omega
      have HML := Lib.hid hml
      have HMOK := Lib.hid hmok
      have HMM := Lib.hid hmm
      have HPL := Lib.hid hmpl
      have HST := Lib.hid hst
      have HFI := Lib.hid hfi
      have HLS := Lib.hid hlS
      have HOS := Lib.hid hoS
      have HKS := Lib.hid hkS
      have HI1 := Lib.hid hI1
      have HNEW := Lib.hid hnew
      have HM2 := Lib.hid (show 0 ≤ m2' ∧ m2' ≤ 100 by omega)
      clear hc ha hoka hml hmok hfi hst hlS hoS hkS hI1 hB hmpl hm2 hm2' h0 hnew hm7 hmm
      go_wp2_with fail
      refine HML.out.mono ?_
      rintro e w5 ⟨rfl, hb5⟩
      have h6 := (HST.out.keep hb5).alloc (.cells #[.int .i64 m0, .int .i64 m1, .int .i64 m2, .int .i64 m3, .int .i64 m4, .int .i64 m5, .slice Cp mp.length ccp, .slice Cm mms.length ccm] 26)
      have z2 := cells_of h6.heap 2
      have ft := frozen_of_row h6.heap 2
      have ltt := h6.lt
      have h7 := (HST.out.keep hb5).alloc (.cells #[.int .i64 m0, .int .i64 m1, .int .i64 m2', .int .i64 m3, .int .i64 m4, .int .i64 m5, .slice Cp mp.length ccp, .slice Cm mms.length ccm] 26)
      have h8 := h7.alloc (.cells #[.int .i64 mark] 3)
      have k7 := cells_of (h8.pull 1 _ rfl).heap 7
      simp at z2 k7
      have h9 := h8.row_shut (size := 1) (n := 1) (xs := [.int .i64 mark]) rfl (Nat.le_refl _) (by unfold maxLen; omega) rfl rfl
      obtain ⟨v9, w9, hr9, h10⟩ := St.ints_append 24 h9 (ints_src h9 HMM.out) (by omega)
      have e9 : [Value.int .i64 mark] ++ mms.map intV = (mark :: mms).map intV := rfl
      have e8 : 1 + mms.length = mms.length + 1 := Nat.add_comm _ _
      obtain ⟨A9, c9, rfl⟩ := is_slice h10.row_owns
      rw [e9, e8] at h10
      rw [e8] at hr9
      have s7 := (h10.pull 1 _ rfl)
      have t7 := cells_of s7.heap 7
      have f7 := frozen_of_row s7.heap 7
      have l7 := s7.lt
      have s8 := s7.setCell 7 (.slice A9 (mms.length + 1) c9)
      simp at t7
      obtain ⟨IA, hsA, eA, s9⟩ := s8.freeze
      obtain ⟨IX, hsX, eX, s10⟩ := s9.freeze_row
      simp only [List.setIfInBounds_toArray, List.set_cons_succ, List.set_cons_zero] at eA
      obtain ⟨w10, hw10⟩ : ∃ x, w9.setCell ⟨w5.heap.size, 7, none⟩ (.slice A9 (mms.length + 1) c9) = x := ⟨_, rfl⟩
      rw [hw10] at s10
      have H10 := Lib.hid (show St W IX w10 (storeHP p S :: []) from s10)
      have EA := Lib.hid (hsX _ _ eA)
      have EX := Lib.hid (show IntsI IX (.slice A9 (mms.length + 1) c9) (mark :: mms) from eX)
      have HSA := Lib.hid (hsA.trans hsX)
      have HW10 := Lib.hid hw10
      simp only [World.size_alloc] at hr9
      have HR9 := Lib.hid hr9
      clear hb5 h6 h7 h8 h9 h10 s7 s8 s9 s10 hsA hsX eA eX hw10 hr9 e8 e9 y0 y1 y2 y3 y4 y5 y6 y7 HML HST z2 k7 hcml
      go_upto_region 30 with (at_builtin; refine Lib.wpList_append_run _ rfl (.tmp 120) (.tmp 122) 24 24 rfl _ _ rfl rfl _ _ HR9.out ?_)
      rw [HW10.out]
      clear t7 f7 l7 HR9 ft ltt hand hwr HMM HW10
      have hokx : A17.ok IX ⟨m0, m1, m2', m3, m4, m5, mp, .slice Cp mp.length ccp, mark :: mms, .slice A9 (mms.length + 1) c9⟩ := by
        obtain ⟨q1, q2, q3, q4, q5, q6, q7, q8⟩ := A17.ok_mono HMOK.out HSA.out
        exact ⟨q1, EX.out, q3, q4, by have := HM2.out; show isI m2'; unfold isI; omega, q6, q7, q8⟩
      have HOKX := Lib.hid hokx
      have HSW := Lib.hid (HI1.out.trans HSA.out)
      have HKX0 := Lib.hid (HKS.out.fewer (n := 69700 - 400 * i + 300) (by omega))
      clear hokx
      by_cases hif : i < fz.length
      · have d3 : decide ((i : Int) < (fz.length : Int)) = true := by rw [decide_eq_true_eq]; omega
        obtain ⟨x, hx⟩ : ∃ x, fz[i]? = some x := ⟨_, List.getElem?_eq_getElem hif⟩
        obtain ⟨bf, of, e3, hcf⟩ := intsI_cell H10.out ((intsIP _ _).mono HSW.out HF.out) hx
        simp only [Value.slice.injEq, and_true] at e3
        subst e3
        by_cases hbit : x % 2 = 1
        · have hb1 : bits .and .i64 x 1 = 1 := (i64_and1 x).trans hbit
          obtain ⟨f7, hf7⟩ : ∃ f7, x / 2 % 8 = f7 := ⟨_, rfl⟩
          have hb7 : bits .and .i64 (x / 2) 7 = f7 := (i64_and7 _).trans hf7
          have hfr : 0 ≤ f7 ∧ f7 < 8 := by omega
          have hfu := fuseC_spec f7 (.slice Ak kp.length ck) kp torn H10.out ((intsIP _ _).mono HSW.out HKP.out) (by have := HKPL.out; omega)
          have HLX := Lib.hid (HLS.out.fuse f7 kp torn)
          have HOX := Lib.hid (HOS.out.fuse f7 kp torn)
          have HKX := Lib.hid (fuseS_keeps (n := f7) (keep := kp) (torn := torn) HKX0.out (by have := HKPL.out; omega) (by omega))
          have HFU := Lib.hid hfu
          clear hfu hx hbit hf7 hfr
          go_upto_region 31 with fail
          go_wp2_with fail
          refine HFU.out.mono ?_
          rintro e w11 ⟨I9, hs9, rfl, h11⟩
          have HX := Lib.hid h11
          have HSX := Lib.hid hs9
          clear h11 hs9 HFU
          go_upto_region 32 with fail
          refine old_act (m := 69700 - 400 * i) (by assumption) (by kernel_rfl) ⟨m0, m1, m2', m3, m4, m5, mp, .slice Cp mp.length ccp, mark :: mms, .slice A9 (mms.length + 1) c9⟩ HX.out HKX.out HM0.out HLX.out HOX.out (HLX.out.keys 0) (HSX.out _ _ EA.out) (A17.ok_mono HOKX.out HSX.out) (by have := HPL.out; simp only; omega) (HFI.out _) HNEW.out (List.mem_cons_self ..) ((HSW.out.trans HSX.out) _ _ HW.out) ((HSW.out.trans HSX.out) _ _ HT.out) HWC.out HTC.out ?_
          intro q12 q23 q24 q25 q26 q27 q147 q148 q149 q150 q151 q152 q153 q154 q155 q156 q157 q158 q159 q160 q161 q162 q163 q164 q165 q166 q167 q168 q169 q170 q171 q172 q173 q174 q175 q176 q177 q178 q179 q180 q181 q182 q183 q184 q185 q186 q187 q188 q189 q190 q191 q192 q193 q194 I8 w8 S8 hs8 hl8 ho8 hk8 h8
          have H8 := Lib.hid h8
          have HL8 := Lib.hid hl8
          have HO8 := Lib.hid ho8
          have HK8 := Lib.hid hk8
          have HS8 := Lib.hid ((HSW.out.trans HSX.out).trans hs8)
          clear h8 hl8 ho8 hk8 hs8
          go_wp2_with fail
          go_roundw
          case rel => exact ⟨i + 1, S8, I8, by go_num, by omega, HL8.out, HO8.out, HK8.out.fewer (by omega), HS8.out, H8.out⟩
          case measure => simp [intOf]; omega
        · have hb1 : bits .and .i64 x 1 = 0 := (i64_and1 x).trans (by omega)
          have HX := H10
          have HKX := HKX0
          have HLX := HLS
          have HOX := HOS
          have HSX := Lib.hid (Hp.sub.refl IX)
          clear hx hbit
          go_upto_region 32 with fail
          refine old_act (m := 69700 - 400 * i) (by assumption) (by kernel_rfl) ⟨m0, m1, m2', m3, m4, m5, mp, .slice Cp mp.length ccp, mark :: mms, .slice A9 (mms.length + 1) c9⟩ HX.out HKX.out HM0.out HLX.out HOX.out (HLX.out.keys 0) (HSX.out _ _ EA.out) (A17.ok_mono HOKX.out HSX.out) (by have := HPL.out; simp only; omega) (HFI.out _) HNEW.out (List.mem_cons_self ..) ((HSW.out.trans HSX.out) _ _ HW.out) ((HSW.out.trans HSX.out) _ _ HT.out) HWC.out HTC.out ?_
          intro q12 q23 q24 q25 q26 q27 q147 q148 q149 q150 q151 q152 q153 q154 q155 q156 q157 q158 q159 q160 q161 q162 q163 q164 q165 q166 q167 q168 q169 q170 q171 q172 q173 q174 q175 q176 q177 q178 q179 q180 q181 q182 q183 q184 q185 q186 q187 q188 q189 q190 q191 q192 q193 q194 I8 w8 S8 hs8 hl8 ho8 hk8 h8
          have H8 := Lib.hid h8
          have HL8 := Lib.hid hl8
          have HO8 := Lib.hid ho8
          have HK8 := Lib.hid hk8
          have HS8 := Lib.hid ((HSW.out.trans HSX.out).trans hs8)
          clear h8 hl8 ho8 hk8 hs8
          go_wp2_with fail
          go_roundw
          case rel => exact ⟨i + 1, S8, I8, by go_num, by omega, HL8.out, HO8.out, HK8.out.fewer (by omega), HS8.out, H8.out⟩
          case measure => simp [intOf]; omega
      · have d3 : decide ((i : Int) < (fz.length : Int)) = false := by rw [decide_eq_false_iff_not]; omega
        have HX := H10
        have HKX := HKX0
        have HLX := HLS
        have HOX := HOS
        have HSX := Lib.hid (Hp.sub.refl IX)
        go_upto_region 32 with fail
        refine old_act (m := 69700 - 400 * i) (by assumption) (by kernel_rfl) ⟨m0, m1, m2', m3, m4, m5, mp, .slice Cp mp.length ccp, mark :: mms, .slice A9 (mms.length + 1) c9⟩ HX.out HKX.out HM0.out HLX.out HOX.out (HLX.out.keys 0) (HSX.out _ _ EA.out) (A17.ok_mono HOKX.out HSX.out) (by have := HPL.out; simp only; omega) (HFI.out _) HNEW.out (List.mem_cons_self ..) ((HSW.out.trans HSX.out) _ _ HW.out) ((HSW.out.trans HSX.out) _ _ HT.out) HWC.out HTC.out ?_
        intro q12 q23 q24 q25 q26 q27 q147 q148 q149 q150 q151 q152 q153 q154 q155 q156 q157 q158 q159 q160 q161 q162 q163 q164 q165 q166 q167 q168 q169 q170 q171 q172 q173 q174 q175 q176 q177 q178 q179 q180 q181 q182 q183 q184 q185 q186 q187 q188 q189 q190 q191 q192 q193 q194 I8 w8 S8 hs8 hl8 ho8 hk8 h8
        have H8 := Lib.hid h8
        have HL8 := Lib.hid hl8
        have HO8 := Lib.hid ho8
        have HK8 := Lib.hid hk8
        have HS8 := Lib.hid ((HSW.out.trans HSX.out).trans hs8)
        clear h8 hl8 ho8 hk8 hs8
        go_wp2_with fail
        go_roundw
        case rel => exact ⟨i + 1, S8, I8, by go_num, by omega, HL8.out, HO8.out, HK8.out.fewer (by omega), HS8.out, H8.out⟩
        case measure => simp [intOf]; omega
    · obtain rfl : i = two.length := by omega
      have H9 := Lib.hid hst
      have HI9 := Lib.hid hI1
      clear hst hI1 hlS hoS hkS
      go_wp2_with fail
      exact HQ.out _ _ _ _ _ _ _ _ _ _ _ _ _ _ _ _ _ _ _ _ _ _ _ _ _ _ _ _ _ _ _ _ _ _ _ _ _ _ _ _ _ _ _ _ _ _ _ _ _ _ _ _ _ _ _ _ _ _ _ _ _ _ _ _ _ _ _ _ _ _ _ _ _ _ _ _ _ _ _ _ _ _ _ _ _ _ _ _ _ _ _ _ _ _ _ _ _ _ _ _ _ I1 _ S HI9.out H9.out
end
end Go.Proofs.Ytbepmbcbcklmlaa
