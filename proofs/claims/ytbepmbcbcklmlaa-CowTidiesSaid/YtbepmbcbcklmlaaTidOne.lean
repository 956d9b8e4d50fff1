/- CowTidies: a Tidy takes nothing that a mark sees. -/
import Derived.Test.YtbepmbcbcklmlaaCowKept
import Derived.Test.YtbepmbcbcklmlaaKnown17
import Derived.Test.YtbepmbcbcklmlaaArgs17
import Derived.Test.YtbepmbcbcklmlaaTwin
import Derived.Deep.CutRange
set_option linter.unusedSimpArgs false
set_option linter.unusedVariables false
set_option linter.unusedSectionVars false
namespace Go.Proofs.Ytbepmbcbcklmlaa
open Go.RowKit
section
variable {W w : World} {I : Hp} {l : List HP} {p p2 : Nat} {S T : Str}
set_option maxRecDepth 4000
set_option maxHeartbeats 8000000
theorem seen_snoc {ms : List Int} {j : Nat} {x : Int} (h : ms[j]? = some x) (below n : Int) : seenB (ms.take (j + 1)) below n = (seenB (ms.take j) below n || (decide (below < x) && decide (x ≤ n))) := by
  unfold seenB
  rw [List.take_add_one, h, List.any_append]
  simp
/-- Region 40: does a mark see a copy. -/
theorem tid_seen {a b : Code} {Q : Exit → Act → World → Prop} {K : Act → World → Prop} (hK : ∀ x y, b.wp Try.prog Q x y → K x y) (hC : (Try.f5).body.bind (fromR 40) = some (.seq a b)) {x0 x1 x2 x3 x4 x5 x6 x8 x9 x10 x11 x12 x13 x14 x15 x16 x17 x18 x19 x20 x22 x26 x27 x28 x29 x30 x31 x32 x33 x34 x35 x36 x37 x38 x39 x40 x41 x42 x43 x44 x45 x46 x47 x48 x49 x50 x51 x52 x53 x54 x55 x56 x57 x58 x59 x60 x61 x62 x63 x64 x65 x66 x67 x68 x69 x70 x71 x72 x73 x74 x75 x76 x77 x78 x79 x80 x81 x82 x83 x84 x85 x86 x87 x88 x89 x90 x91 x92 x93 x94 x95 x96 x97 x98 x99 x100 x101 x102 x103 x104 x105 x106 x107 x108 x109 x110 x111 x112 x113 x114 x115 x116 x117 x118 x119 x120 x121 x122 x123 x124 x125 x126 x127 x128 x129 x130 x131 x132 x133 x134 x135 x136 x137 x138 x139 x140 x141 x142 x143 x144 x145 x146 x147 x148 x149 x150 x151 x152 x153 x154 x155 x156 x157 x158 x159 x160 x161 x162 x163 x164 x165 x166 x167 x168 x169 x170 x171 x172 x173 x174 x175 x176 x177 x178 x179 x180 x181 x182 x183 x184 x185 x186 x187 x188 x189 x190 x191 x192 x193 x194 x195 x196 x197 x198 x199 x200 x201 x202 x203 x204 x205 x206 x207 x208 : Value} {Am Ac : Option Addr} {cm cc : Nat} {ms cs : List Int} (k : Nat) (n below : Int)
    (h : St W I w l) (hmv : IntsI I (.slice Am ms.length cm) ms) (hcv : IntsI I (.slice Ac cs.length cc) cs) (hck : cs[k]? = some n)
    (hQ : ∀ (y26 y160 y161 y162 y163 y164 y165 y166 y167 y168 y169 y170 y171 y172 y173 y174 y175 y176 y177 y178 y179 y180 y181 y182 y183 y184 y185 : Value) (I' : Hp) (w' : World), I.sub I' → St W I' w' l → Q .normal ⟨#[x0, x1, x2, x3, x4, x5, x6, .slice Am ms.length cm, x8, x9, x10, x11, x12, x13, x14, x15, x16, x17, x18, x19, x20, .slice Ac cs.length cc, x22, .int .i64 below, .int .i64 k, .bool (seenB ms below n), y26, x27, x28, x29, x30, x31, x32, x33, x34, x35, x36, x37, x38, x39, x40, x41, x42, x43, x44, x45, x46, x47, x48, x49, x50, x51, x52, x53, x54, x55, x56, x57, x58, x59, x60, x61, x62, x63, x64, x65, x66, x67, x68, x69, x70, x71, x72, x73, x74, x75, x76, x77, x78, x79, x80, x81, x82, x83, x84, x85, x86, x87, x88, x89, x90, x91, x92, x93, x94, x95, x96, x97, x98, x99, x100, x101, x102, x103, x104, x105, x106, x107, x108, x109, x110, x111, x112, x113, x114, x115, x116, x117, x118, x119, x120, x121, x122, x123, x124, x125, x126, x127, x128, x129, x130, x131, x132, x133, x134, x135, x136, x137, x138, x139, x140, x141, x142, x143, x144, x145, x146, x147, x148, x149, x150, x151, x152, x153, x154, x155, x156, x157, x158, x159, y160, y161, y162, y163, y164, y165, y166, y167, y168, y169, y170, y171, y172, y173, y174, y175, y176, y177, y178, y179, y180, y181, y182, y183, y184, y185, x186, x187, x188, x189, x190, x191, x192, x193, x194, x195, x196, x197, x198, x199, x200, x201, x202, x203, x204, x205, x206, x207, x208], []⟩ w') :
    a.wp Try.prog (Exit.then K Q) ⟨#[x0, x1, x2, x3, x4, x5, x6, .slice Am ms.length cm, x8, x9, x10, x11, x12, x13, x14, x15, x16, x17, x18, x19, x20, .slice Ac cs.length cc, x22, .int .i64 below, .int .i64 k, .bool false, x26, x27, x28, x29, x30, x31, x32, x33, x34, x35, x36, x37, x38, x39, x40, x41, x42, x43, x44, x45, x46, x47, x48, x49, x50, x51, x52, x53, x54, x55, x56, x57, x58, x59, x60, x61, x62, x63, x64, x65, x66, x67, x68, x69, x70, x71, x72, x73, x74, x75, x76, x77, x78, x79, x80, x81, x82, x83, x84, x85, x86, x87, x88, x89, x90, x91, x92, x93, x94, x95, x96, x97, x98, x99, x100, x101, x102, x103, x104, x105, x106, x107, x108, x109, x110, x111, x112, x113, x114, x115, x116, x117, x118, x119, x120, x121, x122, x123, x124, x125, x126, x127, x128, x129, x130, x131, x132, x133, x134, x135, x136, x137, x138, x139, x140, x141, x142, x143, x144, x145, x146, x147, x148, x149, x150, x151, x152, x153, x154, x155, x156, x157, x158, x159, x160, x161, x162, x163, x164, x165, x166, x167, x168, x169, x170, x171, x172, x173, x174, x175, x176, x177, x178, x179, x180, x181, x182, x183, x184, x185, x186, x187, x188, x189, x190, x191, x192, x193, x194, x195, x196, x197, x198, x199, x200, x201, x202, x203, x204, x205, x206, x207, x208], []⟩ w := by
  injection hC with hC
  injection hC with hC1 hC2
  subst hC1 hC2
  have HQ := Lib.hid hQ
  have H := Lib.hid h
  have HMV := Lib.hid hmv
  have HCV := Lib.hid hcv
  have HCK := Lib.hid hck
  have hkl := (List.getElem?_eq_some_iff.1 hck).1
  have hlm : (ms.length : Int) ≤ 9223372036854775807 := by obtain ⟨_, _, _, _, q1, q2, _⟩ := hmv; unfold maxLen at q2; omega
  clear hQ h hmv hcv hck
  go_wp2_with fail
  go_loopw [25, 26] (fun a25 a26 wr => ∃ (j : Nat), a26 = .int .i64 j ∧ a25 = .bool (seenB (ms.take j) below n) ∧ j ≤ ms.length ∧ St W I wr l) (fun _ a26 _ => ms.length - (intOf a26).toNat)
  case atStart => exact ⟨0, rfl, rfl, Nat.zero_le _, H.out⟩
  case round =>
    obtain ⟨j, rfl, rfl, hj, hst⟩ := hrel
    by_cases hlt : j < ms.length
    · obtain ⟨x, hx⟩ : ∃ x, ms[j]? = some x := ⟨_, List.getElem?_eq_getElem hlt⟩
      obtain ⟨bm, om, e1, hcm⟩ := intsI_cell hst HMV.out hx
      obtain ⟨bc, oc, e2, hcc⟩ := intsI_cell hst HCV.out HCK.out
      simp only [Value.slice.injEq, and_true] at e1 e2
      subst e1 e2
      have HSN := Lib.hid (seen_snoc hx below n)
      have HST := Lib.hid hst
      obtain ⟨sb, hsb⟩ : ∃ sb, seenB (ms.take j) below n = sb := ⟨_, rfl⟩
      rw [hsb] at HSN ⊢
      clear hx hst hsb
      cases sb with
      | true =>
        have HS2 := Lib.hid (HSN.out.trans (Bool.true_or _))
        go_wp2_with fail
        go_quiet (fail)
        go_wp2_with fail
        go_roundw
        case rel => exact ⟨j + 1, by go_num, by rw [HS2.out], by omega, HST.out.drewN nq⟩
        case measure => simp [intOf]; omega
      | false =>
        cases h1 : decide (below < x) with
        | false =>
          have HS2 := Lib.hid (HSN.out.trans (show _ = false by rw [h1]; rfl))
          go_wp2_with fail
          go_quiet (fail)
          go_wp2_with fail
          go_roundw
          case rel => exact ⟨j + 1, by go_num, by rw [HS2.out], by omega, HST.out.drewN nq⟩
          case measure => simp [intOf]; omega
        | true =>
          cases h2 : decide (x ≤ n) with
          | false =>
            have HS2 := Lib.hid (HSN.out.trans (show _ = false by rw [h1, h2]; rfl))
            go_wp2_with fail
            go_quiet (fail)
            go_wp2_with fail
            go_roundw
            case rel => exact ⟨j + 1, by go_num, by rw [HS2.out], by omega, HST.out.drewN nq⟩
            case measure => simp [intOf]; omega
          | true =>
            have HS2 := Lib.hid (HSN.out.trans (show _ = true by rw [h1, h2]; rfl))
            go_wp2_with fail
            go_quiet (fail)
            go_wp2_with fail
            go_roundw
            case rel => exact ⟨j + 1, by go_num, by rw [HS2.out], by omega, HST.out.drewN nq⟩
            case measure => simp [intOf]; omega
    · obtain rfl : j = ms.length := by omega
      have HST := Lib.hid hst
      clear hst
      go_wp2_with fail
      have hq := HQ.out
      rw [show seenB ms below n = seenB (ms.take ms.length) below n by rw [List.take_length]] at hq
      exact hq _ _ _ _ _ _ _ _ _ _ _ _ _ _ _ _ _ _ _ _ _ _ _ _ _ _ _ I _ (Hp.sub.refl _) HST.out
/-- Region 36: each copy is some mark's. -/
theorem tid_copies {a b : Code} {Q : Exit → Act → World → Prop} {K : Act → World → Prop} (hK : ∀ x y, b.wp Try.prog Q x y → K x y) (hC : (Try.f5).body.bind (fromR 36) = some (.seq a b)) {x0 x1 x2 x3 x4 x6 x8 x11 x12 x13 x14 x15 x16 x17 x18 x19 x20 x24 x25 x26 x27 x28 x29 x30 x31 x32 x33 x34 x35 x36 x37 x38 x39 x40 x41 x42 x43 x44 x45 x46 x47 x48 x49 x50 x51 x52 x53 x54 x55 x56 x57 x58 x59 x60 x61 x62 x63 x64 x65 x66 x67 x68 x69 x70 x71 x72 x73 x74 x75 x76 x77 x78 x79 x80 x81 x82 x83 x84 x85 x86 x87 x88 x89 x90 x91 x92 x93 x94 x95 x96 x97 x98 x99 x100 x101 x102 x103 x104 x105 x106 x107 x108 x109 x110 x111 x112 x113 x114 x115 x116 x117 x118 x119 x120 x121 x122 x123 x124 x125 x126 x127 x128 x129 x130 x131 x132 x133 x134 x135 x136 x137 x138 x139 x140 x141 x142 x143 x144 x145 x146 x147 x148 x149 x150 x151 x152 x153 x154 x155 x156 x157 x158 x159 x160 x161 x162 x163 x164 x165 x166 x167 x168 x169 x170 x171 x172 x173 x174 x175 x176 x177 x178 x179 x180 x181 x182 x183 x184 x185 x186 x187 x188 x189 x190 x191 x192 x193 x194 x195 x196 x197 x198 x199 x200 x201 x202 x203 x204 x205 x206 x207 x208 : Value} {Am Ac : Option Addr} {cm cc : Nat} {ms cs : List Int} (i : Nat)
    (h : St W I w l) (hmv : IntsI I (.slice Am ms.length cm) ms) (hcv : IntsI I (.slice Ac cs.length cc) cs) (hin : Inc cs) (hsn : ∀ n below, n ∈ cs → (below = 0 ∨ (below ∈ cs ∧ below < n)) → seenB ms below n = true)
    (hQ : ∀ (y4 y23 y24 y25 y26 y154 y155 y156 y157 y158 y159 y160 y161 y162 y163 y164 y165 y166 y167 y168 y169 y170 y171 y172 y173 y174 y175 y176 y177 y178 y179 y180 y181 y182 y183 y184 y185 y186 y187 y188 y189 y190 y191 : Value) (I' : Hp) (w' : World), I.sub I' → St W I' w' l → Q .normal ⟨#[x0, x1, x2, x3, y4, .pointer (some ⟨p, 0, none⟩), x6, .slice Am ms.length cm, x8, .pointer (some ⟨p2, 0, none⟩), .int .i64 i, x11, x12, x13, x14, x15, x16, x17, x18, x19, x20, .slice Ac cs.length cc, .int .i64 0, y23, y24, y25, y26, x27, x28, x29, x30, x31, x32, x33, x34, x35, x36, x37, x38, x39, x40, x41, x42, x43, x44, x45, x46, x47, x48, x49, x50, x51, x52, x53, x54, x55, x56, x57, x58, x59, x60, x61, x62, x63, x64, x65, x66, x67, x68, x69, x70, x71, x72, x73, x74, x75, x76, x77, x78, x79, x80, x81, x82, x83, x84, x85, x86, x87, x88, x89, x90, x91, x92, x93, x94, x95, x96, x97, x98, x99, x100, x101, x102, x103, x104, x105, x106, x107, x108, x109, x110, x111, x112, x113, x114, x115, x116, x117, x118, x119, x120, x121, x122, x123, x124, x125, x126, x127, x128, x129, x130, x131, x132, x133, x134, x135, x136, x137, x138, x139, x140, x141, x142, x143, x144, x145, x146, x147, x148, x149, x150, x151, x152, x153, y154, y155, y156, y157, y158, y159, y160, y161, y162, y163, y164, y165, y166, y167, y168, y169, y170, y171, y172, y173, y174, y175, y176, y177, y178, y179, y180, y181, y182, y183, y184, y185, y186, y187, y188, y189, y190, y191, x192, x193, x194, x195, x196, x197, x198, x199, x200, x201, x202, x203, x204, x205, x206, x207, x208], []⟩ w') :
    a.wp Try.prog (Exit.then K Q) ⟨#[x0, x1, x2, x3, x4, .pointer (some ⟨p, 0, none⟩), x6, .slice Am ms.length cm, x8, .pointer (some ⟨p2, 0, none⟩), .int .i64 i, x11, x12, x13, x14, x15, x16, x17, x18, x19, x20, .slice Ac cs.length cc, .int .i64 0, .int .i64 0, x24, x25, x26, x27, x28, x29, x30, x31, x32, x33, x34, x35, x36, x37, x38, x39, x40, x41, x42, x43, x44, x45, x46, x47, x48, x49, x50, x51, x52, x53, x54, x55, x56, x57, x58, x59, x60, x61, x62, x63, x64, x65, x66, x67, x68, x69, x70, x71, x72, x73, x74, x75, x76, x77, x78, x79, x80, x81, x82, x83, x84, x85, x86, x87, x88, x89, x90, x91, x92, x93, x94, x95, x96, x97, x98, x99, x100, x101, x102, x103, x104, x105, x106, x107, x108, x109, x110, x111, x112, x113, x114, x115, x116, x117, x118, x119, x120, x121, x122, x123, x124, x125, x126, x127, x128, x129, x130, x131, x132, x133, x134, x135, x136, x137, x138, x139, x140, x141, x142, x143, x144, x145, x146, x147, x148, x149, x150, x151, x152, x153, x154, x155, x156, x157, x158, x159, x160, x161, x162, x163, x164, x165, x166, x167, x168, x169, x170, x171, x172, x173, x174, x175, x176, x177, x178, x179, x180, x181, x182, x183, x184, x185, x186, x187, x188, x189, x190, x191, x192, x193, x194, x195, x196, x197, x198, x199, x200, x201, x202, x203, x204, x205, x206, x207, x208], []⟩ w := by
  injection hC with hC
  injection hC with hC1 hC2
  subst hC1 hC2
  have HQ := Lib.hid hQ
  have H := Lib.hid h
  have HMV := Lib.hid hmv
  have HCV := Lib.hid hcv
  have HSN := Lib.hid hsn
  have HIN := Lib.hid hin
  have hlc : (cs.length : Int) ≤ 9223372036854775807 := by obtain ⟨_, _, _, _, q1, q2, _⟩ := hcv; unfold maxLen at q2; omega
  clear hQ h hmv hcv hsn hin
  go_wp2_with fail
  go_loopw [23, 24] (fun a23 a24 wr => ∃ (k : Nat) (bl : Int) (I1 : Hp), a24 = .int .i64 k ∧ a23 = .int .i64 bl ∧ k ≤ cs.length ∧ ((k = 0 ∧ bl = 0) ∨ (0 < k ∧ cs[k - 1]? = some bl)) ∧ I.sub I1 ∧ St W I1 wr l) (fun _ a24 _ => cs.length - (intOf a24).toNat)
  case atStart => exact ⟨0, 0, I, rfl, rfl, Nat.zero_le _, .inl ⟨rfl, rfl⟩, Hp.sub.refl _, H.out⟩
  case round =>
    obtain ⟨k, bl, I1, rfl, rfl, hk, hbl, hI1, hst⟩ := hrel
    by_cases hlt : k < cs.length
    · obtain ⟨n, hn⟩ : ∃ n, cs[k]? = some n := ⟨_, List.getElem?_eq_getElem hlt⟩
      have hb : bl = 0 ∨ (bl ∈ cs ∧ bl < n) := by
        rcases hbl with ⟨_, q⟩ | ⟨q1, q2⟩
        · exact .inl q
        · refine .inr ⟨List.mem_of_getElem? q2, ?_⟩
          obtain ⟨r1, r2⟩ := List.getElem?_eq_some_iff.1 q2
          obtain ⟨s1, s2⟩ := List.getElem?_eq_some_iff.1 hn
          have := List.pairwise_iff_getElem.1 HIN.out (k - 1) k r1 s1 (by omega)
          rw [r2, s2] at this
          exact this
      have hse := HSN.out n bl (List.mem_of_getElem? hn) hb
      have HSE := Lib.hid hse
      have HN := Lib.hid hn
      have HST := Lib.hid hst
      have HI1 := Lib.hid hI1
      clear hse hn hst hI1 hb hbl
      go_upto_region 40 with fail
      refine tid_seen (by assumption) (by kernel_rfl) k n bl HST.out ((intsIP _ _).mono HI1.out HMV.out) ((intsIP _ _).mono HI1.out HCV.out) HN.out ?_
      intro z26 z160 z161 z162 z163 z164 z165 z166 z167 z168 z169 z170 z171 z172 z173 z174 z175 z176 z177 z178 z179 z180 z181 z182 z183 z184 z185 I3 w3 hs3 h3
      obtain ⟨bc, oc, e2, hcc⟩ := intsI_cell h3 ((intsIP _ _).mono (HI1.out.trans hs3) HCV.out) HN.out
      simp only [Value.slice.injEq, and_true] at e2
      subst e2
      rw [HSE.out]
      have H3 := Lib.hid h3
      have HS3 := Lib.hid (HI1.out.trans hs3)
      clear h3 hs3
      go_wp2_with fail
      go_roundw
      case rel => exact ⟨k + 1, n, I3, by go_num, rfl, by omega, .inr ⟨by omega, HN.out⟩, HS3.out, H3.out⟩
      case measure => simp [intOf]; omega
    · obtain rfl : k = cs.length := by omega
      have HST := Lib.hid hst
      have HI1 := Lib.hid hI1
      clear hst hI1
      go_wp2_with fail
      exact HQ.out _ _ _ _ _ _ _ _ _ _ _ _ _ _ _ _ _ _ _ _ _ _ _ _ _ _ _ _ _ _ _ _ _ _ _ _ _ _ _ _ _ _ _ I1 _ HI1.out HST.out
/-- Region 22: what is read at each mark. -/
theorem tid_reads {a b : Code} {Q : Exit → Act → World → Prop} {K : Act → World → Prop} (hK : ∀ x y, b.wp Try.prog Q x y → K x y) (hC : (Try.f5).body.bind (fromR 22) = some (.seq a b)) {x0 x1 x2 x3 x4 x6 x8 x11 x12 x13 x14 x15 x16 x17 x18 x19 x20 x21 x22 x23 x24 x25 x26 x27 x28 x29 x30 x31 x32 x33 x34 x35 x36 x37 x38 x39 x40 x41 x42 x43 x44 x45 x46 x47 x48 x49 x50 x51 x52 x53 x54 x55 x56 x57 x58 x59 x60 x61 x62 x63 x64 x65 x66 x67 x68 x69 x70 x71 x72 x73 x74 x75 x76 x77 x78 x79 x80 x81 x82 x83 x84 x85 x86 x87 x88 x89 x90 x91 x92 x93 x94 x95 x96 x97 x98 x99 x100 x101 x102 x103 x104 x105 x106 x107 x108 x109 x110 x111 x112 x113 x114 x115 x116 x117 x118 x119 x120 x121 x122 x123 x124 x125 x126 x127 x128 x129 x130 x131 x132 x133 x134 x135 x136 x137 x138 x139 x140 x141 x142 x143 x144 x145 x146 x147 x148 x149 x150 x151 x152 x153 x154 x155 x156 x157 x158 x159 x160 x161 x162 x163 x164 x165 x166 x167 x168 x169 x170 x171 x172 x173 x174 x175 x176 x177 x178 x179 x180 x181 x182 x183 x184 x185 x186 x187 x188 x189 x190 x191 x192 x193 x194 x195 x196 x197 x198 x199 x200 x201 x202 x203 x204 x205 x206 x207 x208 : Value} {Am : Option Addr} {cm : Nat} {ms : List Int} (i : Nat) {m m2 : Nat}
    (h : St W I w (storeHP p S :: storeHP p2 T :: l)) (hmv : IntsI I (.slice Am ms.length cm) ms) (hml : (ms.length : Int) ≤ 1000) (hkS : Inv S m) (hkT : Inv T m2) (hrd : ∀ snap, (snap = 0 ∨ snap ∈ ms) → creadS T 0 i snap 0 64 = creadS S 0 i snap 0 64 ∧ (creadS S 0 i snap 0 64).2 = 0) (htd : ∀ snap, (snap = 0 ∨ snap ∈ ms) → cthereS T 0 i snap = cthereS S 0 i snap ∧ True)
    (hQ : ∀ (y4 y11 y12 y13 y14 y15 y16 y17 y18 y19 y20 y88 y89 y90 y91 y92 y93 y94 y95 y96 y97 y98 y99 y100 y101 y102 y103 y104 y105 y106 y107 y108 y109 y110 y111 y112 y113 y114 y115 y116 y117 y118 y119 y120 y121 y122 y123 y124 y125 y126 y127 y128 y129 y130 y131 y132 y133 y134 y135 y136 y137 y138 y139 y140 y141 y142 y143 y144 y145 y146 y147 : Value) (I' : Hp) (w' : World), I.sub I' → St W I' w' (storeHP p S :: storeHP p2 T :: l) → Q .normal ⟨#[x0, x1, x2, x3, y4, .pointer (some ⟨p, 0, none⟩), x6, .slice Am ms.length cm, x8, .pointer (some ⟨p2, 0, none⟩), .int .i64 i, y11, y12, y13, y14, y15, y16, y17, y18, y19, y20, x21, x22, x23, x24, x25, x26, x27, x28, x29, x30, x31, x32, x33, x34, x35, x36, x37, x38, x39, x40, x41, x42, x43, x44, x45, x46, x47, x48, x49, x50, x51, x52, x53, x54, x55, x56, x57, x58, x59, x60, x61, x62, x63, x64, x65, x66, x67, x68, x69, x70, x71, x72, x73, x74, x75, x76, x77, x78, x79, x80, x81, x82, x83, x84, x85, x86, x87, y88, y89, y90, y91, y92, y93, y94, y95, y96, y97, y98, y99, y100, y101, y102, y103, y104, y105, y106, y107, y108, y109, y110, y111, y112, y113, y114, y115, y116, y117, y118, y119, y120, y121, y122, y123, y124, y125, y126, y127, y128, y129, y130, y131, y132, y133, y134, y135, y136, y137, y138, y139, y140, y141, y142, y143, y144, y145, y146, y147, x148, x149, x150, x151, x152, x153, x154, x155, x156, x157, x158, x159, x160, x161, x162, x163, x164, x165, x166, x167, x168, x169, x170, x171, x172, x173, x174, x175, x176, x177, x178, x179, x180, x181, x182, x183, x184, x185, x186, x187, x188, x189, x190, x191, x192, x193, x194, x195, x196, x197, x198, x199, x200, x201, x202, x203, x204, x205, x206, x207, x208], []⟩ w') :
    a.wp Try.prog (Exit.then K Q) ⟨#[x0, x1, x2, x3, x4, .pointer (some ⟨p, 0, none⟩), x6, .slice Am ms.length cm, x8, .pointer (some ⟨p2, 0, none⟩), .int .i64 i, x11, x12, x13, x14, x15, x16, x17, x18, x19, x20, x21, x22, x23, x24, x25, x26, x27, x28, x29, x30, x31, x32, x33, x34, x35, x36, x37, x38, x39, x40, x41, x42, x43, x44, x45, x46, x47, x48, x49, x50, x51, x52, x53, x54, x55, x56, x57, x58, x59, x60, x61, x62, x63, x64, x65, x66, x67, x68, x69, x70, x71, x72, x73, x74, x75, x76, x77, x78, x79, x80, x81, x82, x83, x84, x85, x86, x87, x88, x89, x90, x91, x92, x93, x94, x95, x96, x97, x98, x99, x100, x101, x102, x103, x104, x105, x106, x107, x108, x109, x110, x111, x112, x113, x114, x115, x116, x117, x118, x119, x120, x121, x122, x123, x124, x125, x126, x127, x128, x129, x130, x131, x132, x133, x134, x135, x136, x137, x138, x139, x140, x141, x142, x143, x144, x145, x146, x147, x148, x149, x150, x151, x152, x153, x154, x155, x156, x157, x158, x159, x160, x161, x162, x163, x164, x165, x166, x167, x168, x169, x170, x171, x172, x173, x174, x175, x176, x177, x178, x179, x180, x181, x182, x183, x184, x185, x186, x187, x188, x189, x190, x191, x192, x193, x194, x195, x196, x197, x198, x199, x200, x201, x202, x203, x204, x205, x206, x207, x208], []⟩ w := by
  injection hC with hC
  injection hC with hC1 hC2
  subst hC1 hC2
  have HQ := Lib.hid hQ
  have H := Lib.hid h
  have HMV := Lib.hid hmv
  have HKS := Lib.hid hkS
  have HKT := Lib.hid hkT
  have HRD := Lib.hid hrd
  have HTD := Lib.hid htd
  have hlm : (ms.length : Int) ≤ 1000 := hml
  clear hQ h hmv hkS hkT hrd htd
  go_wp2_with fail
  go_loopw [11] (fun a11 wr => ∃ (k : Nat) (I1 : Hp), a11 = .int .i64 k ∧ k ≤ ms.length + 1 ∧ I.sub I1 ∧ St W I1 wr (storeHP p S :: storeHP p2 T :: l)) (fun a11 _ => ms.length + 1 - (intOf a11).toNat)
  case atStart => exact ⟨0, I, rfl, Nat.zero_le _, Hp.sub.refl _, H.out⟩
  case round =>
    obtain ⟨k, I1, rfl, hk, hI1, hst⟩ := hrel
    by_cases hle : k ≤ ms.length
    · have dle : decide ((k : Int) ≤ (ms.length : Int)) = true := by rw [decide_eq_true_eq]; omega
      by_cases hlt : k < ms.length
      · have dlt : decide ((k : Int) < (ms.length : Int)) = true := by rw [decide_eq_true_eq]; omega
        obtain ⟨x, hx⟩ : ∃ x, ms[k]? = some x := ⟨_, List.getElem?_eq_getElem hlt⟩
        obtain ⟨bm, om, e1, hcm⟩ := intsI_cell hst ((intsIP _ _).mono hI1 HMV.out) hx
        simp only [Value.slice.injEq, and_true] at e1
        subst e1
        have hxm := List.mem_of_getElem? hx
        have hc := cread_spec 0 i x 0 64 hst HKS.out
        obtain ⟨hr1, hr0⟩ := HRD.out x (.inr hxm)
        obtain ⟨⟨bs, er⟩, hrs⟩ : ∃ r, creadS S 0 i x 0 64 = r := ⟨_, rfl⟩
        obtain ⟨ht1, ht0⟩ := HTD.out x (.inr hxm)
        obtain ⟨⟨tb, te⟩, hts⟩ : ∃ r, cthereS S 0 i x = r := ⟨_, rfl⟩
        rw [hrs] at hc hr1 hr0
        rw [hts] at ht1
        simp only at hr0
        subst hr0
        have HC := Lib.hid hc
        have HR1 := Lib.hid hr1
        have HT1 := Lib.hid ht1
        have HTS := Lib.hid hts
        have HI1 := Lib.hid hI1
        clear hc hr1 hrs hst hI1 ht1 ht0 hts
        go_wp2_with fail
        refine HC.out.mono ?_
        rintro e w3 ⟨v3, I3, hs3, rfl, hb3, h3⟩
        have HB3 := Lib.hid hb3
        obtain ⟨A3, c3, rfl, _⟩ := hb3
        have hc := cread_spec 0 i x 0 64 (h3.pull 1 _ rfl) HKT.out
        rw [HR1.out] at hc
        have HC2 := Lib.hid hc
        have HS3 := Lib.hid (HI1.out.trans hs3)
        clear hc h3 hs3 HC
        go_wp2_with fail
        refine HC2.out.mono ?_
        rintro e w4 ⟨v4, I4, hs4, rfl, hb4, h4⟩
        have HB4 := Lib.hid hb4
        obtain ⟨A4, c4, rfl, _⟩ := hb4
        have hc := cthere_spec 0 i x (h4.pull 1 _ rfl) HKS.out
        rw [HTS.out] at hc
        have HC3 := Lib.hid hc
        have HB3 := Lib.hid ((bytesIP _ _).mono hs4 HB3.out)
        have HS4 := Lib.hid (HS3.out.trans hs4)
        clear hc h4 hs4 HC2
        go_wp2_with fail
        refine HC3.out.mono ?_
        rintro e w5 ⟨I5, hs5, rfl, h5⟩
        have hc := cthere_spec 0 i x (h5.pull 1 _ rfl) HKT.out
        rw [HT1.out] at hc
        have HC4 := Lib.hid hc
        have HB3 := Lib.hid ((bytesIP _ _).mono hs5 HB3.out)
        have HB4 := Lib.hid ((bytesIP _ _).mono hs5 HB4.out)
        have HS5 := Lib.hid (HS4.out.trans hs5)
        clear hc h5 hs5 HC3
        go_wp2_with fail
        refine HC4.out.mono ?_
        rintro e w6 ⟨I6, hs6, rfl, h6⟩
        have hst1 := src_string (bytes_src h6 ((bytesIP _ _).mono hs6 HB3.out))
        have hst2 := src_string (bytes_src h6 ((bytesIP _ _).mono hs6 HB4.out))
        have hss : (strOfNums bs != strOfNums bs) = false := by
          show (!(strOfNums bs == strOfNums bs)) = false
          rw [(MapKept.bytes_beq _ _).2 rfl]
          rfl
        have htt : (tb != tb) = false := by cases tb <;> rfl
        have H6 := Lib.hid (h6.pull 1 _ rfl)
        have HS6 := Lib.hid (HS5.out.trans hs6)
        clear h6 hs6 HC4
        go_wp2_with fail
        go_roundw
        case rel => exact ⟨k + 1, I6, by go_num, by omega, HS6.out, H6.out⟩
        case measure => simp [intOf]; omega
      · have dlt : decide ((k : Int) < (ms.length : Int)) = false := by rw [decide_eq_false_iff_not]; omega
        have hc := cread_spec 0 i 0 0 64 hst HKS.out
        obtain ⟨hr1, hr0⟩ := HRD.out 0 (.inl rfl)
        obtain ⟨⟨bs, er⟩, hrs⟩ : ∃ r, creadS S 0 i 0 0 64 = r := ⟨_, rfl⟩
        obtain ⟨ht1, ht0⟩ := HTD.out 0 (.inl rfl)
        obtain ⟨⟨tb, te⟩, hts⟩ : ∃ r, cthereS S 0 i 0 = r := ⟨_, rfl⟩
        rw [hrs] at hc hr1 hr0
        rw [hts] at ht1
        simp only at hr0
        subst hr0
        have HC := Lib.hid hc
        have HR1 := Lib.hid hr1
        have HT1 := Lib.hid ht1
        have HTS := Lib.hid hts
        have HI1 := Lib.hid hI1
        clear hc hr1 hrs hst hI1 ht1 ht0 hts
        go_wp2_with fail
        refine HC.out.mono ?_
        rintro e w3 ⟨v3, I3, hs3, rfl, hb3, h3⟩
        have HB3 := Lib.hid hb3
        obtain ⟨A3, c3, rfl, _⟩ := hb3
        have hc := cread_spec 0 i 0 0 64 (h3.pull 1 _ rfl) HKT.out
        rw [HR1.out] at hc
        have HC2 := Lib.hid hc
        have HS3 := Lib.hid (HI1.out.trans hs3)
        clear hc h3 hs3 HC
        go_wp2_with fail
        refine HC2.out.mono ?_
        rintro e w4 ⟨v4, I4, hs4, rfl, hb4, h4⟩
        have HB4 := Lib.hid hb4
        obtain ⟨A4, c4, rfl, _⟩ := hb4
        have hc := cthere_spec 0 i 0 (h4.pull 1 _ rfl) HKS.out
        rw [HTS.out] at hc
        have HC3 := Lib.hid hc
        have HB3 := Lib.hid ((bytesIP _ _).mono hs4 HB3.out)
        have HS4 := Lib.hid (HS3.out.trans hs4)
        clear hc h4 hs4 HC2
        go_wp2_with fail
        refine HC3.out.mono ?_
        rintro e w5 ⟨I5, hs5, rfl, h5⟩
        have hc := cthere_spec 0 i 0 (h5.pull 1 _ rfl) HKT.out
        rw [HT1.out] at hc
        have HC4 := Lib.hid hc
        have HB3 := Lib.hid ((bytesIP _ _).mono hs5 HB3.out)
        have HB4 := Lib.hid ((bytesIP _ _).mono hs5 HB4.out)
        have HS5 := Lib.hid (HS4.out.trans hs5)
        clear hc h5 hs5 HC3
        go_wp2_with fail
        refine HC4.out.mono ?_
        rintro e w6 ⟨I6, hs6, rfl, h6⟩
        have hst1 := src_string (bytes_src h6 ((bytesIP _ _).mono hs6 HB3.out))
        have hst2 := src_string (bytes_src h6 ((bytesIP _ _).mono hs6 HB4.out))
        have hss : (strOfNums bs != strOfNums bs) = false := by
          show (!(strOfNums bs == strOfNums bs)) = false
          rw [(MapKept.bytes_beq _ _).2 rfl]
          rfl
        have htt : (tb != tb) = false := by cases tb <;> rfl
        have H6 := Lib.hid (h6.pull 1 _ rfl)
        have HS6 := Lib.hid (HS5.out.trans hs6)
        clear h6 hs6 HC4
        go_wp2_with fail
        go_roundw
        case rel => exact ⟨k + 1, I6, by go_num, by omega, HS6.out, H6.out⟩
        case measure => simp [intOf]; omega
    · obtain rfl : k = ms.length + 1 := by omega
      have dle : decide (((ms.length + 1 : Nat) : Int) ≤ (ms.length : Int)) = false := by rw [decide_eq_false_iff_not]; omega
      have HST := Lib.hid hst
      have HI1 := Lib.hid hI1
      clear hst hI1
      go_wp2_with fail
      exact HQ.out _ _ _ _ _ _ _ _ _ _ _ _ _ _ _ _ _ _ _ _ _ _ _ _ _ _ _ _ _ _ _ _ _ _ _ _ _ _ _ _ _ _ _ _ _ _ _ _ _ _ _ _ _ _ _ _ _ _ _ _ _ _ _ _ _ _ _ _ _ _ _ I1 _ HI1.out HST.out
end
section
variable {W w : World} {I : Hp} {l : List HP} {p p2 : Nat} {S T : Str}
set_option maxRecDepth 4000
set_option maxHeartbeats 8000000
/-- Region 19: each object. -/
theorem tid_objs {a b : Code} {Q : Exit → Act → World → Prop} {K : Act → World → Prop} (hK : ∀ x y, b.wp Try.prog Q x y → K x y) (hC : (Try.f5).body.bind (fromR 19) = some (.seq a b)) {x0 x1 x2 x3 x4 x6 x8 x10 x11 x12 x13 x14 x15 x16 x17 x18 x19 x20 x21 x22 x23 x24 x25 x26 x27 x28 x29 x30 x31 x32 x33 x34 x35 x36 x37 x38 x39 x40 x41 x42 x43 x44 x45 x46 x47 x48 x49 x50 x51 x52 x53 x54 x55 x56 x57 x58 x59 x60 x61 x62 x63 x64 x65 x66 x67 x68 x69 x70 x71 x72 x73 x74 x75 x76 x77 x78 x79 x80 x81 x82 x83 x84 x85 x86 x87 x88 x89 x90 x91 x92 x93 x94 x95 x96 x97 x98 x99 x100 x101 x102 x103 x104 x105 x106 x107 x108 x109 x110 x111 x112 x113 x114 x115 x116 x117 x118 x119 x120 x121 x122 x123 x124 x125 x126 x127 x128 x129 x130 x131 x132 x133 x134 x135 x136 x137 x138 x139 x140 x141 x142 x143 x144 x145 x146 x147 x148 x149 x150 x151 x152 x153 x154 x155 x156 x157 x158 x159 x160 x161 x162 x163 x164 x165 x166 x167 x168 x169 x170 x171 x172 x173 x174 x175 x176 x177 x178 x179 x180 x181 x182 x183 x184 x185 x186 x187 x188 x189 x190 x191 x192 x193 x194 x195 x196 x197 x198 x199 x200 x201 x202 x203 x204 x205 x206 x207 x208 : Value} {Am : Option Addr} {cm : Nat} {ms : List Int} {m m2 : Nat}
    (h : St W I w (storeHP p S :: storeHP p2 T :: l)) (hmv : IntsI I (.slice Am ms.length cm) ms) (hml : (ms.length : Int) ≤ 1000) (hkS : Inv S m) (hkT : Inv T m2)
    (hrd : ∀ i : Nat, i < 4 → ∀ snap, (snap = 0 ∨ snap ∈ ms) → creadS T 0 i snap 0 64 = creadS S 0 i snap 0 64 ∧ (creadS S 0 i snap 0 64).2 = 0)
    (htd : ∀ i : Nat, i < 4 → ∀ snap, (snap = 0 ∨ snap ∈ ms) → cthereS T 0 i snap = cthereS S 0 i snap ∧ True)
    (hcp : ∀ i : Nat, i < 4 → (ccopiesS S 0 i).2 = 0 ∧ Inc (ccopiesS S 0 i).1 ∧ ∀ n below, n ∈ (ccopiesS S 0 i).1 → (below = 0 ∨ (below ∈ (ccopiesS S 0 i).1 ∧ below < n)) → seenB ms below n = true)
    (hQ : ∀ (y0 y1 y2 y3 y4 y6 y8 y10 y11 y12 y13 y14 y15 y16 y17 y18 y19 y20 y21 y22 y23 y24 y25 y26 y27 y28 y29 y30 y31 y32 y33 y34 y35 y36 y37 y38 y39 y40 y41 y42 y43 y44 y45 y46 y47 y48 y49 y50 y51 y52 y53 y54 y55 y56 y57 y58 y59 y60 y61 y62 y63 y64 y65 y66 y67 y68 y69 y70 y71 y72 y73 y74 y75 y76 y77 y78 y79 y80 y81 y82 y83 y84 y85 y86 y87 y88 y89 y90 y91 y92 y93 y94 y95 y96 y97 y98 y99 y100 y101 y102 y103 y104 y105 y106 y107 y108 y109 y110 y111 y112 y113 y114 y115 y116 y117 y118 y119 y120 y121 y122 y123 y124 y125 y126 y127 y128 y129 y130 y131 y132 y133 y134 y135 y136 y137 y138 y139 y140 y141 y142 y143 y144 y145 y146 y147 y148 y149 y150 y151 y152 y153 y154 y155 y156 y157 y158 y159 y160 y161 y162 y163 y164 y165 y166 y167 y168 y169 y170 y171 y172 y173 y174 y175 y176 y177 y178 y179 y180 y181 y182 y183 y184 y185 y186 y187 y188 y189 y190 y191 y192 y193 y194 y195 y196 y197 y198 y199 y200 y201 y202 y203 y204 y205 y206 y207 y208 : Value) (I' : Hp) (w' : World), I.sub I' → St W I' w' (storeHP p S :: storeHP p2 T :: l) → Q .normal ⟨#[y0, y1, y2, y3, y4, .pointer (some ⟨p, 0, none⟩), y6, .slice Am ms.length cm, y8, .pointer (some ⟨p2, 0, none⟩), y10, y11, y12, y13, y14, y15, y16, y17, y18, y19, y20, y21, y22, y23, y24, y25, y26, y27, y28, y29, y30, y31, y32, y33, y34, y35, y36, y37, y38, y39, y40, y41, y42, y43, y44, y45, y46, y47, y48, y49, y50, y51, y52, y53, y54, y55, y56, y57, y58, y59, y60, y61, y62, y63, y64, y65, y66, y67, y68, y69, y70, y71, y72, y73, y74, y75, y76, y77, y78, y79, y80, y81, y82, y83, y84, y85, y86, y87, y88, y89, y90, y91, y92, y93, y94, y95, y96, y97, y98, y99, y100, y101, y102, y103, y104, y105, y106, y107, y108, y109, y110, y111, y112, y113, y114, y115, y116, y117, y118, y119, y120, y121, y122, y123, y124, y125, y126, y127, y128, y129, y130, y131, y132, y133, y134, y135, y136, y137, y138, y139, y140, y141, y142, y143, y144, y145, y146, y147, y148, y149, y150, y151, y152, y153, y154, y155, y156, y157, y158, y159, y160, y161, y162, y163, y164, y165, y166, y167, y168, y169, y170, y171, y172, y173, y174, y175, y176, y177, y178, y179, y180, y181, y182, y183, y184, y185, y186, y187, y188, y189, y190, y191, y192, y193, y194, y195, y196, y197, y198, y199, y200, y201, y202, y203, y204, y205, y206, y207, y208], []⟩ w') :
    a.wp Try.prog (Exit.then K Q) ⟨#[x0, x1, x2, x3, x4, .pointer (some ⟨p, 0, none⟩), x6, .slice Am ms.length cm, x8, .pointer (some ⟨p2, 0, none⟩), x10, x11, x12, x13, x14, x15, x16, x17, x18, x19, x20, x21, x22, x23, x24, x25, x26, x27, x28, x29, x30, x31, x32, x33, x34, x35, x36, x37, x38, x39, x40, x41, x42, x43, x44, x45, x46, x47, x48, x49, x50, x51, x52, x53, x54, x55, x56, x57, x58, x59, x60, x61, x62, x63, x64, x65, x66, x67, x68, x69, x70, x71, x72, x73, x74, x75, x76, x77, x78, x79, x80, x81, x82, x83, x84, x85, x86, x87, x88, x89, x90, x91, x92, x93, x94, x95, x96, x97, x98, x99, x100, x101, x102, x103, x104, x105, x106, x107, x108, x109, x110, x111, x112, x113, x114, x115, x116, x117, x118, x119, x120, x121, x122, x123, x124, x125, x126, x127, x128, x129, x130, x131, x132, x133, x134, x135, x136, x137, x138, x139, x140, x141, x142, x143, x144, x145, x146, x147, x148, x149, x150, x151, x152, x153, x154, x155, x156, x157, x158, x159, x160, x161, x162, x163, x164, x165, x166, x167, x168, x169, x170, x171, x172, x173, x174, x175, x176, x177, x178, x179, x180, x181, x182, x183, x184, x185, x186, x187, x188, x189, x190, x191, x192, x193, x194, x195, x196, x197, x198, x199, x200, x201, x202, x203, x204, x205, x206, x207, x208], []⟩ w := by
  injection hC with hC
  injection hC with hC1 hC2
  subst hC1 hC2
  have HQ := Lib.hid hQ
  have H := Lib.hid h
  have HMV := Lib.hid hmv
  have HML := Lib.hid hml
  have HKS := Lib.hid hkS
  have HKT := Lib.hid hkT
  have HRD := Lib.hid hrd
  have HTD := Lib.hid htd
  have HCP := Lib.hid hcp
  clear hQ h hmv hml hkS hkT hrd htd hcp
  go_wp2_with fail
  go_loopw [10] (fun a10 wr => ∃ (i : Nat) (I1 : Hp), a10 = .int .i64 i ∧ i ≤ 4 ∧ I.sub I1 ∧ St W I1 wr (storeHP p S :: storeHP p2 T :: l)) (fun a10 _ => 4 - (intOf a10).toNat)
  case atStart => exact ⟨0, I, rfl, by omega, Hp.sub.refl _, H.out⟩
  case round =>
    obtain ⟨i, I1, rfl, hi, hI1, hst⟩ := hrel
    by_cases hlt : i < 4
    · have HST := Lib.hid hst
      have HI1 := Lib.hid hI1
      clear hst hI1
      go_upto_region 22 with fail
      refine tid_reads (by assumption) (by kernel_rfl) i HST.out ((intsIP _ _).mono HI1.out HMV.out) HML.out HKS.out HKT.out (HRD.out i hlt) (HTD.out i hlt) ?_
      intro y4 y11 y12 y13 y14 y15 y16 y17 y18 y19 y20 y88 y89 y90 y91 y92 y93 y94 y95 y96 y97 y98 y99 y100 y101 y102 y103 y104 y105 y106 y107 y108 y109 y110 y111 y112 y113 y114 y115 y116 y117 y118 y119 y120 y121 y122 y123 y124 y125 y126 y127 y128 y129 y130 y131 y132 y133 y134 y135 y136 y137 y138 y139 y140 y141 y142 y143 y144 y145 y146 y147 I3 w3 hs3 h3
      obtain ⟨hc0, hci, hcs⟩ := HCP.out i hlt
      have hc := ccopies_spec 0 i h3 HKS.out
      obtain ⟨⟨cs, er⟩, hre⟩ : ∃ r, ccopiesS S 0 i = r := ⟨_, rfl⟩
      rw [hre] at hc hc0 hci hcs
      simp only at hc0 hci hcs
      subst hc0
      have HC := Lib.hid hc
      have HCI := Lib.hid hci
      have HCS := Lib.hid hcs
      have HS3 := Lib.hid (HI1.out.trans hs3)
      clear hc hci hcs hre h3 hs3 HI1 HST
      go_wp2_with fail
      refine HC.out.mono ?_
      rintro e w4 ⟨v4, I4, hs4, rfl, hv4, h4⟩
      have HV4 := Lib.hid hv4
      obtain ⟨Ac, cc, rfl, _⟩ := hv4
      have H4 := Lib.hid h4
      have HS4 := Lib.hid (HS3.out.trans hs4)
      clear h4 hs4 HC
      go_upto_region 36 with fail
      refine tid_copies (by assumption) (by kernel_rfl) i H4.out ((intsIP _ _).mono HS4.out HMV.out) HV4.out HCI.out HCS.out ?_
      intro z4 z23 z24 z25 z26 z154 z155 z156 z157 z158 z159 z160 z161 z162 z163 z164 z165 z166 z167 z168 z169 z170 z171 z172 z173 z174 z175 z176 z177 z178 z179 z180 z181 z182 z183 z184 z185 z186 z187 z188 z189 z190 z191 I5 w5 hs5 h5
      have H5 := Lib.hid h5
      have HS5 := Lib.hid (HS4.out.trans hs5)
      clear h5 hs5
      go_wp2_with fail
      go_roundw
      case rel => exact ⟨i + 1, I5, by go_num, by omega, HS5.out, H5.out⟩
      case measure => simp [intOf]; omega
    · obtain rfl : i = 4 := by omega
      have H9 := Lib.hid hst
      have HI9 := Lib.hid hI1
      clear hst hI1
      go_wp2_with fail
      exact HQ.out _ _ _ _ _ _ _ _ _ _ _ _ _ _ _ _ _ _ _ _ _ _ _ _ _ _ _ _ _ _ _ _ _ _ _ _ _ _ _ _ _ _ _ _ _ _ _ _ _ _ _ _ _ _ _ _ _ _ _ _ _ _ _ _ _ _ _ _ _ _ _ _ _ _ _ _ _ _ _ _ _ _ _ _ _ _ _ _ _ _ _ _ _ _ _ _ _ _ _ _ _ _ _ _ _ _ _ _ _ _ _ _ _ _ _ _ _ _ _ _ _ _ _ _ _ _ _ _ _ _ _ _ _ _ _ _ _ _ _ _ _ _ _ _ _ _ _ _ _ _ _ _ _ _ _ _ _ _ _ _ _ _ _ _ _ _ _ _ _ _ _ _ _ _ _ _ _ _ _ _ _ _ _ _ _ _ _ _ _ _ _ _ _ _ _ _ _ _ _ _ _ _ _ _ _ _ I1 _ HI9.out H9.out
end
end Go.Proofs.Ytbepmbcbcklmlaa
