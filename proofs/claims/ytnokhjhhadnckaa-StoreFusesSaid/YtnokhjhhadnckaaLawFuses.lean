/- StoreFuses: the walk. -/
import Derived.Test.YtnokhjhhadnckaaFusesPlain
import Derived.Test.YtnokhjhhadnckaaFromS
import Derived.Test.YtnokhjhhadnckaaKnown3
import Derived.Deep.CutRange
set_option linter.unusedSimpArgs false
set_option linter.unusedVariables false
set_option linter.unusedSectionVars false
namespace Go.Proofs.Ytnokhjhhadnckaa
open Go.RowKit
theorem imm_cells12 {W w : World} {I : Hp} {l : List HP} {g : Nat} {t : TypeId} {a0 a1 a2 a3 a4 a5 a6 a7 a8 a9 a10 a11 : Value} (h : St W I w l) (e : I g = some (.cells #[a0, a1, a2, a3, a4, a5, a6, a7, a8, a9, a10, a11] t)) :
    w.cell? ⟨g, 0, none⟩ = some a0 ∧ w.cell? ⟨g, 1, none⟩ = some a1 ∧ w.cell? ⟨g, 2, none⟩ = some a2 ∧ w.cell? ⟨g, 3, none⟩ = some a3 ∧ w.cell? ⟨g, 4, none⟩ = some a4 ∧ w.cell? ⟨g, 5, none⟩ = some a5 ∧
    w.cell? ⟨g, 6, none⟩ = some a6 ∧ w.cell? ⟨g, 7, none⟩ = some a7 ∧ w.cell? ⟨g, 8, none⟩ = some a8 ∧ w.cell? ⟨g, 9, none⟩ = some a9 ∧ w.cell? ⟨g, 10, none⟩ = some a10 ∧ w.cell? ⟨g, 11, none⟩ = some a11 :=
  ⟨St.imm_cell h e 0, St.imm_cell h e 1, St.imm_cell h e 2, St.imm_cell h e 3, St.imm_cell h e 4, St.imm_cell h e 5, St.imm_cell h e 6, St.imm_cell h e 7, St.imm_cell h e 8, St.imm_cell h e 9, St.imm_cell h e 10, St.imm_cell h e 11⟩
theorem St.drop3 {W w : World} {I : Hp} {A B C : HP} (h : St W I w [A, B, C]) : St W I w [A, B] := (h.pull 2 _ rfl).drop
section
variable {W w : World} {I : Hp} {p p2 : Nat} {S T : Str}
set_option maxRecDepth 4000
set_option maxHeartbeats 8000000
/-- From region 24 on: both are read, and show the same. -/
theorem fuses_shows {a b : Code} {Q : Exit → Act → World → Prop} {K : Act → World → Prop} (hK : ∀ x y, b.wp Try.prog Q x y → K x y) (hC : (Try.f7).body.bind (fromR 24) = some (.seq a b)) {x0 x1 x2 x3 x4 x5 x6 x7 x8 x11 x12 x13 x14 x15 x16 x17 x18 x19 x20 x21 x22 x23 x24 x25 x26 x27 x28 x29 x30 x31 x32 x33 x34 x35 x36 x37 x38 x39 x40 x41 x42 x43 x44 x45 x46 x47 x48 x49 x50 x51 x52 x53 x54 x55 x56 x57 x58 x59 x60 x61 x62 x63 x64 x65 x66 x67 x68 x69 x70 x71 x72 x73 x74 x75 x76 x77 x78 x79 x80 x81 x82 x83 x84 x85 x86 x87 x88 x89 x90 x91 x92 x93 x94 x95 x96 x97 x98 x99 x100 x101 x102 x103 x104 x105 x106 x107 x108 x109 x110 x111 x112 x113 x114 x115 x116 x117 x118 x119 x120 x121 x122 x123 x124 x125 x126 x127 x128 x129 x130 x131 x132 x133 x134 x135 x136 x137 x138 x139 x140 x141 x142 x143 x144 : Value} {m m2 : Nat}
    (h : St W I w (storeHP p S :: storeHP p2 T :: [])) (hs : Inv S m) (ht : Inv T m2) (hsh : Shows S T)
    (hQ : ∀ (y0 y1 y2 y3 y4 y5 y6 y7 y8 y11 y12 y13 y14 y15 y16 y17 y18 y19 y20 y21 y22 y23 y24 y25 y26 y27 y28 y29 y30 y31 y32 y33 y34 y35 y36 y37 y38 y39 y40 y41 y42 y43 y44 y45 y46 y47 y48 y49 y50 y51 y52 y53 y54 y55 y56 y57 y58 y59 y60 y61 y62 y63 y64 y65 y66 y67 y68 y69 y70 y71 y72 y73 y74 y75 y76 y77 y78 y79 y80 y81 y82 y83 y84 y85 y86 y87 y88 y89 y90 y91 y92 y93 y94 y95 y96 y97 y98 y99 y100 y101 y102 y103 y104 y105 y106 y107 y108 y109 y110 y111 y112 y113 y114 y115 y116 y117 y118 y119 y120 y121 y122 y123 y124 y125 y126 y127 y128 y129 y130 y131 y132 y133 y134 y135 y136 y137 y138 y139 y140 y141 y142 y143 y144 : Value) (I' : Hp) (w' : World), I.sub I' → St W I' w' (storeHP p S :: storeHP p2 T :: []) → Q .normal ⟨#[y0, y1, y2, y3, y4, y5, y6, y7, y8, .pointer (some ⟨p, 0, none⟩), .pointer (some ⟨p2, 0, none⟩), y11, y12, y13, y14, y15, y16, y17, y18, y19, y20, y21, y22, y23, y24, y25, y26, y27, y28, y29, y30, y31, y32, y33, y34, y35, y36, y37, y38, y39, y40, y41, y42, y43, y44, y45, y46, y47, y48, y49, y50, y51, y52, y53, y54, y55, y56, y57, y58, y59, y60, y61, y62, y63, y64, y65, y66, y67, y68, y69, y70, y71, y72, y73, y74, y75, y76, y77, y78, y79, y80, y81, y82, y83, y84, y85, y86, y87, y88, y89, y90, y91, y92, y93, y94, y95, y96, y97, y98, y99, y100, y101, y102, y103, y104, y105, y106, y107, y108, y109, y110, y111, y112, y113, y114, y115, y116, y117, y118, y119, y120, y121, y122, y123, y124, y125, y126, y127, y128, y129, y130, y131, y132, y133, y134, y135, y136, y137, y138, y139, y140, y141, y142, y143, y144], []⟩ w') :
    a.wp Try.prog (Exit.then K Q) ⟨#[x0, x1, x2, x3, x4, x5, x6, x7, x8, .pointer (some ⟨p, 0, none⟩), .pointer (some ⟨p2, 0, none⟩), x11, x12, x13, x14, x15, x16, x17, x18, x19, x20, x21, x22, x23, x24, x25, x26, x27, x28, x29, x30, x31, x32, x33, x34, x35, x36, x37, x38, x39, x40, x41, x42, x43, x44, x45, x46, x47, x48, x49, x50, x51, x52, x53, x54, x55, x56, x57, x58, x59, x60, x61, x62, x63, x64, x65, x66, x67, x68, x69, x70, x71, x72, x73, x74, x75, x76, x77, x78, x79, x80, x81, x82, x83, x84, x85, x86, x87, x88, x89, x90, x91, x92, x93, x94, x95, x96, x97, x98, x99, x100, x101, x102, x103, x104, x105, x106, x107, x108, x109, x110, x111, x112, x113, x114, x115, x116, x117, x118, x119, x120, x121, x122, x123, x124, x125, x126, x127, x128, x129, x130, x131, x132, x133, x134, x135, x136, x137, x138, x139, x140, x141, x142, x143, x144], []⟩ w := by
  injection hC with hC
  injection hC with hC1 hC2
  subst hC1 hC2
  have HQ := Lib.hid hQ
  have H := Lib.hid h
  have HS := Lib.hid hs
  have HT := Lib.hid ht
  have HSH := Lib.hid hsh
  clear hQ h hs ht hsh
  go_wp2_with fail
  go_loopw [15] (fun a15 wr => ∃ (i : Nat) (I1 : Hp), a15 = .int .i64 i ∧ i ≤ 8 ∧ I.sub I1 ∧ St W I1 wr (storeHP p S :: storeHP p2 T :: [])) (fun a15 _ => 8 - (intOf a15).toNat)
  case atStart => exact ⟨0, I, rfl, by omega, Hp.sub.refl _, H.out⟩
  case round =>
    obtain ⟨i, I1, rfl, hi, hI1, hst⟩ := hrel
    by_cases hlt : i < 8
    · have hky := akey_spec ⟨0, i, 0, 0, false, ⟨0, 0, 0, 0⟩, [], .slice none 0 0, ⟨#[]⟩, [], .slice none 0 0⟩ wr
      obtain ⟨⟨k0, k1, k2, k3⟩, hK⟩ : ∃ K, A3.key ⟨0, i, 0, 0, false, ⟨0, 0, 0, 0⟩, [], .slice none 0 0, ⟨#[]⟩, [], .slice none 0 0⟩ = K := ⟨_, rfl⟩
      rw [hK] at hky
      simp only [A3.val] at hky
      have HKY := Lib.hid hky
      have HST := Lib.hid hst
      have HI1 := Lib.hid hI1
      clear hky hK hst hI1
      go_wp2_with fail
      refine HKY.out.mono ?_
      rintro e w3 ⟨rfl, hb3⟩
      obtain ⟨I4, hs4, hI4, h4⟩ := ((HST.out.keep hb3).alloc (.cells #[.int .i64 k0, .int .i64 k1, .int .i64 k2, .int .i64 k3] 27)).freeze
      obtain ⟨x0, x1, x2, x3⟩ := imm_cells4 h4 hI4
      have hr1 := read_spec ⟨k0, k1, k2, k3⟩ 0 1048576 h4 HS.out
      obtain ⟨⟨bs, er⟩, hrd⟩ : ∃ r, readS S ⟨k0, k1, k2, k3⟩ 0 1048576 = r := ⟨_, rfl⟩
      have hrd2 : readS T ⟨k0, k1, k2, k3⟩ 0 1048576 = (bs, er) := (HSH.out.read _ _ _).symm.trans hrd
      rw [hrd] at hr1
      simp only [K4.val] at hr1 ⊢
      have HR1 := Lib.hid hr1
      have H4 := Lib.hid h4
      have HI4 := Lib.hid hI4
      have HS4 := Lib.hid (HI1.out.trans hs4)
      have HRD2 := Lib.hid hrd2
      clear hr1 h4 hI4 hs4 hrd hrd2 hb3
      go_wp2_with fail
      refine HR1.out.mono ?_
      rintro e w5 ⟨hb5, v5, rfl, ho5⟩
      have h5 := H4.out.keep hb5
      obtain ⟨A5, c5, rfl⟩ := is_slice ho5
      have hst1 := SliceSrc.of_owns ho5 (bytes_one bs)
      obtain ⟨z0, z1, z2, z3⟩ := imm_cells4 h5 HI4.out
      have hr2 := read_spec ⟨k0, k1, k2, k3⟩ 0 1048576 (h5.pull 1 _ rfl) HT.out
      rw [HRD2.out] at hr2
      simp only [K4.val] at hr2
      have HR2 := Lib.hid hr2
      have H5 := Lib.hid h5
      have HST1 := Lib.hid hst1
      clear hr2 h5 hst1 hb5 ho5 x0 x1 x2 x3
      go_wp2_with fail
      refine HR2.out.mono ?_
      rintro e w6 ⟨hb6, v6, rfl, ho6⟩
      have h6 := H5.out.keep hb6
      obtain ⟨A6, c6, rfl⟩ := is_slice ho6
      have hs1 := src_string (HST1.out.below hb6)
      have hs2 := src_string (SliceSrc.of_owns ho6 (bytes_one bs))
      have hee : (er != er) = false := by simp
      have hss : (strOfNums bs != strOfNums bs) = false := by
        show (!(strOfNums bs == strOfNums bs)) = false
        rw [(MapKept.bytes_beq _ _).2 rfl]
        rfl
      have H6 := Lib.hid h6
      clear h6 hb6 ho6 z0 z1 z2 z3
      go_wp2_with fail
      go_roundw
      case rel => exact ⟨i + 1, I4, by go_num, by omega, HS4.out, H6.out⟩
      case measure => simp [intOf]; omega
    · obtain rfl : i = 8 := by omega
      have H9 := Lib.hid hst
      have HI9 := Lib.hid hI1
      clear hst hI1
      go_wp2_with fail
      exact HQ.out _ _ _ _ _ _ _ _ _ _ _ _ _ _ _ _ _ _ _ _ _ _ _ _ _ _ _ _ _ _ _ _ _ _ _ _ _ _ _ _ _ _ _ _ _ _ _ _ _ _ _ _ _ _ _ _ _ _ _ _ _ _ _ _ _ _ _ _ _ _ _ _ _ _ _ _ _ _ _ _ _ _ _ _ _ _ _ _ _ _ _ _ _ _ _ _ _ _ _ _ _ _ _ _ _ _ _ _ _ _ _ _ _ _ _ _ _ _ _ _ _ _ _ _ _ _ _ _ _ _ _ _ _ _ _ _ _ _ _ _ _ _ _ I1 _ HI9.out H9.out
/-- From region 18 on: where the fuse took the power, the other one falls. -/
theorem fuses_end {a b c : Code} {Q : Exit → Act → World → Prop} {K K2 : Act → World → Prop} (hK : ∀ x y, b.wp Try.prog (Exit.then K2 Q) x y → K x y) (hK2 : ∀ x y, c.wp Try.prog Q x y → K2 x y) (hC : (Try.f7).body.bind (fromS 18) = some (.seq (.seq a b) c)) {x0 x4 x5 x6 x7 x8 x11 x13 x14 x15 x16 x17 x18 x19 x20 x21 x22 x23 x24 x25 x26 x27 x28 x29 x30 x31 x32 x33 x34 x35 x36 x37 x38 x39 x40 x41 x42 x43 x44 x45 x46 x47 x48 x49 x50 x51 x52 x53 x54 x55 x56 x57 x58 x59 x60 x61 x62 x63 x64 x65 x66 x67 x68 x69 x70 x71 x72 x73 x74 x75 x76 x77 x78 x79 x80 x81 x82 x83 x84 x85 x86 x87 x88 x89 x90 x91 x92 x93 x94 x95 x96 x97 x98 x99 x100 x101 x102 x103 x104 x105 x106 x107 x108 x109 x110 x111 x112 x113 x114 x115 x116 x117 x118 x119 x120 x121 x122 x123 x124 x125 x126 x127 x128 x129 x130 x131 x132 x133 x134 x135 x136 x137 x138 x139 x140 x141 x142 x143 x144 : Value} {m m2 : Nat} (n torn : Int) (kv : Value) (keep : List Int) (fe : Bool)
    (h : St W I w (storeHP p S :: storeHP p2 T :: [])) (hs : Keeps S m) (ht : Keeps T m2) (hkv : IntsI I kv keep) (hkn : keep.length ≤ 1000000) (hon : S.on = !fe) (hd : S.deeds = T.deeds)
    (hf : if fe then S.deeds = n ∧ S = (fallS T keep torn).1 else S.deeds ≤ n ∧ Shows S T)
    (hQ : ∀ (y0 y1 y2 y3 y4 y5 y6 y7 y9 y10 y11 y12 y13 y14 y15 y16 y17 y18 y19 y20 y21 y22 y23 y24 y25 y26 y27 y28 y29 y30 y31 y32 y33 y34 y35 y36 y37 y38 y39 y40 y41 y42 y43 y44 y45 y46 y47 y48 y49 y50 y51 y52 y53 y54 y55 y56 y57 y58 y59 y60 y61 y62 y63 y64 y65 y66 y67 y68 y69 y70 y71 y72 y73 y74 y75 y76 y77 y78 y79 y80 y81 y82 y83 y84 y85 y86 y87 y88 y89 y90 y91 y92 y93 y94 y95 y96 y97 y98 y99 y100 y101 y102 y103 y104 y105 y106 y107 y108 y109 y110 y111 y112 y113 y114 y115 y116 y117 y118 y119 y120 y121 y122 y123 y124 y125 y126 y127 y128 y129 y130 y131 y132 y133 y134 y135 y136 y137 y138 y139 y140 y141 y142 y143 y144 : Value) (w' : World), Below W.heap.size W w' → Q .ret ⟨#[y0, y1, y2, y3, y4, y5, y6, y7, .bool true, y9, y10, y11, y12, y13, y14, y15, y16, y17, y18, y19, y20, y21, y22, y23, y24, y25, y26, y27, y28, y29, y30, y31, y32, y33, y34, y35, y36, y37, y38, y39, y40, y41, y42, y43, y44, y45, y46, y47, y48, y49, y50, y51, y52, y53, y54, y55, y56, y57, y58, y59, y60, y61, y62, y63, y64, y65, y66, y67, y68, y69, y70, y71, y72, y73, y74, y75, y76, y77, y78, y79, y80, y81, y82, y83, y84, y85, y86, y87, y88, y89, y90, y91, y92, y93, y94, y95, y96, y97, y98, y99, y100, y101, y102, y103, y104, y105, y106, y107, y108, y109, y110, y111, y112, y113, y114, y115, y116, y117, y118, y119, y120, y121, y122, y123, y124, y125, y126, y127, y128, y129, y130, y131, y132, y133, y134, y135, y136, y137, y138, y139, y140, y141, y142, y143, y144], []⟩ w') :
    a.wp Try.prog (Exit.then K (Exit.then K2 Q)) ⟨#[x0, .int .i64 n, kv, .int .i64 torn, x4, x5, x6, x7, x8, .pointer (some ⟨p, 0, none⟩), .pointer (some ⟨p2, 0, none⟩), x11, .bool fe, x13, x14, x15, x16, x17, x18, x19, x20, x21, x22, x23, x24, x25, x26, x27, x28, x29, x30, x31, x32, x33, x34, x35, x36, x37, x38, x39, x40, x41, x42, x43, x44, x45, x46, x47, x48, x49, x50, x51, x52, x53, x54, x55, x56, x57, x58, x59, x60, x61, x62, x63, x64, x65, x66, x67, x68, x69, x70, x71, x72, x73, x74, x75, x76, x77, x78, x79, x80, x81, x82, x83, x84, x85, x86, x87, x88, x89, x90, x91, x92, x93, x94, x95, x96, x97, x98, x99, x100, x101, x102, x103, x104, x105, x106, x107, x108, x109, x110, x111, x112, x113, x114, x115, x116, x117, x118, x119, x120, x121, x122, x123, x124, x125, x126, x127, x128, x129, x130, x131, x132, x133, x134, x135, x136, x137, x138, x139, x140, x141, x142, x143, x144], []⟩ w := by
  injection hC with hC
  injection hC with hC hC3
  injection hC with hC1 hC2
  subst hC1 hC2 hC3
  have HKV := Lib.hid hkv
  obtain ⟨Ak, ck, rfl, _⟩ := hkv
  have hon1 := on_spec h
  rw [hon] at hon1
  have hds := deeds_spec h
  have hdt := deeds_spec (h.pull 1 _ rfl)
  rw [← hd] at hdt
  obtain ⟨dd, hdd⟩ : ∃ dd, S.deeds = dd := ⟨_, rfl⟩
  rw [hdd] at hds hdt
  have dne : (dd != dd) = false := by simp
  have HQ := Lib.hid hQ
  have H := Lib.hid h
  have HS := Lib.hid hs
  have HT := Lib.hid ht
  have HON := Lib.hid hon1
  have HDS := Lib.hid hds
  have HDT := Lib.hid hdt
  clear hQ h hs ht hon1 hds hdt hd
  cases fe with
  | true =>
    rw [if_pos rfl, hdd] at hf
    obtain ⟨hdn, hfs⟩ := hf
    have dn : (dd != n) = false := by simp [hdn]
    have HFS := Lib.hid hfs
    have HSO := Lib.hid hon
    clear hfs hon hdd hdn
    simp only [Bool.not_true] at HON
    go_wp2_with fail
    refine HON.out.mono ?_
    rintro e w2 ⟨rfl, rfl⟩
    go_wp2_with fail
    refine HDS.out.mono ?_
    rintro e w2 ⟨rfl, rfl⟩
    go_wp2_with fail
    refine HDT.out.mono ?_
    rintro e w2 ⟨rfl, rfl⟩
    go_wp2_with fail
    refine HDS.out.mono ?_
    rintro e w2 ⟨rfl, rfl⟩
    go_wp2_with fail
    refine (fall_spec (p := p2) (.slice Ak keep.length ck) keep torn (H.out.pull 1 _ rfl) HKV.out hkn (fun _ => HT.out.inv.fewer (by omega))).mono ?_
    rintro e w3 ⟨I3, hs3, rfl, h3⟩
    have H3 := Lib.hid (h3.pull 1 _ rfl)
    clear h3
    go_wp2_with fail
    refine (power_spec H3.out).mono ?_
    rintro e w4 ⟨rfl, h4⟩
    have H4 := Lib.hid (h4.pull 1 _ rfl)
    clear h4
    go_wp2_with fail
    refine (power_spec H4.out).mono ?_
    rintro e w5 ⟨rfl, h5⟩
    have h5x : St W I3 w5 (storeHP p (powerS S) :: storeHP p2 (powerS (fallS T keep torn).1) :: []) := h5.pull 1 _ rfl
    have hsh : Shows (powerS S) (powerS (fallS T keep torn).1) := by
      rw [HFS.out]
      exact ⟨rfl, rfl, rfl⟩
    have hk1 := (powerS_keeps HS.out).inv
    have hk2 := (powerS_keeps (fallS_keeps keep torn HT.out)).inv
    obtain ⟨S5, hS5⟩ : ∃ x, powerS S = x := ⟨_, rfl⟩
    obtain ⟨T5, hT5⟩ : ∃ x, powerS (fallS T keep torn).1 = x := ⟨_, rfl⟩
    rw [hS5, hT5] at h5x hsh
    rw [hS5] at hk1
    rw [hT5] at hk2
    have H5 := Lib.hid h5x
    have HSH := Lib.hid hsh
    have HK1 := Lib.hid hk1
    have HK2 := Lib.hid hk2
    clear h5 h5x hsh hk1 hk2 hS5 hT5
    go_upto_region 24 with fail
    refine fuses_shows (by assumption) (by kernel_rfl) H5.out HK1.out HK2.out HSH.out ?_
    intro y0 y1 y2 y3 y4 y5 y6 y7 y8 y11 y12 y13 y14 y15 y16 y17 y18 y19 y20 y21 y22 y23 y24 y25 y26 y27 y28 y29 y30 y31 y32 y33 y34 y35 y36 y37 y38 y39 y40 y41 y42 y43 y44 y45 y46 y47 y48 y49 y50 y51 y52 y53 y54 y55 y56 y57 y58 y59 y60 y61 y62 y63 y64 y65 y66 y67 y68 y69 y70 y71 y72 y73 y74 y75 y76 y77 y78 y79 y80 y81 y82 y83 y84 y85 y86 y87 y88 y89 y90 y91 y92 y93 y94 y95 y96 y97 y98 y99 y100 y101 y102 y103 y104 y105 y106 y107 y108 y109 y110 y111 y112 y113 y114 y115 y116 y117 y118 y119 y120 y121 y122 y123 y124 y125 y126 y127 y128 y129 y130 y131 y132 y133 y134 y135 y136 y137 y138 y139 y140 y141 y142 y143 y144 I9 w9 hs9 h9
    have hus := used_spec h9
    have hut := used_spec (h9.pull 1 _ rfl)
    rw [← HSH.out.2.2] at hut
    have HUS := Lib.hid hus
    have HUT := Lib.hid hut
    have H9 := Lib.hid h9
    clear hus hut h9
    go_wp2_with fail
    refine HUS.out.mono ?_
    rintro e w2 ⟨rfl, rfl⟩
    go_wp2_with fail
    refine HUT.out.mono ?_
    rintro e w2 ⟨rfl, rfl⟩
    go_wp2_with fail
    refine (known3_spec w9).mono ?_
    rintro e w10 ⟨rfl, hb9⟩
    have HB := Lib.hid (H9.out.below.trans (hb9.mono H9.out.below.size))
    clear hb9
    go_wp2_with fail
    exact HQ.out _ _ _ _ _ _ _ _ _ _ _ _ _ _ _ _ _ _ _ _ _ _ _ _ _ _ _ _ _ _ _ _ _ _ _ _ _ _ _ _ _ _ _ _ _ _ _ _ _ _ _ _ _ _ _ _ _ _ _ _ _ _ _ _ _ _ _ _ _ _ _ _ _ _ _ _ _ _ _ _ _ _ _ _ _ _ _ _ _ _ _ _ _ _ _ _ _ _ _ _ _ _ _ _ _ _ _ _ _ _ _ _ _ _ _ _ _ _ _ _ _ _ _ _ _ _ _ _ _ _ _ _ _ _ _ _ _ _ _ _ _ _ _ _ _ HB.out
  | false =>
    rw [if_neg (by simp), hdd] at hf
    obtain ⟨hdn, hsh⟩ := hf
    have dn : decide (n < dd) = false := by rw [decide_eq_false_iff_not]; omega
    have HSH := Lib.hid hsh
    clear hsh hon hdd hdn
    simp only [Bool.not_false] at HON
    go_wp2_with fail
    refine HON.out.mono ?_
    rintro e w2 ⟨rfl, rfl⟩
    go_wp2_with fail
    refine HDS.out.mono ?_
    rintro e w2 ⟨rfl, rfl⟩
    go_wp2_with fail
    refine HDT.out.mono ?_
    rintro e w2 ⟨rfl, rfl⟩
    go_wp2_with fail
    refine HDS.out.mono ?_
    rintro e w2 ⟨rfl, rfl⟩
    go_upto_region 24 with fail
    refine fuses_shows (by assumption) (by kernel_rfl) H.out HS.out.inv HT.out.inv HSH.out ?_
    intro y0 y1 y2 y3 y4 y5 y6 y7 y8 y11 y12 y13 y14 y15 y16 y17 y18 y19 y20 y21 y22 y23 y24 y25 y26 y27 y28 y29 y30 y31 y32 y33 y34 y35 y36 y37 y38 y39 y40 y41 y42 y43 y44 y45 y46 y47 y48 y49 y50 y51 y52 y53 y54 y55 y56 y57 y58 y59 y60 y61 y62 y63 y64 y65 y66 y67 y68 y69 y70 y71 y72 y73 y74 y75 y76 y77 y78 y79 y80 y81 y82 y83 y84 y85 y86 y87 y88 y89 y90 y91 y92 y93 y94 y95 y96 y97 y98 y99 y100 y101 y102 y103 y104 y105 y106 y107 y108 y109 y110 y111 y112 y113 y114 y115 y116 y117 y118 y119 y120 y121 y122 y123 y124 y125 y126 y127 y128 y129 y130 y131 y132 y133 y134 y135 y136 y137 y138 y139 y140 y141 y142 y143 y144 I9 w9 hs9 h9
    have hus := used_spec h9
    have hut := used_spec (h9.pull 1 _ rfl)
    rw [← HSH.out.2.2] at hut
    have HUS := Lib.hid hus
    have HUT := Lib.hid hut
    have H9 := Lib.hid h9
    clear hus hut h9
    go_wp2_with fail
    refine HUS.out.mono ?_
    rintro e w2 ⟨rfl, rfl⟩
    go_wp2_with fail
    refine HUT.out.mono ?_
    rintro e w2 ⟨rfl, rfl⟩
    go_wp2_with fail
    refine (known3_spec w9).mono ?_
    rintro e w10 ⟨rfl, hb9⟩
    have HB := Lib.hid (H9.out.below.trans (hb9.mono H9.out.below.size))
    clear hb9
    go_wp2_with fail
    exact HQ.out _ _ _ _ _ _ _ _ _ _ _ _ _ _ _ _ _ _ _ _ _ _ _ _ _ _ _ _ _ _ _ _ _ _ _ _ _ _ _ _ _ _ _ _ _ _ _ _ _ _ _ _ _ _ _ _ _ _ _ _ _ _ _ _ _ _ _ _ _ _ _ _ _ _ _ _ _ _ _ _ _ _ _ _ _ _ _ _ _ _ _ _ _ _ _ _ _ _ _ _ _ _ _ _ _ _ _ _ _ _ _ _ _ _ _ _ _ _ _ _ _ _ _ _ _ _ _ _ _ _ _ _ _ _ _ _ _ _ _ _ _ _ _ _ _ HB.out
end
set_option maxRecDepth 4000
set_option maxHeartbeats 8000000
theorem fuses_walk (v0 kv : Value) (ls : List A3) (n torn : Int) (keep : List Int) (W : World) (h1 : RowI W.hp 12 v0 ls.length (ls.flatMap A3.vals)) (hok : ∀ a ∈ ls, a.ok W.hp) (hn : ls.length ≤ maxLen) (hkv : IntsI W.hp kv keep) (hkl : keep.length ≤ maxLen) :
    Calls Try.prog 7 #[v0, .int .i64 n, kv, .int .i64 torn] W fun e w' => e = .returned (.bool true) ∧ Below W.heap.size W w' := by
  have hfs := few_spec v0 ls W h1 hok hn
  have H1 := Lib.hid h1
  have HOK := Lib.hid hok
  have HKV := Lib.hid hkv
  obtain ⟨A1, c1, rfl, _⟩ := h1
  obtain ⟨A2, c2, rfl, _⟩ := hkv
  unfold maxLen at hn hkl
  have hn1 : (ls.length : Int) ≤ 9223372036854775807 := by omega
  have hkl1 : (keep.length : Int) ≤ 9223372036854775807 := by omega
  clear hok
  cases hfw : fewA ls with
  | false =>
    rw [hfw] at hfs
    have HFS := Lib.hid hfs
    clear hfs
    go_enter Try.func7, Try.ntmps7
    go_wp2_with fail
    refine HFS.out.mono ?_
    rintro e w1 ⟨rfl, rfl⟩
    go_wp2_with fail
    refine (known3_spec W).mono ?_
    rintro e w1 ⟨rfl, hb⟩
    have HB := Lib.hid hb
    clear hb
    go_wp2_with fail
    go_ret
    exact ⟨rfl, HB.out⟩
  | true =>
    rw [hfw] at hfs
    have HFS := Lib.hid hfs
    by_cases hk20 : 20 < keep.length
    · have dk : decide (20 < (keep.length : Int)) = true := by rw [decide_eq_true_eq]; omega
      clear hfs
      go_enter Try.func7, Try.ntmps7
      go_wp2_with fail
      refine HFS.out.mono ?_
      rintro e w1 ⟨rfl, rfl⟩
      go_wp2_with fail
      refine (known3_spec W).mono ?_
      rintro e w1 ⟨rfl, hb⟩
      have HB := Lib.hid hb
      clear hb
      go_wp2_with fail
      go_ret
      exact ⟨rfl, HB.out⟩
    · have dk : decide (20 < (keep.length : Int)) = false := by rw [decide_eq_false_iff_not]; omega
      obtain ⟨hl60, hp60⟩ := few_each hfw
      have HP60 := Lib.hid hp60
      obtain ⟨r, hr⟩ : ∃ r, n % 32 = r := ⟨_, rfl⟩
      have hr2 : 0 ≤ r ∧ r < 32 := by omega
      have hand : bits .and .i64 n 31 = r := (i64_and31 n).trans hr
      clear hfs hp60 hr hfw
      go_enter Try.func7, Try.ntmps7
      go_wp2_with fail
      refine HFS.out.mono ?_
      rintro e w1 ⟨rfl, rfl⟩
      go_wp2_with fail
      refine (new_spec 65536 (St.init W)).mono ?_
      rintro e w2 ⟨p, rfl, h2⟩
      have H2 := Lib.hid h2
      clear h2
      go_wp2_with fail
      refine (new_spec 65536 H2.out).mono ?_
      rintro e w3 ⟨p2, rfl, h3⟩
      have H3 := Lib.hid h3
      clear h3
      go_wp2_with fail
      refine (new3_spec 0 H3.out).mono ?_
      rintro e w4 ⟨q, rfl, h4⟩
      have H4 := Lib.hid (h4.pull 2 _ rfl)
      clear h4
      go_wp2_with fail
      refine (fuse_of r _ keep torn H4.out HKV.out (by omega)).mono ?_
      rintro e w5 ⟨I5, hs5, rfl, h5⟩
      rw [show fuseS (newS 65536) r keep torn = sfuse (newS 65536) r keep torn by unfold fuseS; rw [if_pos hr2.1]; rfl] at h5
      have H5 := Lib.hid h5
      have HS5 := Lib.hid hs5
      clear h5 hs5 H2 H3 H4 HFS
      go_wp2_with fail
      go_loopw [12, 13] (fun a12 a13 wr => ∃ (i : Nat) (T : Str) (R : RS) (f : Int) (I1 : Hp), a12 = .bool false ∧ a13 = .int .i64 i ∧ i ≤ ls.length ∧ T.armed = false ∧ T.on = true ∧ 0 ≤ f ∧ f + T.deeds = r ∧ 0 ≤ T.deeds ∧ Keeps T (1000 - 4 * i) ∧ RInv R (2 * i) ∧ R.fused = false ∧ W.hp.sub I1 ∧ St W I1 wr (storeHP p (sfuse T f keep torn) :: storeHP p2 T :: refHP q R :: [])) (fun _ a13 _ => ls.length - (intOf a13).toNat)
      case atStart => exact ⟨0, newS 65536, rnew 0, r, I5, rfl, rfl, Nat.zero_le _, rfl, rfl, hr2.1, by show r + 0 = r; omega, Int.le_refl _, (keeps_new 65536).fewer (by omega), rinv_new 0, rfl, HS5.out, H5.out.perm (by ((try simp only [List.eraseIdx_cons_succ, List.eraseIdx_cons_zero, List.cons_append, List.nil_append]); repeat (first | with_reducible exact List.Perm.refl _ | (apply perm_step; (· repeat (first | with_reducible exact find_here | with_reducible apply find_there))))))⟩
      case round =>
        obtain ⟨i, T, R, f, I1, rfl, rfl, hi, har, hon, hf0, hfd, hd0, hkp, hri, hrf, hI1, hst⟩ := hrel
        by_cases hlt : i < ls.length
        · obtain ⟨a, ha⟩ : ∃ a, ls[i]? = some a := ⟨_, List.getElem?_eq_getElem hlt⟩
          obtain ⟨b, off, e1, hc⟩ := rowk_cell (i := i) H1.out hI1 hst (fun _ => rfl) ha
          simp only [Value.slice.injEq, and_true] at e1
          subst e1
          have hoka := A3.ok_up (HOK.out a (List.mem_of_getElem? ha)) hI1
          have hpl := HP60.out a (List.mem_of_getElem? ha)
          have y0 := hc 0 (by omega)
          have y1 := hc 1 (by omega)
          have y2 := hc 2 (by omega)
          have y3 := hc 3 (by omega)
          have y4 := hc 4 (by omega)
          have y5 := hc 5 (by omega)
          have y6 := hc 6 (by omega)
          have y7 := hc 7 (by omega)
          have y8 := hc 8 (by omega)
          have y9 := hc 9 (by omega)
          have y10 := hc 10 (by omega)
          have y11 := hc 11 (by omega)
          have hou := ours_spec a wr hoka.2.2.2.2.2.1 (by obtain ⟨A, c, e, _⟩ := hoka.1; exact ⟨A, c, e⟩) (by obtain ⟨A, c, e, _⟩ := hoka.2.2.2.1; exact ⟨A, c, e⟩)
          have how := ours_what a
          have hook : a.ours.ok I1 := by
            obtain ⟨g1, g2, g3, g4, g5, g6, g7⟩ := hoka
            refine ⟨g1, g2, g3, g4, g5, ?_, g7⟩
            unfold isInt
            omega
          have hopl : a.ours.p.length ≤ 60 := hpl
          obtain ⟨b0, b1, b2, b3, b4, ⟨j0, j1, j2, j3⟩, ap, av, an, ak, akv⟩ := a
          obtain ⟨Ap, cp, e1, _⟩ := hoka.1
          obtain ⟨Ak, ck, e2, _⟩ := hoka.2.2.2.1
          simp only at e1 e2
          subst e1 e2
          simp only [A3.vals, List.getElem?_cons_succ, List.getElem?_cons_zero, Nat.add_zero] at y0 y1 y2 y3 y4 y5 y6 y7 y8 y9 y10 y11
          obtain ⟨x, hx⟩ : ∃ x, b0 % 18446744073709551616 % 7 = x := ⟨_, rfl⟩
          simp only [A3.val, A3.ours] at hou how hook hopl
          rw [hx] at hou how hook
          obtain ⟨a', ha'⟩ : ∃ a', a' = (⟨x, b1, b2, b3, false, ⟨j0, j1, j2, j3⟩, ap, .slice Ap ap.length cp, an, ak, .slice Ak ak.length ck⟩ : A3) := ⟨_, rfl⟩
          have hfu := Fused.act (f := f) keep torn har hon hf0 hd0 (by omega) a'
          have hc2 := actS_keeps (a := a') (hkp.fewer (show 1000 - 4 * i - 2 + 2 ≤ 1000 - 4 * i by omega))
          have hc3 := actS_keeps (a := a') ((sfuse_keeps (torn := torn) hkp (show keep.length ≤ 1000000 by omega) ⟨hf0, by omega⟩).fewer (show 1000 - 4 * i - 2 + 2 ≤ 1000 - 4 * i by omega))
          have HOU := Lib.hid hou
          have HOOK := Lib.hid hook
          have HOW := Lib.hid how
          have HST := Lib.hid hst
          have HKP := Lib.hid hkp
          have HRI := Lib.hid hri
          have HRF := Lib.hid hrf
          have HI1 := Lib.hid hI1
          have HFU := Lib.hid hfu
          have HC2 := Lib.hid hc2
          have HC3 := Lib.hid hc3
          have HON := Lib.hid hon
          have HFD := Lib.hid (show 0 ≤ f ∧ f ≤ 31 ∧ f + T.deeds = r ∧ 0 ≤ T.deeds from ⟨hf0, by omega, hfd, hd0⟩)
          clear hc ha hoka hou hook how hst hkp hri hrf hI1 hfu hc2 hc3 har hon hf0 hfd hd0 hx
          go_wp2_with fail
          refine HOU.out.mono ?_
          rintro e w3 ⟨rfl, hb3⟩
          obtain ⟨I4, hs4, hI4, h4⟩ := ((HST.out.keep hb3).alloc (.cells #[.int .i64 x, .int .i64 b1, .int .i64 b2, .int .i64 b3, .bool false, .int .i64 j0, .int .i64 j1, .int .i64 j2, .int .i64 j3, .slice Ap ap.length cp, .string an, .slice Ak ak.length ck] 50)).freeze
          have hok4 := A3.ok_up HOOK.out hs4
          have hde := deed_calm (p := p) a' (by rw [ha']; exact HOW.out) (St.perm (m := storeHP p (sfuse T f keep torn) :: refHP q R :: [storeHP p2 T]) h4 (by ((try simp only [List.eraseIdx_cons_succ, List.eraseIdx_cons_zero, List.cons_append, List.nil_append]); repeat (first | with_reducible exact List.Perm.refl _ | (apply perm_step; (· repeat (first | with_reducible exact find_here | with_reducible apply find_there))))))) (sfuse_keeps (torn := torn) HKP.out (show keep.length ≤ 1000000 by omega) ⟨HFD.out.1, by have := HFD.out; omega⟩) HRI.out (by omega) (by rw [ha']; exact hok4) (by rw [ha']; exact hopl) HRF.out
          rw [ha'] at hde
          simp only [A3.val] at hde
          rw [← ha'] at hde
          have HDE := Lib.hid hde
          have H4 := Lib.hid h4
          have HI4 := Lib.hid hI4
          have HS4 := Lib.hid (HI1.out.trans hs4)
          have HOK4 := Lib.hid hok4
          clear hde hs4 hok4 hb3 HOU y0 y1 y2 y3 y4 y5 y6 y7 y8 y9 y10 y11
          obtain ⟨z0, z1, z2, z3, z4, z5, z6, z7, z8, z9, z10, z11⟩ := imm_cells12 h4 HI4.out
          clear h4 hI4
          go_wp2_with fail
          refine HDE.out.mono ?_
          rintro e w5 ⟨I5, hs5, rfl, h5⟩
          have HI5 := Lib.hid (hs5 _ _ HI4.out)
          rcases HFU.out with ⟨f', hS, hf', hfd', hdd', har', hon'⟩ | ⟨hf0, hS⟩
          · rw [hS] at h5
            have hon5 := on_spec h5
            rw [show (sfuse (actS T a').2 f' keep torn).on = true from hon'] at hon5
            have hok5 := A3.ok_up HOK4.out hs5
            have hri5 := actR_inv (a := a') HRI.out (by rw [ha']; exact hopl) (by omega)
            have hrc5 := actR_calm (a := a') HRF.out
            have hde := deed_calm (p := p2) a' (by rw [ha']; exact HOW.out) (St.perm (m := storeHP p2 T :: refHP q (actR R a').2 :: [storeHP p (sfuse (actS T a').2 f' keep torn)]) h5 (by ((try simp only [List.eraseIdx_cons_succ, List.eraseIdx_cons_zero, List.cons_append, List.nil_append]); repeat (first | with_reducible exact List.Perm.refl _ | (apply perm_step; (· repeat (first | with_reducible exact find_here | with_reducible apply find_there))))))) HKP.out hri5 (by omega) (by rw [ha']; exact hok5) (by rw [ha']; exact hopl) hrc5.1
            rw [ha'] at hde
            simp only [A3.val] at hde
            rw [← ha'] at hde
            have HDE2 := Lib.hid hde
            have HON5 := Lib.hid hon5
            have HRI6 := Lib.hid (actR_inv (a := a') hri5 (by rw [ha']; exact hopl) (by omega))
            have HRC6 := Lib.hid (actR_calm (a := a') hrc5.1)
            have HS5 := Lib.hid (HS4.out.trans hs5)
            have HFF := Lib.hid (show (actS T a').2.armed = false ∧ (actS T a').2.on = true ∧ 0 ≤ f' ∧ f' + (actS T a').2.deeds = r ∧ 0 ≤ (actS T a').2.deeds from ⟨har', hon', hf', by have := HFD.out; omega, by have := HFD.out; omega⟩)
            obtain ⟨z0, z1, z2, z3, z4, z5, z6, z7, z8, z9, z10, z11⟩ := imm_cells12 h5 HI5.out
            clear hde hon5 hok5 hri5 hrc5 h5 hs5 hS hf' hfd' hdd' har' hon' HDE H4
            go_wp2_with fail
            refine HON5.out.mono ?_
            rintro e w6 ⟨rfl, rfl⟩
            go_wp2_with fail
            refine HDE2.out.mono ?_
            rintro e w7 ⟨I7, hs7, rfl, h7⟩
            have H7 := Lib.hid h7
            have HS7 := Lib.hid (HS5.out.trans hs7)
            clear h7 hs7 HDE2 z0 z1 z2 z3 z4 z5 z6 z7 z8 z9 z10 z11
            go_wp2_with fail
            go_roundw
            case rel => exact ⟨i + 1, (actS T a').2, (actR (actR R a').2 a').2, f', I7, rfl, by go_num, by omega, HFF.out.1, HFF.out.2.1, HFF.out.2.2.1, HFF.out.2.2.2.1, HFF.out.2.2.2.2, HC2.out.fewer (by omega), HRI6.out, HRC6.out.1, HS7.out, H7.out.perm (by ((try simp only [List.eraseIdx_cons_succ, List.eraseIdx_cons_zero, List.cons_append, List.nil_append]); repeat (first | with_reducible exact List.Perm.refl _ | (apply perm_step; (· repeat (first | with_reducible exact find_here | with_reducible apply find_there))))))⟩
            case measure => simp [intOf]; omega
          · have hc3 := HC3.out
            rw [hS] at h5 hc3
            have hon5 := on_spec h5
            rw [fallS_off T keep torn HON.out] at hon5
            have HON5 := Lib.hid hon5
            have H5x := Lib.hid (St.perm (m := storeHP p (fallS T keep torn).1 :: storeHP p2 T :: [refHP q (actR R a').2]) h5 (by ((try simp only [List.eraseIdx_cons_succ, List.eraseIdx_cons_zero, List.cons_append, List.nil_append]); repeat (first | with_reducible exact List.Perm.refl _ | (apply perm_step; (· repeat (first | with_reducible exact find_here | with_reducible apply find_there)))))))
            have HC5 := Lib.hid hc3
            have HS5 := Lib.hid hs5
            clear hon5 h5 hs5 hS hc3 HDE H4
            go_wp2_with fail
            refine HON5.out.mono ?_
            rintro e w6 ⟨rfl, rfl⟩
            go_upto_region 18 with fail
            refine fuses_end (by assumption) (by assumption) (by kernel_rfl) r torn _ keep true (St.drop3 H5x.out) HC5.out HKP.out ((intsIP _ _).mono ((HS4.out).trans HS5.out) HKV.out) (by omega) (fallS_off T keep torn HON.out) (fallS_deeds T keep torn) ?_ ?_
            · rw [if_pos rfl]
              exact ⟨by rw [fallS_deeds]; have := HFD.out; omega, rfl⟩
            · intros
              go_ret
              exact ⟨rfl, by assumption⟩
        · obtain rfl : i = ls.length := by omega
          have HST := Lib.hid hst
          have HKP := Lib.hid hkp
          have HI1 := Lib.hid hI1
          clear hst hkp hI1 hri hrf
          go_upto_region 18 with fail
          refine fuses_end (by assumption) (by assumption) (by kernel_rfl) r torn _ keep false (St.drop3 HST.out) (sfuse_keeps (torn := torn) HKP.out (show keep.length ≤ 1000000 by omega) ⟨hf0, by omega⟩) HKP.out ((intsIP _ _).mono HI1.out HKV.out) (by omega) hon rfl ?_ ?_
          · rw [if_neg (by simp)]
            exact ⟨by show T.deeds ≤ r; omega, rfl, rfl, rfl⟩
          · intros
            go_ret
            exact ⟨rfl, by assumption⟩
end Go.Proofs.Ytnokhjhhadnckaa
