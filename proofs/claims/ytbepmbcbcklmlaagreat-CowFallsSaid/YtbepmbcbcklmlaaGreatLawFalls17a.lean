/- CowFalls: the law's walk. -/
import Derived.Test.YtbepmbcbcklmlaaGreatPlaysHead
import Derived.Test.YtbepmbcbcklmlaaGreatKept17
import Derived.Test.YtbepmbcbcklmlaaGreatFallPlain17
import Derived.Test.YtbepmbcbcklmlaaGreatFuseC
set_option linter.unusedSimpArgs false
set_option linter.unusedVariables false
set_option linter.unusedSectionVars false
namespace Go.Proofs.YtbepmbcbcklmlaaGreat
open Go.RowKit
section
variable {W w : World} {I : Hp} {l : List HP} {p : Nat} {S : Str}
set_option maxRecDepth 4000
set_option maxHeartbeats 8000000
/-- Region 20: an act that fell is done again. -/
theorem falls_rep {a1 b1 : Code} {Q : Exit → Act → World → Prop} {K : Act → World → Prop} (hK : ∀ x y, b1.wp Tryz.prog Q x y → K x y) (hC : (Tryz.f4).body.bind (fromR 20) = some (.seq a1 b1)) {x0 x1 x4 x5 x6 x7 x8 x11 x13 x15 x16 x17 x18 x19 x20 x21 x22 x23 x24 x25 x26 x27 x28 x29 x30 x31 x32 x33 x34 x35 x36 x37 x38 x39 x40 x41 x42 x43 x44 x45 x46 x47 x48 x49 x50 x51 x52 x53 x54 x55 x56 x57 x58 x59 x60 x61 x62 x63 x64 x65 x66 x67 x68 x69 x70 x71 x72 x73 x74 x75 x76 x77 x78 x79 x80 x81 x82 x83 x84 x85 x86 x87 x88 x89 x90 x91 x92 x93 x94 x95 x96 x97 x98 x99 x100 x101 x102 x103 x104 x105 x106 x107 x108 x109 x110 x111 x112 x113 x114 x115 x116 x117 x118 x119 x120 x121 x122 x123 x124 x125 x126 x127 x128 x129 x130 x131 x132 x133 x134 x135 x136 x137 x138 x139 x140 x141 x142 x143 x144 x145 x146 x147 x148 x149 x150 x151 : Value} {g : Nat} {rv : Value} {os : List O17} {Ak : Option Addr} {kp : List Int} {ck : Nat} {torn f2 : Int} {m : Nat}
    (a : A17) (h : St W I w (storeHP p S :: l)) (hk : Keeps S (m + 600)) (hud : UpA S (os.map O17.r) a ∨ DnA S (os.map O17.r) a) (hr0 : Right0 (os.map O17.r)) (hlen : os.length = 4) (hrow : RowO I rv os) (hb : ∀ o ∈ os, o.cs.length ≤ 100)
    (hA : I g = some (.cells #[.int .i64 a.what, .int .i64 a.num, .int .i64 a.newest, .int .i64 a.off, .int .i64 a.n, .int .i64 a.snap, a.pv, a.mv] 31)) (hok : a.ok I) (hpl : a.p.length ≤ 64) (hml : a.ms.length ≤ 1000000) (hfi : Fine U17 0 a) (hn : 0 ≤ a.num ∧ a.num ≤ 3) (hkp : IntsI I (.slice Ak kp.length ck) kp) (hkl : kp.length ≤ 1000000)
    (hQ : ∀ (y8 y15 y16 y91 y92 y93 y94 y95 y96 y97 y98 y99 y100 y101 y102 y103 y104 y105 y106 y107 y108 y109 y110 y111 y112 y113 y114 y115 y116 y117 y118 y119 y120 y121 y122 y123 y124 y125 y126 y127 y128 y129 y130 y131 y132 y133 y134 : Value) (I' : Hp) (w' : World) (S' : Str), I.sub I' → UpA S' (os.map O17.r) a → Keeps S' m → St W I' w' (storeHP p S' :: l) → Q .normal ⟨#[x0, x1, .slice Ak kp.length ck, .int .i64 torn, x4, x5, x6, x7, y8, .pointer (some ⟨p, 0, none⟩), rv, x11, .pointer (some ⟨g, 0, none⟩), x13, .int .i64 f2, y15, y16, x17, x18, x19, x20, x21, x22, x23, x24, x25, x26, x27, x28, x29, x30, x31, x32, x33, x34, x35, x36, x37, x38, x39, x40, x41, x42, x43, x44, x45, x46, x47, x48, x49, x50, x51, x52, x53, x54, x55, x56, x57, x58, x59, x60, x61, x62, x63, x64, x65, x66, x67, x68, x69, x70, x71, x72, x73, x74, x75, x76, x77, x78, x79, x80, x81, x82, x83, x84, x85, x86, x87, x88, x89, x90, y91, y92, y93, y94, y95, y96, y97, y98, y99, y100, y101, y102, y103, y104, y105, y106, y107, y108, y109, y110, y111, y112, y113, y114, y115, y116, y117, y118, y119, y120, y121, y122, y123, y124, y125, y126, y127, y128, y129, y130, y131, y132, y133, y134, x135, x136, x137, x138, x139, x140, x141, x142, x143, x144, x145, x146, x147, x148, x149, x150, x151], []⟩ w') :
    a1.wp Tryz.prog (Exit.then K Q) ⟨#[x0, x1, .slice Ak kp.length ck, .int .i64 torn, x4, x5, x6, x7, x8, .pointer (some ⟨p, 0, none⟩), rv, x11, .pointer (some ⟨g, 0, none⟩), x13, .int .i64 f2, x15, x16, x17, x18, x19, x20, x21, x22, x23, x24, x25, x26, x27, x28, x29, x30, x31, x32, x33, x34, x35, x36, x37, x38, x39, x40, x41, x42, x43, x44, x45, x46, x47, x48, x49, x50, x51, x52, x53, x54, x55, x56, x57, x58, x59, x60, x61, x62, x63, x64, x65, x66, x67, x68, x69, x70, x71, x72, x73, x74, x75, x76, x77, x78, x79, x80, x81, x82, x83, x84, x85, x86, x87, x88, x89, x90, x91, x92, x93, x94, x95, x96, x97, x98, x99, x100, x101, x102, x103, x104, x105, x106, x107, x108, x109, x110, x111, x112, x113, x114, x115, x116, x117, x118, x119, x120, x121, x122, x123, x124, x125, x126, x127, x128, x129, x130, x131, x132, x133, x134, x135, x136, x137, x138, x139, x140, x141, x142, x143, x144, x145, x146, x147, x148, x149, x150, x151], []⟩ w := by
  injection hC with hC
  injection hC with hC1 hC2
  subst hC1 hC2
  have HQ := Lib.hid hQ
  have HR0 := Lib.hid hr0
  have HLEN := Lib.hid hlen
  have HROW := Lib.hid hrow
  have HB := Lib.hid hb
  have HA := Lib.hid hA
  have HOK := Lib.hid hok
  have HPL := Lib.hid hpl
  have HML := Lib.hid hml
  have HFI := Lib.hid hfi
  have HN := Lib.hid hn
  have HKP := Lib.hid hkp
  have HKL := Lib.hid hkl
  have H := Lib.hid h
  have HK0 := Lib.hid hk
  have HUD := Lib.hid hud
  clear hQ hr0 hlen hrow hb hA hok hpl hml hfi hn hkp hkl h hk hud
  go_wp2_with fail
  go_loopw [16] (fun a16 wr => ∃ (k : Nat) (T : Str) (I1 : Hp), a16 = .int .i64 k ∧ k ≤ 2 ∧ (UpA T (os.map O17.r) a ∨ (k ≤ 1 ∧ DnA T (os.map O17.r) a)) ∧ Keeps T (m + 300 * (2 - k)) ∧ I.sub I1 ∧ St W I1 wr (storeHP p T :: l)) (fun a16 _ => 2 - (intOf a16).toNat)
  case atStart => exact ⟨0, S, I, rfl, by omega, HUD.out.elim .inl (fun q => .inr ⟨by omega, q⟩), HK0.out, Hp.sub.refl _, H.out⟩
  case round =>
    obtain ⟨k, T0, I1, rfl, hkn, hud, hkt, hI1, hst⟩ := hrel
    rcases hud with hup | ⟨hk1, hdn⟩
    · have hon := on_spec hst
      rw [hup.live.on] at hon
      have HON := Lib.hid hon
      have HUP := Lib.hid hup
      have HKT := Lib.hid hkt
      have HST := Lib.hid hst
      have HI1 := Lib.hid hI1
      clear hon hup hkt hst hI1
      go_wp2_with fail
      refine HON.out.mono ?_
      rintro e w2 ⟨rfl, rfl⟩
      go_wp2_with fail
      exact HQ.out _ _ _ _ _ _ _ _ _ _ _ _ _ _ _ _ _ _ _ _ _ _ _ _ _ _ _ _ _ _ _ _ _ _ _ _ _ _ _ _ _ _ _ _ _ _ _ I1 _ T0 HI1.out HUP.out (HKT.out.fewer (by omega)) HST.out
    · have hon := on_spec hst
      rw [hdn.off] at hon
      have hpw := power_spec hst
      obtain ⟨l1, l2, l3, l4⟩ := hdn.power
      have hkk := powerS_keeps hkt
      have HON := Lib.hid hon
      have HPW := Lib.hid hpw
      have HL1 := Lib.hid l1
      have HL2 := Lib.hid l2
      have HL3 := Lib.hid l3
      have HL4 := Lib.hid l4
      have HKK := Lib.hid hkk
      have HI1 := Lib.hid hI1
      clear hon hpw l1 l2 l3 l4 hkk hI1 hdn hkt hst
      go_wp2_with fail
      refine HON.out.mono ?_
      rintro e w2 ⟨rfl, rfl⟩
      go_wp2_with fail
      refine HPW.out.mono ?_
      rintro e w3 ⟨rfl, h3⟩
      have h3 : St W I1 w3 (storeHP p (powerS T0) :: l) := h3
      have hke := kept17_spec rv os a h3 HKK.out.inv HL1.out (HROW.out.mono HI1.out) (by have := HLEN.out; omega) (fun o ho => by have := HB.out o ho; omega) (A17.ok_mono HOK.out HI1.out) (by have := HML.out; omega)
        (fun i o snap ho hs hm => half_kept HL1.out HR0.out HL3.out (o := o.r) (by rw [List.getElem?_map, ho]; rfl) hs hm)
      simp only [A17.val] at hke
      obtain ⟨x0, x1, x2, x3, x4, x5, x6, x7⟩ := act_cells h3 (HI1.out _ _ HA.out)
      have HKE := Lib.hid hke
      clear hke h3 HPW
      go_wp2_with fail
      refine HKE.out.mono ?_
      rintro e w4 ⟨I4, hs4, rfl, h4⟩
      have HTW0 := Lib.hid h4
      have HJ0 := Lib.hid (HI1.out.trans hs4)
      clear h4 hs4 HKE x0 x1 x2 x3 x4 x5 x6 x7
      obtain ⟨T, hTd⟩ : ∃ T, powerS T0 = T := ⟨_, rfl⟩
      rw [hTd] at HL1 HL2 HL3 HL4 HKK HTW0
      clear hTd
      rcases (show k = 0 ∨ k = 1 by omega) with rfl | rfl
      · rcases (show bits .and .i64 f2 16 = 0 ∨ bits .and .i64 f2 16 = 16 by rw [i64_bit16]; omega) with hb | hb
        · have HT : Hid (Live U17 T ∧ Still T ∧ Half T (os.map O17.r) a) := Lib.hid ⟨HL1.out, HL2.out, HL3.out⟩
          have HKT : Hid (Keeps T (m + 300 * (1 - 0) + 300)) := Lib.hid (HKK.out.fewer (by omega))
          have HTW := HTW0
          have HJ := HJ0
          have HTC := HL4
          obtain ⟨tl, ts, th⟩ := HT.out
          have hkk : Keeps T (m + 300 * (1 - 0) + 16 + 2 * (keysTold T ⟨4, 0⟩).length) := HKT.out.fewer (by have := tl.keys 0; omega)
          have hou := ours17_spec 0 a HTW.out hkk (A17.ok_mono HOK.out HJ.out) (by have := HPL.out; omega)
          have hor := ours_or tl ts HR0.out th HFI.out HN.out
          have hk2 := oursS_keeps (a := a) hkk
          obtain ⟨x0, x1, x2, x3, x4, x5, x6, x7⟩ := act_cells HTW.out (HJ.out _ _ HA.out)
          have hc0 := calm_ok tl HTC.out (a := a) (.inr HFI.out)
          have hor := hor.resolve_right (fun q => by have := q.1; omega)
          clear hc0
          obtain ⟨r1, hr1⟩ : ∃ r, oursS T 0 a = r := ⟨_, rfl⟩
          rw [hr1] at hou hor hk2
          obtain ⟨e1, T1⟩ := r1
          simp only at hou hor hk2
          simp only [A17.val] at hou
          have HOU := Lib.hid hou
          have HK2 := Lib.hid hk2
          clear hou hkk tl ts th hk2 HT HKT HTW
          obtain ⟨o1, o2, o3⟩ := hor
          subst o1
          have HUP := Lib.hid o3
          have HON := Lib.hid o2
          clear o2 o3 hr1
          go_wp2_with fail
          refine HOU.out.mono ?_
          rintro e w7 ⟨I7, hs7, rfl, h7⟩
          have hon := on_spec h7
          have hfu := fuseC_spec (-1) (.slice none 0 0) [] 0 h7 (ints_nil _) (by simp)
          have h7 : St W I7 w7 (storeHP p T1 :: l) := h7
          change Calls _ _ #[_] _ (fun e w' => e = .returned (.bool T1.on) ∧ w7 = w') at hon
          rw [HON.out] at hon
          have HS7 := Lib.hid (HJ.out.trans hs7)
          have HONC := Lib.hid hon
          have HFU := Lib.hid hfu
          clear hon hfu h7 hs7 HOU x0 x1 x2 x3 x4 x5 x6 x7
          go_wp2_with fail
          refine HONC.out.mono ?_
          rintro e w8 ⟨rfl, rfl⟩
          go_wp2_with fail
          refine HFU.out.mono ?_
          rintro e w9 ⟨I9, hs9, rfl, h9⟩
          have H9 := Lib.hid (show St W I9 w9 (storeHP p (fuseS T1 (-1) [] 0) :: l) from h9)
          have HS9 := Lib.hid (HS7.out.trans hs9)
          clear h9 hs9 HFU
          go_wp2_with fail
          go_roundw
          case rel => exact ⟨1, fuseS T1 (-1) [] 0, I9, by go_num, by omega, .inl HUP.out, fuseS_keeps (HK2.out.fewer (by omega)) (by simp) (by omega), HS9.out, H9.out⟩
          case measure => first | (simp [intOf]; done) | (simp [intOf]; omega) | fail
        · obtain ⟨f7, hf7⟩ : ∃ f7, f2 / 32 % 8 = f7 := ⟨_, rfl⟩
          have hb7 : bits .and .i64 (f2 / 32) 7 = f7 := (i64_and7 _).trans hf7
          have hfr : 0 ≤ f7 ∧ f7 < 8 := by omega
          have hfu := fuseC_spec f7 (.slice Ak kp.length ck) kp torn HTW0.out ((intsIP _ _).mono HJ0.out HKP.out) HKL.out
          have HT2 := Lib.hid (fuse_all ⟨HL1.out, HL2.out, HL3.out⟩ f7 kp torn)
          have HKT2 : Hid (Keeps (fuseS T f7 kp torn) (m + 300 * (1 - 0) + 300)) := Lib.hid (fuseS_keeps (HKK.out.fewer (by omega)) HKL.out (by omega))
          have HFU := Lib.hid hfu
          clear hfu hf7 hfr
          go_wp2_with fail
          refine HFU.out.mono ?_
          rintro e w5 ⟨I5, hs5, rfl, h5⟩
          have HTWb := Lib.hid h5
          have HJ := Lib.hid (HJ0.out.trans hs5)
          clear h5 hs5 HFU HL1 HL2 HL3 HL4 HKK HTW0
          obtain ⟨T2, hT2⟩ : ∃ T2, fuseS T f7 kp torn = T2 := ⟨_, rfl⟩
          rw [hT2] at HT2 HKT2 HTWb
          clear hT2
          obtain ⟨T3, hT3⟩ : ∃ T3, T2 = T3 := ⟨_, rfl⟩
          subst hT3
          have HT := HT2
          have HKT := HKT2
          have HTW := HTWb
          clear HT2 HKT2 HTWb
          obtain ⟨tl, ts, th⟩ := HT.out
          have hkk : Keeps T2 (m + 300 * (1 - 0) + 16 + 2 * (keysTold T2 ⟨4, 0⟩).length) := HKT.out.fewer (by have := tl.keys 0; omega)
          have hou := ours17_spec 0 a HTW.out hkk (A17.ok_mono HOK.out HJ.out) (by have := HPL.out; omega)
          have hor := ours_or tl ts HR0.out th HFI.out HN.out
          have hk2 := oursS_keeps (a := a) hkk
          obtain ⟨x0, x1, x2, x3, x4, x5, x6, x7⟩ := act_cells HTW.out (HJ.out _ _ HA.out)
          obtain ⟨r1, hr1⟩ : ∃ r, oursS T2 0 a = r := ⟨_, rfl⟩
          rw [hr1] at hou hor hk2
          obtain ⟨e1, T1⟩ := r1
          simp only at hou hor hk2
          simp only [A17.val] at hou
          have HOU := Lib.hid hou
          have HK2 := Lib.hid hk2
          clear hou hkk tl ts th hk2 HT HKT HTW
          rcases hor with hor | hor
          · obtain ⟨o1, o2, o3⟩ := hor
            subst o1
            have HUP := Lib.hid o3
            have HON := Lib.hid o2
            clear o2 o3 hr1
            go_wp2_with fail
            refine HOU.out.mono ?_
            rintro e w7 ⟨I7, hs7, rfl, h7⟩
            have hon := on_spec h7
            have hfu := fuseC_spec (-1) (.slice none 0 0) [] 0 h7 (ints_nil _) (by simp)
            have h7 : St W I7 w7 (storeHP p T1 :: l) := h7
            change Calls _ _ #[_] _ (fun e w' => e = .returned (.bool T1.on) ∧ w7 = w') at hon
            rw [HON.out] at hon
            have HS7 := Lib.hid (HJ.out.trans hs7)
            have HONC := Lib.hid hon
            have HFU := Lib.hid hfu
            clear hon hfu h7 hs7 HOU x0 x1 x2 x3 x4 x5 x6 x7
            go_wp2_with fail
            refine HONC.out.mono ?_
            rintro e w8 ⟨rfl, rfl⟩
            go_wp2_with fail
            refine HFU.out.mono ?_
            rintro e w9 ⟨I9, hs9, rfl, h9⟩
            have H9 := Lib.hid (show St W I9 w9 (storeHP p (fuseS T1 (-1) [] 0) :: l) from h9)
            have HS9 := Lib.hid (HS7.out.trans hs9)
            clear h9 hs9 HFU
            go_wp2_with fail
            go_roundw
            case rel => exact ⟨1, fuseS T1 (-1) [] 0, I9, by go_num, by omega, .inl HUP.out, fuseS_keeps (HK2.out.fewer (by omega)) (by simp) (by omega), HS9.out, H9.out⟩
            case measure => first | (simp [intOf]; done) | (simp [intOf]; omega) | fail
          · obtain ⟨o1, o2, o3⟩ := hor
            subst o1
            have HUP := Lib.hid o3
            have HON := Lib.hid o2
            clear o2 o3 hr1
            go_wp2_with fail
            refine HOU.out.mono ?_
            rintro e w7 ⟨I7, hs7, rfl, h7⟩
            have hon := on_spec h7
            have hfu := fuseC_spec (-1) (.slice none 0 0) [] 0 h7 (ints_nil _) (by simp)
            have h7 : St W I7 w7 (storeHP p T1 :: l) := h7
            change Calls _ _ #[_] _ (fun e w' => e = .returned (.bool T1.on) ∧ w7 = w') at hon
            rw [HON.out] at hon
            have HS7 := Lib.hid (HJ.out.trans hs7)
            have HONC := Lib.hid hon
            have HFU := Lib.hid hfu
            clear hon hfu h7 hs7 HOU x0 x1 x2 x3 x4 x5 x6 x7
            go_wp2_with fail
            refine HONC.out.mono ?_
            rintro e w8 ⟨rfl, rfl⟩
            go_wp2_with fail
            refine HFU.out.mono ?_
            rintro e w9 ⟨I9, hs9, rfl, h9⟩
            have H9 := Lib.hid (show St W I9 w9 (storeHP p (fuseS T1 (-1) [] 0) :: l) from h9)
            have HS9 := Lib.hid (HS7.out.trans hs9)
            clear h9 hs9 HFU
            go_wp2_with fail
            go_roundw
            case rel => exact ⟨1, fuseS T1 (-1) [] 0, I9, by go_num, by omega, .inr ⟨by omega, HUP.out⟩, fuseS_keeps (HK2.out.fewer (by omega)) (by simp) (by omega), HS9.out, H9.out⟩
            case measure => first | (simp [intOf]; done) | (simp [intOf]; omega) | fail
      · have HT : Hid (Live U17 T ∧ Still T ∧ Half T (os.map O17.r) a) := Lib.hid ⟨HL1.out, HL2.out, HL3.out⟩
        have HKT : Hid (Keeps T (m + 300 * (1 - 1) + 300)) := Lib.hid (HKK.out.fewer (by omega))
        have HTW := HTW0
        have HJ := HJ0
        have HTC := HL4
        obtain ⟨tl, ts, th⟩ := HT.out
        have hkk : Keeps T (m + 300 * (1 - 1) + 16 + 2 * (keysTold T ⟨4, 0⟩).length) := HKT.out.fewer (by have := tl.keys 0; omega)
        have hou := ours17_spec 0 a HTW.out hkk (A17.ok_mono HOK.out HJ.out) (by have := HPL.out; omega)
        have hor := ours_or tl ts HR0.out th HFI.out HN.out
        have hk2 := oursS_keeps (a := a) hkk
        obtain ⟨x0, x1, x2, x3, x4, x5, x6, x7⟩ := act_cells HTW.out (HJ.out _ _ HA.out)
        have hc0 := calm_ok tl HTC.out (a := a) (.inr HFI.out)
        have hor := hor.resolve_right (fun q => by have := q.1; omega)
        clear hc0
        obtain ⟨r1, hr1⟩ : ∃ r, oursS T 0 a = r := ⟨_, rfl⟩
        rw [hr1] at hou hor hk2
        obtain ⟨e1, T1⟩ := r1
        simp only at hou hor hk2
        simp only [A17.val] at hou
        have HOU := Lib.hid hou
        have HK2 := Lib.hid hk2
        clear hou hkk tl ts th hk2 HT HKT HTW
        obtain ⟨o1, o2, o3⟩ := hor
        subst o1
        have HUP := Lib.hid o3
        have HON := Lib.hid o2
        clear o2 o3 hr1
        go_wp2_with fail
        refine HOU.out.mono ?_
        rintro e w7 ⟨I7, hs7, rfl, h7⟩
        have hon := on_spec h7
        have hfu := fuseC_spec (-1) (.slice none 0 0) [] 0 h7 (ints_nil _) (by simp)
        have h7 : St W I7 w7 (storeHP p T1 :: l) := h7
        change Calls _ _ #[_] _ (fun e w' => e = .returned (.bool T1.on) ∧ w7 = w') at hon
        rw [HON.out] at hon
        have HS7 := Lib.hid (HJ.out.trans hs7)
        have HONC := Lib.hid hon
        have HFU := Lib.hid hfu
        clear hon hfu h7 hs7 HOU x0 x1 x2 x3 x4 x5 x6 x7
        go_wp2_with fail
        refine HONC.out.mono ?_
        rintro e w8 ⟨rfl, rfl⟩
        go_wp2_with fail
        refine HFU.out.mono ?_
        rintro e w9 ⟨I9, hs9, rfl, h9⟩
        have H9 := Lib.hid (show St W I9 w9 (storeHP p (fuseS T1 (-1) [] 0) :: l) from h9)
        have HS9 := Lib.hid (HS7.out.trans hs9)
        clear h9 hs9 HFU
        go_wp2_with fail
        go_roundw
        case rel => exact ⟨2, fuseS T1 (-1) [] 0, I9, by go_num, by omega, .inl HUP.out, fuseS_keeps (HK2.out.fewer (by omega)) (by simp) (by omega), HS9.out, H9.out⟩
        case measure => first | (simp [intOf]; done) | (simp [intOf]; omega) | fail
end
end Go.Proofs.YtbepmbcbcklmlaaGreat
