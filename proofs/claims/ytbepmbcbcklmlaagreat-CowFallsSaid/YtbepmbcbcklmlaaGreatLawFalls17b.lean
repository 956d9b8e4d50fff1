/- CowFalls: an act in which the power may go. -/
import Derived.Test.YtbepmbcbcklmlaaGreatLawFalls17a
set_option linter.unusedSimpArgs false
set_option linter.unusedVariables false
set_option linter.unusedSectionVars false
namespace Go.Proofs.YtbepmbcbcklmlaaGreat
open Go.RowKit
section
variable {W w : World} {I : Hp} {l : List HP} {p : Nat} {S : Str}
set_option maxRecDepth 4000
set_option maxHeartbeats 8000000
/-- Region 16 on: an act in which the power may go. -/
theorem falls_act {a1 b1 : Code} {Q : Exit → Act → World → Prop} {K : Act → World → Prop} (hK : ∀ x y, b1.wp Tryz.prog Q x y → K x y) (hC : (Tryz.f4).body.bind (fromR 16) = some (.seq a1 b1)) {x0 x1 x4 x5 x6 x7 x8 x11 x15 x16 x17 x18 x19 x20 x21 x22 x23 x24 x25 x26 x27 x28 x29 x30 x31 x32 x33 x34 x35 x36 x37 x38 x39 x40 x41 x42 x43 x44 x45 x46 x47 x48 x49 x50 x51 x52 x53 x54 x55 x56 x57 x58 x59 x60 x61 x62 x63 x64 x65 x66 x67 x68 x69 x70 x71 x72 x73 x74 x75 x76 x77 x78 x79 x80 x81 x82 x83 x84 x85 x86 x87 x88 x89 x90 x91 x92 x93 x94 x95 x96 x97 x98 x99 x100 x101 x102 x103 x104 x105 x106 x107 x108 x109 x110 x111 x112 x113 x114 x115 x116 x117 x118 x119 x120 x121 x122 x123 x124 x125 x126 x127 x128 x129 x130 x131 x132 x133 x134 x135 x136 x137 x138 x139 x140 x141 x142 x143 x144 x145 x146 x147 x148 x149 x150 x151 : Value} {g : Nat} {rv dv : Value} {os ds : List O17} {Ak : Option Addr} {kp : List Int} {ck : Nat} {torn f2 : Int} {m : Nat}
    (a : A17) (h : St W I w (storeHP p S :: l)) (hk : Keeps S (m + 900)) (hlv : Live U17 S) (hst : Still S) (hs : Sim S (os.map O17.r)) (hrow : RowO I rv os) (hb : ∀ o ∈ os, o.cs.length ≤ 100) (hdr : RowO I dv ds) (hds : ds.map O17.r = theirR (os.map O17.r) a) (hdb : ∀ o ∈ ds, o.cs.length ≤ 100)
    (hA : I g = some (.cells #[.int .i64 a.what, .int .i64 a.num, .int .i64 a.newest, .int .i64 a.off, .int .i64 a.n, .int .i64 a.snap, a.pv, a.mv] 31)) (hok : a.ok I) (hpl : a.p.length ≤ 64) (hml : a.ms.length ≤ 1000000) (hfi : Fine U17 0 a) (hn : 0 ≤ a.num ∧ a.num ≤ 3) (hkp : IntsI I (.slice Ak kp.length ck) kp) (hkl : kp.length ≤ 1000000)
    (hQ : ∀ (y8 y15 y16 y72 y73 y74 y75 y76 y77 y78 y79 y80 y81 y82 y83 y84 y85 y86 y87 y88 y89 y90 y91 y92 y93 y94 y95 y96 y97 y98 y99 y100 y101 y102 y103 y104 y105 y106 y107 y108 y109 y110 y111 y112 y113 y114 y115 y116 y117 y118 y119 y120 y121 y122 y123 y124 y125 y126 y127 y128 y129 y130 y131 y132 y133 y134 y135 y136 y137 y138 y139 y140 y141 y142 y143 y144 y145 y146 y147 y148 y149 y150 : Value) (I' : Hp) (w' : World) (S' : Str), I.sub I' → Live U17 S' → S'.armed = false → Still S' → Sim S' (ds.map O17.r) → Keeps S' m → St W I' w' (storeHP p S' :: l) → Q .normal ⟨#[x0, x1, .slice Ak kp.length ck, .int .i64 torn, x4, x5, x6, x7, y8, .pointer (some ⟨p, 0, none⟩), dv, x11, .pointer (some ⟨g, 0, none⟩), dv, .int .i64 f2, y15, y16, x17, x18, x19, x20, x21, x22, x23, x24, x25, x26, x27, x28, x29, x30, x31, x32, x33, x34, x35, x36, x37, x38, x39, x40, x41, x42, x43, x44, x45, x46, x47, x48, x49, x50, x51, x52, x53, x54, x55, x56, x57, x58, x59, x60, x61, x62, x63, x64, x65, x66, x67, x68, x69, x70, x71, y72, y73, y74, y75, y76, y77, y78, y79, y80, y81, y82, y83, y84, y85, y86, y87, y88, y89, y90, y91, y92, y93, y94, y95, y96, y97, y98, y99, y100, y101, y102, y103, y104, y105, y106, y107, y108, y109, y110, y111, y112, y113, y114, y115, y116, y117, y118, y119, y120, y121, y122, y123, y124, y125, y126, y127, y128, y129, y130, y131, y132, y133, y134, y135, y136, y137, y138, y139, y140, y141, y142, y143, y144, y145, y146, y147, y148, y149, y150, x151], []⟩ w') :
    a1.wp Tryz.prog (Exit.then K Q) ⟨#[x0, x1, .slice Ak kp.length ck, .int .i64 torn, x4, x5, x6, x7, x8, .pointer (some ⟨p, 0, none⟩), rv, x11, .pointer (some ⟨g, 0, none⟩), dv, .int .i64 f2, x15, x16, x17, x18, x19, x20, x21, x22, x23, x24, x25, x26, x27, x28, x29, x30, x31, x32, x33, x34, x35, x36, x37, x38, x39, x40, x41, x42, x43, x44, x45, x46, x47, x48, x49, x50, x51, x52, x53, x54, x55, x56, x57, x58, x59, x60, x61, x62, x63, x64, x65, x66, x67, x68, x69, x70, x71, x72, x73, x74, x75, x76, x77, x78, x79, x80, x81, x82, x83, x84, x85, x86, x87, x88, x89, x90, x91, x92, x93, x94, x95, x96, x97, x98, x99, x100, x101, x102, x103, x104, x105, x106, x107, x108, x109, x110, x111, x112, x113, x114, x115, x116, x117, x118, x119, x120, x121, x122, x123, x124, x125, x126, x127, x128, x129, x130, x131, x132, x133, x134, x135, x136, x137, x138, x139, x140, x141, x142, x143, x144, x145, x146, x147, x148, x149, x150, x151], []⟩ w := by
  injection hC with hC
  injection hC with hC1 hC2
  subst hC1 hC2
  have hlen : os.length = 4 := by have := hs.len; rwa [List.length_map] at this
  have hkk : Keeps S (m + 600 + 16 + 2 * (keysTold S ⟨4, 0⟩).length) := hk.fewer (by have := hlv.keys 0; omega)
  have hou := ours17_spec 0 a h hkk hok (by omega)
  have hor := ours_or hlv hst hs.right0 (half_start hs) hfi hn
  have hk2 := oursS_keeps (a := a) hkk
  obtain ⟨x0, x1, x2, x3, x4, x5, x6, x7⟩ := act_cells h hA
  obtain ⟨r1, hr1⟩ : ∃ r, oursS S 0 a = r := ⟨_, rfl⟩
  rw [hr1] at hou hor hk2
  obtain ⟨e1, T1⟩ := r1
  simp only at hou hor hk2
  simp only [A17.val] at hou
  have HOU := Lib.hid hou
  have HK2 := Lib.hid (fuseS_keeps (n := -1) (keep := []) (torn := 0) hk2 (by simp) (by omega))
  have HQ := Lib.hid hQ
  have HR0 := Lib.hid hs.right0
  have HLEN := Lib.hid hlen
  have HROW := Lib.hid hrow
  have HB := Lib.hid hb
  have HDR := Lib.hid hdr
  have HDS := Lib.hid hds
  have HDB := Lib.hid hdb
  have HA := Lib.hid hA
  have HOK := Lib.hid hok
  have HPL := Lib.hid hpl
  have HML := Lib.hid hml
  have HFI := Lib.hid hfi
  have HN := Lib.hid hn
  have HKP := Lib.hid hkp
  have HKL := Lib.hid hkl
  have hup : UpA (fuseS T1 (-1) [] 0) (os.map O17.r) a ∨ DnA (fuseS T1 (-1) [] 0) (os.map O17.r) a := hor.elim (fun q => .inl q.2.2) (fun q => .inr q.2.2)
  have hon : (e1 = 0 ∧ T1.on = true) ∨ (e1 = 7 ∧ T1.on = false) := hor.elim (fun q => .inl ⟨q.1, q.2.1⟩) (fun q => .inr ⟨q.1, q.2.1⟩)
  have HUD := Lib.hid hup
  clear hou hkk hk2 hQ hlen hrow hb hdr hds hdb hA hok hpl hml hfi hn hkp hkl hup hor h hk hlv hst hs hr1
  go_wp2_with fail
  refine HOU.out.mono ?_
  rintro e w7 ⟨I7, hs7, rfl, h7⟩
  have h7 : St W I7 w7 (storeHP p T1 :: l) := h7
  have hOn := on_spec h7
  have hfu := fuseC_spec (-1) (.slice none 0 0) [] 0 h7 (ints_nil _) (by simp)
  have HS7 := Lib.hid hs7
  have HFU := Lib.hid hfu
  clear h7 hs7 HOU x0 x1 x2 x3 x4 x5 x6 x7 hfu
  rcases hon with ⟨rfl, hon⟩ | ⟨rfl, hon⟩
  · rw [hon] at hOn
    have HON := Lib.hid hOn
    clear hOn hon
    go_wp2_with fail
    refine HON.out.mono ?_
    rintro e w8 ⟨rfl, rfl⟩
    go_wp2_with fail
    refine HON.out.mono ?_
    rintro e w8 ⟨rfl, rfl⟩
    go_wp2_with fail
    refine HFU.out.mono ?_
    rintro e w9 ⟨I9, hs9, rfl, h9⟩
    have H9 := Lib.hid h9
    have HS9 := Lib.hid (HS7.out.trans hs9)
    clear h9 hs9 HFU HS7 HON
    go_upto_region 20 with fail
    refine falls_rep (m := m) (os := os) (by assumption) (by kernel_rfl) a H9.out HK2.out HUD.out HR0.out HLEN.out (HROW.out.mono HS9.out) HB.out (HS9.out _ _ HA.out) (A17.ok_mono HOK.out HS9.out) HPL.out HML.out HFI.out HN.out ((intsIP _ _).mono HS9.out HKP.out) HKL.out ?_
    intro q8 q15 q16 q91 q92 q93 q94 q95 q96 q97 q98 q99 q100 q101 q102 q103 q104 q105 q106 q107 q108 q109 q110 q111 q112 q113 q114 q115 q116 q117 q118 q119 q120 q121 q122 q123 q124 q125 q126 q127 q128 q129 q130 q131 q132 q133 q134 I10 w10 S10 hs10 hup hk10 h10
    obtain ⟨b1, b2, b3, b4, b5⟩ := up_bar hup
    have hba := barrier_spec h10 hk10
    have hk11 := barrierS_keeps hk10
    obtain ⟨r3, hr3⟩ : ∃ r, barrierS S10 = r := ⟨_, rfl⟩
    rw [hr3] at hba b1 b2 b3 b4 b5 hk11
    obtain ⟨e3, S11⟩ := r3
    simp only at hba b1 b2 b3 b4 b5 hk11
    subst b1
    rw [← HDS.out] at b5
    have HBA := Lib.hid hba
    have HL := Lib.hid b2
    have HC := Lib.hid b3
    have HSTL := Lib.hid b4
    have HSIM := Lib.hid b5
    have HK11 := Lib.hid hk11
    have HS10 := Lib.hid (HS9.out.trans hs10)
    have HOBJ : Hid (∀ (i : Nat) (o : O17), ds[i]? = some o → ObjV (cview S11 0) i o.r) := Lib.hid (fun i o ho => HSIM.out.obj i o.r (by rw [List.getElem?_map, ho]; rfl))
    have HDL : Hid (ds.length = 4) := Lib.hid (by have := HSIM.out.len; rwa [List.length_map] at this)
    clear hba b2 b3 b4 b5 hk11 hs10 hup hk10 h10 hr3
    go_wp2_with fail
    refine HBA.out.mono ?_
    rintro e w11 ⟨I11, hs11, rfl, h11⟩
    have h11 : St W I11 w11 (storeHP p S11 :: l) := h11
    have hhe := headsL_spec U17_ok 16 dv ds h11 HK11.out.inv HL.out (HDR.out.mono (HS10.out.trans hs11)) (by have := HDL.out; omega) (fun o ho => by have := HDB.out o ho; omega) (by omega) HOBJ.out
    change Calls _ _ #[_, _, .int .i64 16] _ _ at hhe
    have HHE := Lib.hid hhe
    have HS11 := Lib.hid (HS10.out.trans hs11)
    clear hhe h11 hs11 HBA
    go_wp2_with fail
    refine HHE.out.mono ?_
    rintro e w12 ⟨I12, hs12, rfl, h12⟩
    have hco := copiesL_spec U17_ok dv ds h12 HK11.out.inv HL.out (HDR.out.mono (HS11.out.trans hs12)) (by have := HDL.out; omega) (fun o ho => by have := HDB.out o ho; omega) HOBJ.out
    have HCO := Lib.hid hco
    have HS12 := Lib.hid (HS11.out.trans hs12)
    clear hco h12 hs12 HHE
    go_wp2_with fail
    refine HCO.out.mono ?_
    rintro e w13 ⟨I13, hs13, rfl, h13⟩
    have H13 := Lib.hid h13
    have HS13 := Lib.hid (HS12.out.trans hs13)
    clear h13 hs13 HCO
    go_wp2_with fail
    exact HQ.out _ _ _ _ _ _ _ _ _ _ _ _ _ _ _ _ _ _ _ _ _ _ _ _ _ _ _ _ _ _ _ _ _ _ _ _ _ _ _ _ _ _ _ _ _ _ _ _ _ _ _ _ _ _ _ _ _ _ _ _ _ _ _ _ _ _ _ _ _ _ _ _ _ _ _ _ _ _ _ _ _ _ I13 w13 S11 HS13.out HL.out HC.out HSTL.out HSIM.out HK11.out H13.out
  · rw [hon] at hOn
    have HON := Lib.hid hOn
    clear hOn hon
    go_wp2_with fail
    refine HON.out.mono ?_
    rintro e w8 ⟨rfl, rfl⟩
    go_wp2_with fail
    refine HON.out.mono ?_
    rintro e w8 ⟨rfl, rfl⟩
    go_wp2_with fail
    refine HFU.out.mono ?_
    rintro e w9 ⟨I9, hs9, rfl, h9⟩
    have H9 := Lib.hid h9
    have HS9 := Lib.hid (HS7.out.trans hs9)
    clear h9 hs9 HFU HS7 HON
    go_upto_region 20 with fail
    refine falls_rep (m := m) (os := os) (by assumption) (by kernel_rfl) a H9.out HK2.out HUD.out HR0.out HLEN.out (HROW.out.mono HS9.out) HB.out (HS9.out _ _ HA.out) (A17.ok_mono HOK.out HS9.out) HPL.out HML.out HFI.out HN.out ((intsIP _ _).mono HS9.out HKP.out) HKL.out ?_
    intro q8 q15 q16 q91 q92 q93 q94 q95 q96 q97 q98 q99 q100 q101 q102 q103 q104 q105 q106 q107 q108 q109 q110 q111 q112 q113 q114 q115 q116 q117 q118 q119 q120 q121 q122 q123 q124 q125 q126 q127 q128 q129 q130 q131 q132 q133 q134 I10 w10 S10 hs10 hup hk10 h10
    obtain ⟨b1, b2, b3, b4, b5⟩ := up_bar hup
    have hba := barrier_spec h10 hk10
    have hk11 := barrierS_keeps hk10
    obtain ⟨r3, hr3⟩ : ∃ r, barrierS S10 = r := ⟨_, rfl⟩
    rw [hr3] at hba b1 b2 b3 b4 b5 hk11
    obtain ⟨e3, S11⟩ := r3
    simp only at hba b1 b2 b3 b4 b5 hk11
    subst b1
    rw [← HDS.out] at b5
    have HBA := Lib.hid hba
    have HL := Lib.hid b2
    have HC := Lib.hid b3
    have HSTL := Lib.hid b4
    have HSIM := Lib.hid b5
    have HK11 := Lib.hid hk11
    have HS10 := Lib.hid (HS9.out.trans hs10)
    have HOBJ : Hid (∀ (i : Nat) (o : O17), ds[i]? = some o → ObjV (cview S11 0) i o.r) := Lib.hid (fun i o ho => HSIM.out.obj i o.r (by rw [List.getElem?_map, ho]; rfl))
    have HDL : Hid (ds.length = 4) := Lib.hid (by have := HSIM.out.len; rwa [List.length_map] at this)
    clear hba b2 b3 b4 b5 hk11 hs10 hup hk10 h10 hr3
    go_wp2_with fail
    refine HBA.out.mono ?_
    rintro e w11 ⟨I11, hs11, rfl, h11⟩
    have h11 : St W I11 w11 (storeHP p S11 :: l) := h11
    have hhe := headsL_spec U17_ok 16 dv ds h11 HK11.out.inv HL.out (HDR.out.mono (HS10.out.trans hs11)) (by have := HDL.out; omega) (fun o ho => by have := HDB.out o ho; omega) (by omega) HOBJ.out
    change Calls _ _ #[_, _, .int .i64 16] _ _ at hhe
    have HHE := Lib.hid hhe
    have HS11 := Lib.hid (HS10.out.trans hs11)
    clear hhe h11 hs11 HBA
    go_wp2_with fail
    refine HHE.out.mono ?_
    rintro e w12 ⟨I12, hs12, rfl, h12⟩
    have hco := copiesL_spec U17_ok dv ds h12 HK11.out.inv HL.out (HDR.out.mono (HS11.out.trans hs12)) (by have := HDL.out; omega) (fun o ho => by have := HDB.out o ho; omega) HOBJ.out
    have HCO := Lib.hid hco
    have HS12 := Lib.hid (HS11.out.trans hs12)
    clear hco h12 hs12 HHE
    go_wp2_with fail
    refine HCO.out.mono ?_
    rintro e w13 ⟨I13, hs13, rfl, h13⟩
    have H13 := Lib.hid h13
    have HS13 := Lib.hid (HS12.out.trans hs13)
    clear h13 hs13 HCO
    go_wp2_with fail
    exact HQ.out _ _ _ _ _ _ _ _ _ _ _ _ _ _ _ _ _ _ _ _ _ _ _ _ _ _ _ _ _ _ _ _ _ _ _ _ _ _ _ _ _ _ _ _ _ _ _ _ _ _ _ _ _ _ _ _ _ _ _ _ _ _ _ _ _ _ _ _ _ _ _ _ _ _ _ _ _ _ _ _ _ _ I13 w13 S11 HS13.out HL.out HC.out HSTL.out HSIM.out HK11.out H13.out
end
end Go.Proofs.YtbepmbcbcklmlaaGreat
