/- CowPlays: the law's walk. -/
import Derived.Test.YtbepmbcbcklmlaaGreatAt17
import Derived.Test.YtbepmbcbcklmlaaGreatPlaysPlain
import Derived.Test.YtbepmbcbcklmlaaGreatKnown17
import Derived.Test.YtbepmbcbcklmlaaGreatArgs17
import Derived.Deep.CutRange
set_option linter.unusedSimpArgs false
set_option linter.unusedVariables false
set_option linter.unusedSectionVars false
namespace Go.Proofs.YtbepmbcbcklmlaaGreat
open Go.RowKit
def effA (raw : Bool) (a : A17) : A17 := if raw = true then a else a.mild
def noneO : O17 := ⟨⟨none, .slice none 0 0⟩, [], .slice none 0 0⟩
def none4 : List O17 := [noneO, noneO, noneO, noneO]
def zero12 : Array Value := #[.bool false, .slice none 0 0, .slice none 0 0, .bool false, .slice none 0 0, .slice none 0 0, .bool false, .slice none 0 0, .slice none 0 0, .bool false, .slice none 0 0, .slice none 0 0]
theorem make_objects (w : World) : (Instr.makeSlice 27 (.int .i64 4) (.int .i64 4)).run Tryz.prog w = .ok (.slice (some ⟨w.heap.size, 0, none⟩) 4 4) (w.alloc (.cells zero12 47)) := by
  obtain ⟨i0, hi0, hz0, hz1, hz2⟩ := info_parts object_info
  have h := run_makeSlice (P := Tryz.prog) w 27 47 i0 (.agg #[.bool false, .slice none 0 0, .slice none 0 0]) Tryz.underlying27 hi0 hz0 .i64 .i64 4 4 (by decide) (by decide) (by rw [hz1]; decide) (by rw [hz2]; decide) (by decide)
  rw [hz1, show madeCells (Value.agg #[.bool false, .slice none 0 0, .slice none 0 0]).cells ((4 : Int).toNat * 3) = zero12 by kernel_rfl] at h
  exact h
theorem none4_cs : ∀ o ∈ none4, o.cs.length ≤ 0 := fun o ho => by
  have : o = noneO := by simpa [none4] using ho
  rw [this]
  exact Nat.le_refl _
theorem noneO_ok (I : Hp) : noneO.ok I := ⟨bytes_nil _, ⟨none, 0, rfl, rfl, Nat.le_refl _, by unfold maxLen; omega, fun _ => rfl, fun h => absurd h (by simp [noneO])⟩, fun c hc => by cases hc⟩
theorem none4_row {W w : World} {I : Hp} {l : List HP} {g : Nat} (h : St W I w (HP.pt g (.cells zero12 47) :: l)) : ∃ I', I.sub I' ∧ RowO I' (.slice (some ⟨g, 0, none⟩) 4 4) none4 ∧ St W I' w l := by
  obtain ⟨I', hs, hI, h2⟩ := h.freeze
  refine ⟨I', hs, ⟨⟨some ⟨g, 0, none⟩, 4, rfl, rfl, Nat.le_refl _, by unfold maxLen; omega, (fun e => by cases e), fun _ => ⟨g, 0, _, _, _, rfl, hI, fun i x hx => ?_⟩⟩, fun o ho => ?_⟩, h2⟩
  · rw [Nat.zero_add, ← hx, ← Array.getElem?_toList]
    rfl
  · have : o = noneO := by simpa [none4] using ho
    rw [this]
    exact noneO_ok _
theorem head_small {U : List K4} {S : Str} (h : Live U S) {os : List O17} (hs : Sim S (os.map O17.r)) : ∀ o ∈ os, (o.h.o.getD []).length ≤ 64 := fun o ho => by
  obtain ⟨i, hi⟩ := List.getElem?_of_mem ho
  exact small_at h (hs.obj i o.r (by rw [List.getElem?_map, hi]; rfl)) 0
section
variable {W w : World} {I : Hp} {l : List HP} {p : Nat} {S : Str}
set_option maxRecDepth 4000
set_option maxHeartbeats 8000000
/-- Region 13 on: an act that is done by both. -/
theorem plays_act {a1 b1 : Code} {Q : Exit → Act → World → Prop} {K : Act → World → Prop} (hK : ∀ x y, b1.wp Tryz.prog Q x y → K x y) (hC : (Tryz.f3).body.bind (fromR 13) = some (.seq a1 b1)) {x0 x1 x2 x3 x4 x5 x6 x7 x8 x9 x10 x13 x15 x16 x17 x18 x19 x20 x21 x22 x23 x24 x25 x26 x27 x28 x29 x30 x31 x32 x33 x34 x35 x36 x37 x38 x39 x40 x41 x42 x43 x44 x45 x46 x47 x48 x49 x50 x51 x52 x53 x54 x55 x56 x57 x58 x59 x60 x61 x62 x63 x64 x65 x66 x67 x68 x69 x70 x71 x72 x73 x74 x75 x76 x77 x78 x79 x80 x81 x82 x83 x84 x85 x86 x87 x88 x89 x90 x91 x92 x93 x94 x95 x96 x97 x98 x99 x100 x101 x102 x103 x104 x105 x106 x107 x108 x109 x110 x111 : Value} {g : Nat} {rv : Value} {os : List O17} {al : List A17} {n m : Nat}
    (a : A17) (h : St W I w (storeHP p S :: l)) (hal : al.length ≤ 40) (ha : a ∈ al) (hlv : Live (univ al) S) (hc : S.armed = false) (hs : Sim S (os.map O17.r)) (hk : Keeps S (m + 300)) (hrow : RowO I rv os) (hb : ∀ o ∈ os, o.cs.length ≤ n) (hn : n ≤ 100)
    (hA : I g = some (.cells #[.int .i64 a.what, .int .i64 a.num, .int .i64 a.newest, .int .i64 a.off, .int .i64 a.n, .int .i64 a.snap, a.pv, a.mv] 31)) (hok : a.ok I) (hpl : a.p.length ≤ 1000000) (hml : a.ms.length ≤ 1000000)
    (hQ : ∀ (y15 y41 y42 y43 y44 y45 y46 y47 y48 y49 y50 y51 y52 y53 y54 y55 y56 y57 y58 y59 y60 y61 y62 rv' : Value) (I' : Hp) (w' : World) (S' : Str) (os' : List O17), I.sub I' → Live (univ al) S' → S'.armed = false → Sim S' (os'.map O17.r) → Keeps S' m → RowO I' rv' os' → (∀ o ∈ os', o.cs.length ≤ n + 1) → St W I' w' (storeHP p S' :: l) →
      Q .normal ⟨#[x0, x1, x2, x3, x4, x5, x6, x7, x8, x9, x10, .pointer (some ⟨p, 0, none⟩), rv', x13, .pointer (some ⟨g, 0, none⟩), y15, x16, x17, x18, x19, x20, x21, x22, x23, x24, x25, x26, x27, x28, x29, x30, x31, x32, x33, x34, x35, x36, x37, x38, x39, x40, y41, y42, y43, y44, y45, y46, y47, y48, y49, y50, y51, y52, y53, y54, y55, y56, y57, y58, y59, y60, y61, y62, x63, x64, x65, x66, x67, x68, x69, x70, x71, x72, x73, x74, x75, x76, x77, x78, x79, x80, x81, x82, x83, x84, x85, x86, x87, x88, x89, x90, x91, x92, x93, x94, x95, x96, x97, x98, x99, x100, x101, x102, x103, x104, x105, x106, x107, x108, x109, x110, x111], []⟩ w') :
    a1.wp Tryz.prog (Exit.then K Q) ⟨#[x0, x1, x2, x3, x4, x5, x6, x7, x8, x9, x10, .pointer (some ⟨p, 0, none⟩), rv, x13, .pointer (some ⟨g, 0, none⟩), x15, x16, x17, x18, x19, x20, x21, x22, x23, x24, x25, x26, x27, x28, x29, x30, x31, x32, x33, x34, x35, x36, x37, x38, x39, x40, x41, x42, x43, x44, x45, x46, x47, x48, x49, x50, x51, x52, x53, x54, x55, x56, x57, x58, x59, x60, x61, x62, x63, x64, x65, x66, x67, x68, x69, x70, x71, x72, x73, x74, x75, x76, x77, x78, x79, x80, x81, x82, x83, x84, x85, x86, x87, x88, x89, x90, x91, x92, x93, x94, x95, x96, x97, x98, x99, x100, x101, x102, x103, x104, x105, x106, x107, x108, x109, x110, x111], []⟩ w := by
  injection hC with hC
  injection hC with hC1 hC2
  subst hC1 hC2
  obtain ⟨p1, p2, p3, p4⟩ := play_step hal hlv hc hs ha
  have hk1 : Keeps S (m + 16 + 2 * (keysTold S ⟨4, 0⟩).length) := hk.fewer (by have := univ_keys hal hlv; omega)
  have hk2 := oursS_keeps (a := a) hk1
  have hlen : os.length = 4 := by have := hs.len; rwa [List.length_map] at this
  have hsm := head_small hlv hs
  have hmay := may17_spec a h hok
  have HRNG := Lib.hid (fun (hm : mayA a = true) (hw : 0 ≤ a.what ∧ a.what ≤ 4) => (may_fine ha hm hw).span)
  obtain ⟨r1, hr1⟩ : ∃ r, oursS S 0 a = r := ⟨_, rfl⟩
  obtain ⟨e1, S1⟩ := r1
  rw [hr1] at p1 p2 p3 p4 hk2
  simp only at p1 p2 p3 p4 hk2
  have HR1 := Lib.hid hr1
  have HP1 := Lib.hid p1
  have HL3 := Lib.hid p2
  have HC3 := Lib.hid p3
  have HSIM := Lib.hid p4
  have HK1 := Lib.hid hk1
  have HK3 := Lib.hid hk2
  have HLEN0 := Lib.hid hlen
  have HSM := Lib.hid hsm
  have HAL := Lib.hid hal
  have HN := Lib.hid hn
  have HBND := Lib.hid hb
  have HROW := Lib.hid hrow
  have HA := Lib.hid hA
  have HOK := Lib.hid hok
  have HQ := Lib.hid hQ
  have H := Lib.hid h
  have HPL := Lib.hid hpl
  have HML := Lib.hid hml
  simp only [A17.val] at hmay
  obtain ⟨x0, x1, x2, x3, x4, x5, x6, x7⟩ := act_cells h hA
  cases hm : mayA a with
  | false =>
    rw [hm] at hmay
    have HMAY := Lib.hid hmay
    have hp1 := HP1.out
    rw [hm, if_neg (by simp)] at hp1
    subst hp1
    have HOBJ : Hid (∀ (i : Nat) (o : O17), os[i]? = some o → ObjV (cview S1 0) i o.r) := Lib.hid (fun i o ho => by
      have q := HSIM.out
      rw [hm, if_neg (by simp)] at q
      exact q.obj i o.r (by rw [List.getElem?_map, ho]; rfl))
    have HSIM2 : Hid (Sim S1 (os.map O17.r)) := Lib.hid (by have q := HSIM.out; rwa [hm, if_neg (by simp)] at q)
    have HLEN := HLEN0
    clear hQ h hlv hc hs hk hrow hb hn hA hok hpl hml p1 p2 p3 p4 hk1 hk2 hlen hsm hmay hr1 hal HSIM HP1 HRNG ha
    go_wp2_with fail
    refine HMAY.out.mono ?_
    rintro e w3 ⟨rfl, hb3⟩
    have h3 := H.out.keep hb3
    have hou := ours17_spec 0 a h3 HK1.out HOK.out HPL.out
    rw [HR1.out] at hou
    simp only [A17.val] at hou
    have HOU := Lib.hid hou
    obtain ⟨x0, x1, x2, x3, x4, x5, x6, x7⟩ := act_cells h3 HA.out
    clear hou h3 hb3 HMAY
    go_wp2_with fail
    refine HOU.out.mono ?_
    rintro e w7 ⟨I7, hs7, rfl, h7⟩
    have H7 := Lib.hid h7
    have HS7b := Lib.hid hs7
    clear h7 hs7 HOU
    have hhe := headsL_spec (univ_ok HAL.out) 16 rv os H7.out HK3.out.inv HL3.out (HROW.out.mono HS7b.out) (by have := HLEN.out; omega) (fun o ho => by have := HBND.out o ho; have := HN.out; omega) (by omega) HOBJ.out
    change Calls _ _ #[_, _, .int .i64 16] _ _ at hhe
    have HHE := Lib.hid hhe
    clear hhe x0 x1 x2 x3 x4 x5 x6 x7
    go_wp2_with fail
    refine HHE.out.mono ?_
    rintro e w8 ⟨I8, hs8, rfl, h8⟩
    have hco := copiesL_spec (univ_ok HAL.out) rv os h8 HK3.out.inv HL3.out ((HROW.out.mono HS7b.out).mono hs8) (by have := HLEN.out; omega) (fun o ho => by have := HBND.out o ho; have := HN.out; omega) HOBJ.out
    have HCO := Lib.hid hco
    have HS8 := Lib.hid hs8
    clear hco h8 hs8 HHE
    go_wp2_with fail
    refine HCO.out.mono ?_
    rintro e w9 ⟨I9, hs9, rfl, h9⟩
    have H9 := Lib.hid h9
    have HS9 := Lib.hid (HS8.out.trans hs9)
    clear h9 hs9 HCO
    go_wp2_with fail
    exact HQ.out _ _ _ _ _ _ _ _ _ _ _ _ _ _ _ _ _ _ _ _ _ _ _ rv I9 w9 S1 os (HS7b.out.trans HS9.out) HL3.out HC3.out HSIM2.out HK3.out (HROW.out.mono (HS7b.out.trans HS9.out)) (fun o ho => Nat.le_succ_of_le (HBND.out o ho)) H9.out
  | true =>
    rw [hm] at hmay
    have HMAY := Lib.hid hmay
    have hp1 := HP1.out
    rw [hm, if_pos rfl] at hp1
    subst hp1
    have HSIM2 : Hid (Sim S1 (theirR (os.map O17.r) a)) := Lib.hid (by have q := HSIM.out; rwa [hm, if_pos rfl] at q)
    have HSP := Lib.hid (HRNG.out hm)
    clear hQ h hlv hc hs hk hrow hb hn hA hok hpl hml p1 p2 p3 p4 hk1 hk2 hlen hsm hmay hr1 hal HSIM HP1 HRNG ha
    go_wp2_with fail
    refine HMAY.out.mono ?_
    rintro e w3 ⟨rfl, hb3⟩
    have h3 := H.out.keep hb3
    have hth := theirs17_spec rv os a h3 HROW.out HOK.out (by have := HLEN0.out; omega) (fun o ho => ⟨HSM.out o ho, by have := HBND.out o ho; have := HN.out; omega⟩) (by have := HML.out; omega)
      (fun e => by have q := (HSP.out (by omega)).1 e; unfold withinB at q; rw [decide_eq_true_eq] at q; omega) (fun e => by have q := (HSP.out (by omega)).2.1 e; unfold withinB at q; rw [decide_eq_true_eq] at q; omega) (fun e => by have q := (HSP.out (by omega)).2.2.1 e; unfold withinB at q; rw [decide_eq_true_eq] at q; omega) (fun e => by have q := (HSP.out (by omega)).2.2.2 e; unfold withinB at q; rw [decide_eq_true_eq] at q; omega)
    simp only [A17.val] at hth
    have HTH := Lib.hid hth
    obtain ⟨x0, x1, x2, x3, x4, x5, x6, x7⟩ := act_cells h3 HA.out
    clear hth h3 hb3 HMAY
    go_wp2_with fail
    refine HTH.out.mono ?_
    rintro e w5 ⟨I5, os5, v5, hs5, rfl, hro5, hr5, hbd5, h5⟩
    have hou := ours17_spec 0 a h5 HK1.out (A17.ok_mono HOK.out hs5) HPL.out
    rw [HR1.out] at hou
    simp only [A17.val] at hou
    have HOU := Lib.hid hou
    obtain ⟨x0, x1, x2, x3, x4, x5, x6, x7⟩ := act_cells h5 (hs5 _ _ HA.out)
    have HS5 := Lib.hid hs5
    have HRO5 := Lib.hid hro5
    have HB5 := Lib.hid (hbd5 n HBND.out)
    have HSIM3 : Hid (Sim S1 (os5.map O17.r)) := Lib.hid (by rw [hr5]; exact HSIM2.out)
    have HLEN : Hid (os5.length = 4) := Lib.hid (by have := HSIM3.out.len; rwa [List.length_map] at this)
    have HOBJ : Hid (∀ (i : Nat) (o : O17), os5[i]? = some o → ObjV (cview S1 0) i o.r) := Lib.hid (fun i o ho => HSIM3.out.obj i o.r (by rw [List.getElem?_map, ho]; rfl))
    clear hou h5 hs5 hro5 hr5 hbd5 HTH
    go_wp2_with fail
    refine HOU.out.mono ?_
    rintro e w7 ⟨I7, hs7, rfl, h7⟩
    have H7 := Lib.hid h7
    have HS7b := Lib.hid hs7
    clear h7 hs7 HOU
    have hhe := headsL_spec (univ_ok HAL.out) 16 v5 os5 H7.out HK3.out.inv HL3.out (HRO5.out.mono HS7b.out) (by have := HLEN.out; omega) (fun o ho => by have := HB5.out o ho; have := HN.out; omega) (by omega) HOBJ.out
    change Calls _ _ #[_, _, .int .i64 16] _ _ at hhe
    have HHE := Lib.hid hhe
    clear hhe x0 x1 x2 x3 x4 x5 x6 x7
    go_wp2_with fail
    refine HHE.out.mono ?_
    rintro e w8 ⟨I8, hs8, rfl, h8⟩
    have hco := copiesL_spec (univ_ok HAL.out) v5 os5 h8 HK3.out.inv HL3.out ((HRO5.out.mono HS7b.out).mono hs8) (by have := HLEN.out; omega) (fun o ho => by have := HB5.out o ho; have := HN.out; omega) HOBJ.out
    have HCO := Lib.hid hco
    have HS8 := Lib.hid hs8
    clear hco h8 hs8 HHE
    go_wp2_with fail
    refine HCO.out.mono ?_
    rintro e w9 ⟨I9, hs9, rfl, h9⟩
    have H9 := Lib.hid h9
    have HS9 := Lib.hid (HS8.out.trans hs9)
    clear h9 hs9 HCO
    go_wp2_with fail
    exact HQ.out _ _ _ _ _ _ _ _ _ _ _ _ _ _ _ _ _ _ _ _ _ _ _ v5 I9 w9 S1 os5 ((HS5.out.trans HS7b.out).trans HS9.out) HL3.out HC3.out HSIM3.out HK3.out (HRO5.out.mono (HS7b.out.trans HS9.out)) HB5.out H9.out
theorem read_bad {S : Str} (hon : S.on = true) {i : Nat} (hi : i < 4) {snap off n : Int} (h : (snapB snap && withinB off n) = false) : creadS S 0 i snap off n = ([], 1) := by
  unfold creadS
  have hf : (objB 0 i && snapB snap && withinB off n) = false := by rw [Bool.and_assoc, h, Bool.and_false]
  have hb : cmayS S false = 1 := by unfold cmayS; rw [hon]; rfl
  rw [hf, hb, if_pos (by decide)]
/-- Region 19: what is read at last. -/
theorem plays_reads {a1 b1 : Code} {Q : Exit → Act → World → Prop} {K : Act → World → Prop} (hK : ∀ x y, b1.wp Tryz.prog Q x y → K x y) (hC : (Tryz.f3).body.bind (fromR 19) = some (.seq a1 b1)) {x0 x1 x5 x6 x7 x8 x9 x10 x13 x14 x15 x16 x17 x18 x19 x20 x21 x22 x23 x24 x25 x26 x27 x28 x29 x30 x31 x32 x33 x34 x35 x36 x37 x38 x39 x40 x41 x42 x43 x44 x45 x46 x47 x48 x49 x50 x51 x52 x53 x54 x55 x56 x57 x58 x59 x60 x61 x62 x63 x64 x65 x66 x67 x68 x69 x70 x71 x72 x73 x74 x75 x76 x77 x78 x79 x80 x81 x82 x83 x84 x85 x86 x87 x88 x89 x90 x91 x92 x93 x94 x95 x96 x97 x98 x99 x100 x101 x102 x103 x104 x105 x106 x107 x108 x109 x110 x111 : Value} {rv : Value} {os : List O17} {U : List K4} {snap off n : Int} {m : Nat}
    (h : St W I w (storeHP p S :: l)) (hU : UOK U) (hlv : Live U S) (hs : Sim S (os.map O17.r)) (hk : Inv S m) (hrow : RowO I rv os) (hb : ∀ o ∈ os, o.cs.length ≤ 100)
    (hQ : ∀ (y10 y16 y17 y18 y63 y64 y65 y66 y67 y68 y69 y70 y71 y72 y73 y74 y75 y76 y77 y78 y79 y80 y81 y82 y83 y84 y85 y86 y87 y88 y89 y90 y91 y92 y93 y94 y95 y96 y97 y98 y99 y100 y101 y102 y103 y104 y105 y106 y107 y108 y109 y110 : Value) (I' : Hp) (w' : World), I.sub I' → St W I' w' (storeHP p S :: l) → Q .normal ⟨#[x0, x1, .int .i64 snap, .int .i64 off, .int .i64 n, x5, x6, x7, x8, x9, y10, .pointer (some ⟨p, 0, none⟩), rv, x13, x14, x15, y16, y17, y18, x19, x20, x21, x22, x23, x24, x25, x26, x27, x28, x29, x30, x31, x32, x33, x34, x35, x36, x37, x38, x39, x40, x41, x42, x43, x44, x45, x46, x47, x48, x49, x50, x51, x52, x53, x54, x55, x56, x57, x58, x59, x60, x61, x62, y63, y64, y65, y66, y67, y68, y69, y70, y71, y72, y73, y74, y75, y76, y77, y78, y79, y80, y81, y82, y83, y84, y85, y86, y87, y88, y89, y90, y91, y92, y93, y94, y95, y96, y97, y98, y99, y100, y101, y102, y103, y104, y105, y106, y107, y108, y109, y110, x111], []⟩ w') :
    a1.wp Tryz.prog (Exit.then K Q) ⟨#[x0, x1, .int .i64 snap, .int .i64 off, .int .i64 n, x5, x6, x7, x8, x9, x10, .pointer (some ⟨p, 0, none⟩), rv, x13, x14, x15, x16, x17, x18, x19, x20, x21, x22, x23, x24, x25, x26, x27, x28, x29, x30, x31, x32, x33, x34, x35, x36, x37, x38, x39, x40, x41, x42, x43, x44, x45, x46, x47, x48, x49, x50, x51, x52, x53, x54, x55, x56, x57, x58, x59, x60, x61, x62, x63, x64, x65, x66, x67, x68, x69, x70, x71, x72, x73, x74, x75, x76, x77, x78, x79, x80, x81, x82, x83, x84, x85, x86, x87, x88, x89, x90, x91, x92, x93, x94, x95, x96, x97, x98, x99, x100, x101, x102, x103, x104, x105, x106, x107, x108, x109, x110, x111], []⟩ w := by
  injection hC with hC
  injection hC with hC1 hC2
  subst hC1 hC2
  have hlen : os.length = 4 := by have := hs.len; rwa [List.length_map] at this
  have HQ := Lib.hid hQ
  have HLV := Lib.hid hlv
  have HSIM := Lib.hid hs
  have HK := Lib.hid hk
  have HROW := Lib.hid hrow
  have HB := Lib.hid hb
  have HLEN := Lib.hid hlen
  have HU := Lib.hid hU
  have H := Lib.hid h
  obtain ⟨⟨Ao, co, e, _⟩, _⟩ := hrow
  rw [hlen] at e
  subst e
  clear hQ hlv hs hk hb h hlen
  go_wp2_with fail
  go_loopw [16] (fun a16 wr => ∃ (i : Nat) (I1 : Hp), a16 = .int .i64 i ∧ i ≤ 4 ∧ I.sub I1 ∧ St W I1 wr (storeHP p S :: l)) (fun a16 _ => 4 - (intOf a16).toNat)
  case atStart => exact ⟨0, I, rfl, by omega, Hp.sub.refl _, H.out⟩
  case round =>
    obtain ⟨i, I1, rfl, hi, hI1, hst⟩ := hrel
    by_cases hlt : i < 4
    · have d0 : decide ((i : Int) < 4) = true := by rw [decide_eq_true_eq]; omega
      obtain ⟨o, ho⟩ : ∃ o, os[i]? = some o := ⟨_, List.getElem?_eq_getElem (by rw [HLEN.out]; exact hlt)⟩
      have hov := HSIM.out.obj i o.r (by rw [List.getElem?_map, ho]; rfl)
      have HO := Lib.hid ho
      have HOV := Lib.hid hov
      have HOK := Lib.hid (HROW.out.2 o (List.mem_of_getElem? ho))
      have HOB := Lib.hid (HB.out o (List.mem_of_getElem? ho))
      have hc := cread_spec 0 i snap off n hst HK.out
      have HI1 := Lib.hid hI1
      clear ho hov hst hI1
      cases hw : withinB off n with
      | false =>
        have hrun := run17_spec off n
        rw [hw] at hrun
        have HRUN := Lib.hid hrun
        rw [read_bad HLV.out.on hlt (by rw [hw, Bool.and_false])] at hc
        have HC := Lib.hid hc
        clear hc hrun hw
        by_cases s1 : snap < 0
        · have e1 : decide (snap < 0) = true := decide_eq_true s1
          go_wp2_with fail
          refine HC.out.mono ?_
          rintro e w3 ⟨v3, I3, hs3, rfl, hb3, h3⟩
          obtain ⟨A3, c3, rfl, _⟩ := hb3
          have H3 := Lib.hid h3
          have HS3 := Lib.hid (HI1.out.trans hs3)
          clear h3 hs3 HC
          go_wp2_with fail
          go_roundw
          case rel => exact ⟨i + 1, I3, by go_num, by omega, HS3.out, H3.out⟩
          case measure => simp [intOf]; omega
        · have e1 : decide (snap < 0) = false := decide_eq_false s1
          by_cases s2 : 1073741824 < snap
          · have e2 : decide (1073741824 < snap) = true := decide_eq_true s2
            go_wp2_with fail
            refine HC.out.mono ?_
            rintro e w3 ⟨v3, I3, hs3, rfl, hb3, h3⟩
            obtain ⟨A3, c3, rfl, _⟩ := hb3
            have H3 := Lib.hid h3
            have HS3 := Lib.hid (HI1.out.trans hs3)
            clear h3 hs3 HC
            go_wp2_with fail
            go_roundw
            case rel => exact ⟨i + 1, I3, by go_num, by omega, HS3.out, H3.out⟩
            case measure => simp [intOf]; omega
          · have e2 : decide (1073741824 < snap) = false := decide_eq_false s2
            go_wp2_with fail
            refine HC.out.mono ?_
            rintro e w3 ⟨v3, I3, hs3, rfl, hb3, h3⟩
            obtain ⟨A3, c3, rfl, _⟩ := hb3
            have H3 := Lib.hid h3
            have HS3 := Lib.hid (HI1.out.trans hs3)
            clear h3 hs3 HC
            go_wp2_with fail
            refine (HRUN.out _).mono ?_
            rintro e w4 ⟨rfl, rfl⟩
            go_wp2_with fail
            go_roundw
            case rel => exact ⟨i + 1, I3, by go_num, by omega, HS3.out, H3.out⟩
            case measure => simp [intOf]; omega
      | true =>
        by_cases s1 : snap < 0
        · have e1 : decide (snap < 0) = true := decide_eq_true s1
          rw [read_bad HLV.out.on hlt (by rw [show snapB snap = false by unfold snapB; rw [decide_eq_false_iff_not]; omega, Bool.false_and])] at hc
          have HC := Lib.hid hc
          clear hc
          go_wp2_with fail
          refine HC.out.mono ?_
          rintro e w3 ⟨v3, I3, hs3, rfl, hb3, h3⟩
          obtain ⟨A3, c3, rfl, _⟩ := hb3
          have H3 := Lib.hid h3
          have HS3 := Lib.hid (HI1.out.trans hs3)
          clear h3 hs3 HC
          go_wp2_with fail
          go_roundw
          case rel => exact ⟨i + 1, I3, by go_num, by omega, HS3.out, H3.out⟩
          case measure => simp [intOf]; omega
        · have e1 : decide (snap < 0) = false := decide_eq_false s1
          by_cases s2 : 1073741824 < snap
          · have e2 : decide (1073741824 < snap) = true := decide_eq_true s2
            rw [read_bad HLV.out.on hlt (by rw [show snapB snap = false by unfold snapB; rw [decide_eq_false_iff_not]; omega, Bool.false_and])] at hc
            have HC := Lib.hid hc
            clear hc
            go_wp2_with fail
            refine HC.out.mono ?_
            rintro e w3 ⟨v3, I3, hs3, rfl, hb3, h3⟩
            obtain ⟨A3, c3, rfl, _⟩ := hb3
            have H3 := Lib.hid h3
            have HS3 := Lib.hid (HI1.out.trans hs3)
            clear h3 hs3 HC
            go_wp2_with fail
            go_roundw
            case rel => exact ⟨i + 1, I3, by go_num, by omega, HS3.out, H3.out⟩
            case measure => simp [intOf]; omega
          · have e2 : decide (1073741824 < snap) = false := decide_eq_false s2
            obtain ⟨f, hf⟩ : ∃ f : Nat, off = f := ⟨off.toNat, by unfold withinB at hw; rw [decide_eq_true_eq] at hw; omega⟩
            obtain ⟨N, hN⟩ : ∃ N : Nat, n = N := ⟨n.toNat, by unfold withinB at hw; rw [decide_eq_true_eq] at hw; omega⟩
            subst hf hN
            have hw2 : f ≤ 64 ∧ N ≤ 64 := by unfold withinB at hw; rw [decide_eq_true_eq] at hw; omega
            obtain ⟨_, _, t3⟩ := sim_tell HU.out HLV.out HOV.out (by omega) (snap := snap) (by omega)
            rw [t3 _ _ hw] at hc
            obtain ⟨P, hP⟩ : ∃ P, padB ((ratR o.r snap).getD []) f N = P := ⟨_, rfl⟩
            have hPl : P.length = N := by rw [← hP]; exact padB_len _ _ _
            rw [Int.toNat_natCast, Int.toNat_natCast, hP] at hc
            have HC := Lib.hid hc
            have HPP := Lib.hid hP
            have HPL := Lib.hid hPl
            have HSM := Lib.hid (small_at HLV.out HOV.out snap)
            have HW2 := Lib.hid hw2
            have hrun := run17_spec f N
            rw [hw] at hrun
            have HRUN := Lib.hid hrun
            clear hc hrun hw t3 hP hPl hw2
            go_wp2_with fail
            refine HC.out.mono ?_
            rintro e w3 ⟨v3, I3, hs3, rfl, hb3, h3⟩
            have HB3 := Lib.hid hb3
            obtain ⟨A3, c3, rfl, _⟩ := hb3
            have HS3 := Lib.hid (HI1.out.trans hs3)
            have H3 := Lib.hid h3
            clear h3 hs3 HC
            go_wp2_with fail
            refine (HRUN.out _).mono ?_
            rintro e w4 ⟨rfl, rfl⟩
            go_wp2_with fail
            have H4 := Lib.hid H3.out.drew
            obtain ⟨bb, ob, e1, hce⟩ := rowk_cell (mk := O17.vals) HROW.out.1 HS3.out H4.out (fun _ => rfl) HO.out
            simp only [Value.slice.injEq, and_true] at e1
            obtain ⟨rfl, hq4⟩ := e1
            clear hq4
            have z0 := hce 0 (by omega)
            have z1 := hce 1 (by omega)
            have z2 := hce 2 (by omega)
            have hat := at17_spec (off := ob + i * 3) o snap H4.out (HOK.out.mono HS3.out) z0 z1 z2 (cell_lt z0) (by have := HOB.out; omega)
            have HAT := Lib.hid hat
            have hcv := src_string (bytes_src H4.out HB3.out)
            have hss : (strOfNums P != strOfNums P) = false := by
              show (!(strOfNums P == strOfNums P)) = false
              rw [(MapKept.bytes_beq _ _).2 rfl]
              rfl
            clear hat hce z0 z1 z2
            have hi0 : (0 : Int) ≤ (i : Int) := by omega
            have hi4 : (i : Int) < 4 := by omega
            have hi5 : i * 3 + 3 ≤ 12 := by omega
            refine wp_region_keep (fun w' => (convert 28 9 (.slice A3 P.length c3)).run Tryz.prog w' = .ok (.string (strOfNums P)) w') [0, 1, 2, 3, 4, 5, 6, 7, 8, 10, 11] [9, 12, 13] [14, 15] (by kernel_rfl) (by kernel_rfl) (by (exact hcv)) ?_
            simp only [pickL, List.getElem?_cons_zero, List.getElem?_cons_succ]
            repeat (first | (refine wpFirst_step _ (Or.inl ⟨by rfl, by (intro w hSw; (try dsimp only at hSw); go_simp; try with_reducible rfl)⟩) ?_; (try simp only [Act.put, List.setIfInBounds_toArray, List.set_cons_zero, List.set_cons_succ])) | (refine wpFirst_step _ (Or.inr ⟨by rfl, rfl⟩) ?_; (try simp only [Act.put, List.setIfInBounds_toArray, List.set_cons_zero, List.set_cons_succ])) | fail)
            refine wpFirst_nil ?_
            unfold wpHold
            clear hcv
            go_wp2_with fail
            refine HAT.out.mono ?_
            rintro e w5 ⟨⟨bo, bv⟩, rfl, hbok, hbr, hb5⟩
            simp only at hbr
            subst hbr
            have h5 := H4.out.keep hb5
            have hcv := src_string (bytes_src h5 HB3.out)
            have hrd := read17_spec (ratR o.r snap) bv f N h5 hbok (by have := HW2.out; omega) (by have := HW2.out; omega) (by have := HSM.out; omega)
            rw [HPP.out] at hrd
            have HRD := Lib.hid hrd
            clear hrd h5 hbok hb5 HAT
            simp only [B17.val]
            go_wp2_with fail
            refine holdPost_normal hcv ?_
            unfold wpHold
            clear hcv
            go_wp2_with fail
            refine HRD.out.mono ?_
            rintro e w6 ⟨gb, rfl, q6⟩
            obtain ⟨I7, hs7, hb7, q7⟩ := pad_bytes HPL.out (by have := HW2.out; omega) q6
            have hcv := src_string (bytes_src q7 ((bytesIP _ _).mono hs7 HB3.out))
            have hcv7 := src_string (bytes_src q7 hb7)
            have H7 := Lib.hid q7
            have HS7 := Lib.hid hs7
            clear q6 q7 hs7 hb7 HRD
            go_wp2_with fail
            refine holdPost_normal hcv ?_
            unfold wpHold
            go_wp2_with fail
            refine holdPost_normal hcv ?_
            unfold wpHold
            go_wp2_with fail
            refine NoPanic.normal ?_
            go_wp2_with fail
            go_roundw
            case rel => exact ⟨i + 1, I7, by go_num, by omega, HS3.out.trans HS7.out, H7.out⟩
            case measure => simp [intOf]; omega
    · obtain rfl : i = 4 := by omega
      have d0 : decide (((4 : Nat) : Int) < 4) = false := rfl
      have H9 := Lib.hid hst
      have HI9 := Lib.hid hI1
      clear hst hI1
      go_wp2_with fail
      exact HQ.out _ _ _ _ _ _ _ _ _ _ _ _ _ _ _ _ _ _ _ _ _ _ _ _ _ _ _ _ _ _ _ _ _ _ _ _ _ _ _ _ _ _ _ _ _ _ _ _ _ _ _ _ I1 _ HI9.out H9.out
theorem plays_walk (v0 : Value) (ls : List A17) (raw : Bool) (snap off n : Int) (W : World) (h1 : RowI W.hp 8 v0 ls.length (ls.flatMap A17.vals)) (hok : ∀ a ∈ ls, a.ok W.hp) (hn : ls.length ≤ maxLen) :
    Calls Tryz.prog 3 #[v0, .bool raw, .int .i64 snap, .int .i64 off, .int .i64 n] W fun e w' => e = .returned (.bool true) ∧ Below W.heap.size W w' := by
  unfold maxLen at hn
  have hn1 : (ls.length : Int) ≤ 9223372036854775807 := by omega
  have hfs := few17_spec v0 ls 40 W h1 hok (by unfold maxLen; omega)
  have H1 := Lib.hid h1
  have HOK := Lib.hid hok
  obtain ⟨A1, c1, rfl, _⟩ := h1
  clear hok
  cases hfw : few17 ls 40 with
  | false =>
    rw [hfw] at hfs
    have HFS := Lib.hid hfs
    clear hfs
    go_enter Tryz.func3, Tryz.ntmps3
    go_wp2_with fail
    refine HFS.out.mono ?_
    rintro e w1 ⟨rfl, rfl⟩
    go_wp2_with fail
    refine (known17_spec _).mono ?_
    rintro e w9 ⟨rfl, hb9⟩
    have HB := Lib.hid hb9
    clear hb9
    go_wp2_with fail
    go_ret
    exact ⟨rfl, HB.out⟩
  | true =>
    rw [hfw] at hfs
    have HFS := Lib.hid hfs
    obtain ⟨hl40, hfew⟩ : ls.length ≤ 40 ∧ ∀ a ∈ ls, a.p.length ≤ 100 ∧ a.ms.length ≤ 20 := by
      unfold few17 at hfw
      simp only [Bool.and_eq_true, decide_eq_true_eq, List.all_eq_true] at hfw
      refine ⟨by omega, fun a ha => ?_⟩
      have := hfw.1 a ha
      unfold A17.few at this
      rw [decide_eq_true_eq] at this
      omega
    have HFEW := Lib.hid hfew
    clear hfs hfw hfew
    go_enter Tryz.func3, Tryz.ntmps3
    go_wp2_with fail
    refine HFS.out.mono ?_
    rintro e w1 ⟨rfl, rfl⟩
    go_wp2_with fail
    refine (new_spec 1048576 (St.init W)).mono ?_
    rintro e w2 ⟨p, rfl, h2⟩
    have mk := make_objects w2
    obtain ⟨I3, hs3, hro3, h3⟩ := none4_row (h2.alloc (.cells zero12 47))
    obtain ⟨gz, hgz⟩ : ∃ x, w2.heap.size = x := ⟨_, rfl⟩
    obtain ⟨w3, hw3⟩ : ∃ x, w2.alloc (.cells zero12 47) = x := ⟨_, rfl⟩
    rw [hw3] at mk h3
    rw [hgz] at mk hro3
    have H3 := Lib.hid h3
    have HS3 := Lib.hid hs3
    have HRO3 := Lib.hid hro3
    clear h2 h3 hs3 hro3 hgz hw3 HFS
    go_wp2_with fail
    go_loopw [12, 13] (fun a12 a13 wr => ∃ (i : Nat) (S : Str) (I1 : Hp) (os : List O17) (rv : Value), a13 = .int .i64 i ∧ a12 = rv ∧ i ≤ ls.length ∧ Live (univ (ls.map (effA raw))) S ∧ S.armed = false ∧ Sim S (os.map O17.r) ∧ Keeps S (90000 - 300 * i) ∧ W.hp.sub I1 ∧ RowO I1 rv os ∧ (∀ o ∈ os, o.cs.length ≤ i) ∧ St W I1 wr (storeHP p S :: [])) (fun _ a13 _ => ls.length - (intOf a13).toNat)
    case atStart => exact ⟨0, newS 1048576, I3, none4, .slice (some ⟨gz, 0, none⟩) 4 4, rfl, rfl, Nat.zero_le _, live_new _, rfl, Sim.new, (keeps_new _).fewer (by omega), HS3.out, HRO3.out, none4_cs, H3.out⟩
    case round =>
      obtain ⟨i, S, I1, os, rv, rfl, rfl, hi, hlv, hcalm, hsim, hk, hI1, hrow, hbnd, hst⟩ := hrel
      have HLV := Lib.hid hlv
      have HCALM := Lib.hid hcalm
      have HSIM := Lib.hid hsim
      have HK := Lib.hid hk
      have HI1 := Lib.hid hI1
      have HROW := Lib.hid hrow
      have HBND := Lib.hid hbnd
      have HST := Lib.hid hst
      clear hlv hcalm hsim hk hrow hbnd
      by_cases hlt : i < ls.length
      · have d0 : decide ((i : Int) < (ls.length : Int)) = true := by rw [decide_eq_true_eq]; omega
        obtain ⟨a, ha⟩ : ∃ a, ls[i]? = some a := ⟨_, List.getElem?_eq_getElem hlt⟩
        obtain ⟨b, off', e1, hc⟩ := rowk_cell (i := i) H1.out hI1 hst (fun _ => rfl) ha
        simp only [Value.slice.injEq, and_true] at e1
        subst e1
        have ham := List.mem_of_getElem? ha
        have hoka := A17.ok_mono (HOK.out a ham) hI1
        have hfw := HFEW.out a ham
        have y0 := hc 0 (by omega)
        have y1 := hc 1 (by omega)
        have y2 := hc 2 (by omega)
        have y3 := hc 3 (by omega)
        have y4 := hc 4 (by omega)
        have y5 := hc 5 (by omega)
        have y6 := hc 6 (by omega)
        have y7 := hc 7 (by omega)
        have hmem : effA raw a ∈ ls.map (effA raw) := List.mem_map_of_mem ham
        obtain ⟨Bp, bcp, hbpv, _⟩ := hoka.1
        obtain ⟨Bm, bcm, hbmv, _⟩ := hoka.2.1
        cases raw with
        | true =>
          simp only [effA, if_true] at hmem
          obtain ⟨b0, b1, b2, b3, b4, b5, bp, bpv, bms, bmv⟩ := a
          simp only at hbpv hbmv hfw
          subst hbpv hbmv
          simp only [A17.vals, List.getElem?_cons_succ, List.getElem?_cons_zero, Nat.add_zero] at y0 y1 y2 y3 y4 y5 y6 y7
          have HMEM := Lib.hid hmem
          have HOKA := Lib.hid hoka
          obtain ⟨I4, hs4, hA4, h4⟩ := (hst.alloc (.cells #[.int .i64 b0, .int .i64 b1, .int .i64 b2, .int .i64 b3, .int .i64 b4, .int .i64 b5, .slice Bp bp.length bcp, .slice Bm bms.length bcm] 31)).freeze
          have H4 := Lib.hid h4
          have HS4 := Lib.hid hs4
          have HA4 := Lib.hid hA4
          clear hmem hoka h4 hs4 hA4 hc ha ham hst hI1
          go_upto_region 13 with fail
          refine plays_act (m := 89700 - 300 * i) (al := ls.map (effA true)) (n := i) (os := os) (by assumption) (by kernel_rfl) ⟨b0, b1, b2, b3, b4, b5, bp, .slice Bp bp.length bcp, bms, .slice Bm bms.length bcm⟩ H4.out (by rw [List.length_map]; exact hl40) HMEM.out HLV.out HCALM.out HSIM.out (HK.out.fewer (by omega)) (HROW.out.mono HS4.out) HBND.out (by omega) HA4.out (A17.ok_mono HOKA.out HS4.out) (by simp only; omega) (by simp only; omega) ?_
          intro q15 q41 q42 q43 q44 q45 q46 q47 q48 q49 q50 q51 q52 q53 q54 q55 q56 q57 q58 q59 q60 q61 q62 rv8 I8 w8 S8 os8 hs8 hl8 hc8 hsim8 hk8 hr8 hb8 h8
          have H8 := Lib.hid h8
          have HL8 := Lib.hid hl8
          have HC8 := Lib.hid hc8
          have HSIM8 := Lib.hid hsim8
          have HK8 := Lib.hid hk8
          have HR8 := Lib.hid hr8
          have HB8 := Lib.hid hb8
          have HS8 := Lib.hid ((HI1.out.trans HS4.out).trans hs8)
          clear h8 hl8 hc8 hsim8 hk8 hr8 hb8 hs8
          go_wp2_with fail
          go_roundw
          case rel => exact ⟨i + 1, S8, I8, os8, rv8, by go_num, rfl, by omega, HL8.out, HC8.out, HSIM8.out, HK8.out.fewer (by omega), HS8.out, HR8.out, HB8.out, H8.out⟩
          case measure => simp [intOf]; omega
        | false =>
          simp only [effA] at hmem
          rw [if_neg (by simp)] at hmem
          have hml := mild_spec a (hst.alloc (.cells (A17.vals a).toArray 31)) hoka
          obtain ⟨hmok, hmpl⟩ := mild_ok hoka
          have hmm : a.mild.ms = a.ms := rfl
          obtain ⟨B, hB⟩ : ∃ B, a.mild = B := ⟨_, rfl⟩
          rw [hB] at hml hmok hmpl hmem hmm
          obtain ⟨Cp, ccp, hcpv, _⟩ := hmok.1
          obtain ⟨Cm, ccm, hcmv, _⟩ := hmok.2.1
          obtain ⟨b0, b1, b2, b3, b4, b5, bp, bpv, bms, bmv⟩ := a
          obtain ⟨m0, m1, m2, m3, m4, m5, mp, mpv, mms, mmv⟩ := B
          simp only at hbpv hbmv hcpv hcmv hmpl hfw hmm
          subst hbpv hbmv hcpv hcmv
          simp only [A17.vals, List.getElem?_cons_succ, List.getElem?_cons_zero, Nat.add_zero] at y0 y1 y2 y3 y4 y5 y6 y7
          simp only [A17.val, A17.vals] at hml
          have HML := Lib.hid hml
          have HMEM := Lib.hid hmem
          have HMOK := Lib.hid hmok
          have HMPL := Lib.hid hmpl
          have HMM := Lib.hid hmm
          clear hmem hoka hml hmok hmpl hc ha ham hI1 hB hmm
          go_wp2_with fail
          refine HML.out.mono ?_
          rintro e w5 ⟨rfl, hb5⟩
          have h5 := (hst.alloc (.cells #[.int .i64 b0, .int .i64 b1, .int .i64 b2, .int .i64 b3, .int .i64 b4, .int .i64 b5, .slice Bp bp.length bcp, .slice Bm bms.length bcm] 31)).keep hb5
          have z := cells_of h5.heap
          have z0 := z 0
          have z1 := z 1
          have z2 := z 2
          have z3 := z 3
          have z4 := z 4
          have z5 := z 5
          have z6 := z 6
          have z7 := z 7
          simp at z0 z1 z2 z3 z4 z5 z6 z7
          have fr := frozen_of_row h5.heap
          have lt := h5.lt
          have h6 := (((((((h5.setCell 0 (.int .i64 m0)).setCell 1 (.int .i64 m1)).setCell 2 (.int .i64 m2)).setCell 3 (.int .i64 m3)).setCell 4 (.int .i64 m4)).setCell 5 (.int .i64 m5)).setCell 6 (.slice Cp mp.length ccp)).setCell 7 (.slice Cm mms.length ccm)
          simp only [List.setIfInBounds_toArray, List.set_cons_zero, List.set_cons_succ] at h6
          obtain ⟨I6, hs6, hA6, h6⟩ := h6.freeze
          have H6 := Lib.hid h6
          have HS6 := Lib.hid hs6
          have HA6 := Lib.hid hA6
          clear h5 h6 hs6 hA6 hb5 hst HML z
          go_upto_region 13 with fail
          refine plays_act (m := 89700 - 300 * i) (al := ls.map (effA false)) (n := i) (os := os) (by assumption) (by kernel_rfl) ⟨m0, m1, m2, m3, m4, m5, mp, .slice Cp mp.length ccp, mms, .slice Cm mms.length ccm⟩ H6.out (by rw [List.length_map]; exact hl40) HMEM.out HLV.out HCALM.out HSIM.out (HK.out.fewer (by omega)) (HROW.out.mono HS6.out) HBND.out (by omega) HA6.out (A17.ok_mono HMOK.out HS6.out) (by have := HMPL.out; simp only; omega) (by have := HMM.out; simp only; rw [this]; omega) ?_
          intro q15 q41 q42 q43 q44 q45 q46 q47 q48 q49 q50 q51 q52 q53 q54 q55 q56 q57 q58 q59 q60 q61 q62 rv8 I8 w8 S8 os8 hs8 hl8 hc8 hsim8 hk8 hr8 hb8 h8
          have H8 := Lib.hid h8
          have HL8 := Lib.hid hl8
          have HC8 := Lib.hid hc8
          have HSIM8 := Lib.hid hsim8
          have HK8 := Lib.hid hk8
          have HR8 := Lib.hid hr8
          have HB8 := Lib.hid hb8
          have HS8 := Lib.hid ((HI1.out.trans HS6.out).trans hs8)
          clear h8 hl8 hc8 hsim8 hk8 hr8 hb8 hs8
          go_wp2_with fail
          go_roundw
          case rel => exact ⟨i + 1, S8, I8, os8, rv8, by go_num, rfl, by omega, HL8.out, HC8.out, HSIM8.out, HK8.out.fewer (by omega), HS8.out, HR8.out, HB8.out, H8.out⟩
          case measure => simp [intOf]; omega
      · obtain rfl : i = ls.length := by omega
        have d0 : decide (((ls.length : Nat) : Int) < (ls.length : Int)) = false := by rw [decide_eq_false_iff_not]; omega
        clear hst hI1
        go_upto_region 19 with fail
        refine plays_reads (os := os) (by assumption) (by kernel_rfl) HST.out (univ_ok (by rw [List.length_map]; exact hl40)) HLV.out HSIM.out HK.out.inv HROW.out (fun o ho => by have := HBND.out o ho; omega) ?_
        intro q10 q16 q17 q18 q63 q64 q65 q66 q67 q68 q69 q70 q71 q72 q73 q74 q75 q76 q77 q78 q79 q80 q81 q82 q83 q84 q85 q86 q87 q88 q89 q90 q91 q92 q93 q94 q95 q96 q97 q98 q99 q100 q101 q102 q103 q104 q105 q106 q107 q108 q109 q110 I8 w8 hs8 h8
        have H8 := Lib.hid h8
        clear h8 hs8
        go_wp2_with fail
        refine (known17_spec _).mono ?_
        rintro e w9 ⟨rfl, hb9⟩
        have HB := Lib.hid (H8.out.keep hb9)
        clear hb9
        go_wp2_with fail
        go_ret
        exact ⟨rfl, HB.out.below⟩
end
end Go.Proofs.YtbepmbcbcklmlaaGreat
