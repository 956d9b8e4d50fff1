/- StoreDry: what was dry and not touched since stays, whatever falls. -/
import Derived.Test.YtnokhjhhadnckaaDeeds
import Derived.Test.YtnokhjhhadnckaaViews
import Derived.Test.YtnokhjhhadnckaaTwin
import Derived.Test.YtnokhjhhadnckaaKnown3
import Derived.Deep.CutRange
set_option linter.unusedSimpArgs false
set_option linter.unusedVariables false
set_option linter.unusedSectionVars false
namespace Go.Proofs.Ytnokhjhhadnckaa
open Go.RowKit
/-- A store whose fuse isn't armed, with power, whose wet deeds lead to what is seen. -/
structure Quiet (S : Str) : Prop where
  on : S.on = true
  calm : S.armed = false
  coh : Coh S
theorem calm_burns {S : Str} (h : S.armed = false) : (burnsS S).1 = false := by simp [burnsS, h]
/-- Nothing was done, or one deed was done at the key. -/
def Did (S S' : Str) (k : K4) : Prop := S' = S ∨ ∃ d, Done S S' k d
theorem did_do {S : Str} (h : S.armed = false) (k : K4) (d : Dd) : Did S (doS S k d).2 k := .inr ⟨d, (do_done (calm_burns h)).2⟩
theorem did_write {S : Str} (h : S.armed = false) (k : K4) (off : Int) (p : List Int) : Did S (writeS S k off p).2 k := by
  unfold writeS
  repeat' split
  all_goals first | exact .inl rfl | exact did_do h _ _ | fail
theorem did_act {S : Str} (h : S.armed = false) (a : A3) (h6 : a.what ≠ 6) : Did S (actS S a).2 a.key := by
  unfold actS
  rw [if_neg h6]
  split
  · unfold makeS
    repeat' split
    all_goals first | exact .inl rfl | exact did_do h _ _ | fail
  split
  · exact did_write h _ _ _
  split
  · unfold appendS
    repeat' split
    all_goals first | exact .inl rfl | exact did_write h _ _ _ | fail
  split
  · unfold trimS
    repeat' split
    all_goals first | exact .inl rfl | exact did_do h _ _ | fail
  split
  · unfold dropS
    repeat' split
    all_goals first | exact .inl rfl | exact did_do h _ _ | fail
  split
  · unfold setS
    repeat' split
    all_goals first | exact .inl rfl | exact did_do h _ _ | fail
  exact .inl rfl
theorem Quiet.did {S S' : Str} {k : K4} (h : Quiet S) (hd : Did S S' k) : Quiet S' := by
  rcases hd with rfl | ⟨d, hd⟩
  · exact h
  · exact ⟨hd.on.trans h.on, hd.armed.trans h.calm, hd.coh h.coh⟩
theorem Quiet.dry {S : Str} (h : Quiet S) : (barrierS S).1 = 0 ∧ Dried S (barrierS S).2 ∧ Quiet (barrierS S).2 := by
  obtain ⟨h1, h2⟩ := barrier_dried h.on h.coh (calm_burns h.calm)
  exact ⟨h1, h2, h2.on.trans h.on, h2.armed.trans h.calm, h2.coh⟩
theorem Quiet.act {S : Str} (h : Quiet S) (a : A3) : Quiet (actS S a).2 := by
  by_cases h6 : a.what = 6
  · have : (actS S a).2 = (barrierS S).2 := by simp [actS, h6]
    rw [this]
    exact h.dry.2.2
  · exact h.did (did_act h.calm a h6)
theorem Quiet.new (r : Int) : Quiet (newS r) := ⟨rfl, rfl, fun k => by simp [newS, Go.Proofs.Ytnokhjhhadnckaa.lateAt, Go.Proofs.Ytnokhjhhadnckaa.get]⟩
/-- What isn't touched since is as it was, and dry. -/
structure Since (S0 S : Str) (T : Nat → Bool) : Prop where
  quiet : Quiet S
  same : ∀ w : Nat, w < 8 → T w = false → get (keyW w) S.seen = get (keyW w) S0.seen ∧ get (keyW w) S.dry = get (keyW w) S0.seen ∧ lateAt S (keyW w) = []
theorem keyW_inj {u v : Nat} (hu : u < 8) (hv : v < 8) (h : keyW u = keyW v) : u = v := by
  simp only [keyW, K4.mk.injEq] at h
  omega
def updT (T : Nat → Bool) (n : Nat) : Nat → Bool := fun i => if i = n then true else T i
theorem Since.touch {S0 S S' : Str} {T : Nat → Bool} (h : Since S0 S T) (u : Nat) (hu : u < 8) (hd : Did S S' (keyW u)) : Since S0 S' (updT T u) := by
  refine ⟨h.quiet.did hd, fun w hw ht => ?_⟩
  unfold updT at ht
  split at ht
  · cases ht
  · rename_i hne
    obtain ⟨h1, h2, h3⟩ := h.same w hw ht
    have hk : keyW w ≠ keyW u := fun e => hne (keyW_inj hw hu e)
    rcases hd with rfl | ⟨d, hd⟩
    · exact ⟨h1, h2, h3⟩
    · refine ⟨?_, ?_, ?_⟩
      · rw [hd.seen, if_neg hk]; exact h1
      · rw [hd.dry]; exact h2
      · rw [hd.late, if_neg hk]; exact h3
theorem Since.start {S0 S : Str} (h : Dried S S0) (hq : Quiet S0) : Since S0 S0 (fun _ => false) := by
  refine ⟨hq, fun w _ _ => ⟨rfl, ?_, ?_⟩⟩
  · rw [h.dry, h.seen]
  · unfold lateAt; rw [h.late]; rfl
theorem Since.fall {S0 S : Str} {T : Nat → Bool} (h : Since S0 S T) (h0 : Quiet S0) (hn : (S.late.map (·.1)).Nodup) (keep : List Int) (torn : Int) :
    (powerS (fallS S keep torn).1).on = true ∧ (powerS (fallS S keep torn).1).wet = 0 ∧
    ∀ w : Nat, w < 8 → T w = false → ∀ off n, readS (powerS (fallS S keep torn).1) (keyW w) off n = readS S0 (keyW w) off n := by
  have hf := fall_fell h.quiet.on hn h.quiet.coh keep torn
  refine ⟨rfl, hf.wet, fun w hw ht off n => ?_⟩
  obtain ⟨N, hN⟩ := hf.obj
  obtain ⟨h1, h2, h3⟩ := h.same w hw ht
  have hs : get (keyW w) (powerS (fallS S keep torn).1).seen = get (keyW w) S0.seen := by
    show get (keyW w) (fallS S keep torn).1.seen = _
    rw [(hN _).1, left_calm h3, h2]
  unfold readS whyS mayS
  rw [hs, h0.on]
  rfl
theorem A3.ok_since {I I' : Hp} {a : A3} (h : a.ok I) (s : I.sub I') : a.ok I' := ⟨(bytesIP _ _).mono s h.1, h.2.1, h.2.2.1, (intsIP _ _).mono s h.2.2.2.1, h.2.2.2.2⟩
theorem few_one {ls : List A3} (h : fewA ls = true) : ls.length ≤ 60 ∧ ∀ a ∈ ls, a.p.length ≤ 60 := by
  unfold fewA at h
  simp only [Bool.and_eq_true, List.all_eq_true, decide_eq_true_eq] at h
  refine ⟨h.2, fun a ha => ?_⟩
  have := h.1 a ha
  unfold A3.few at this
  simp at this
  omega
def boolA8 (T : Nat → Bool) : Array Value := ((List.range 8).map fun i => Value.bool (T i)).toArray
theorem boolA8_get (T : Nat → Bool) {n : Nat} (h : n < 8) : (boolA8 T)[n]? = some (.bool (T n)) := by
  unfold boolA8
  simp [h]
theorem boolA8_set (T : Nat → Bool) {n : Nat} (h : n < 8) : (boolA8 T).setIfInBounds n (.bool true) = boolA8 (updT T n) := by
  apply Array.ext
  · simp [boolA8]
  · intro i h1 h2
    have hi : i < 8 := by simpa [boolA8] using h2
    simp only [boolA8, updT, Array.getElem_setIfInBounds, List.getElem_toArray, List.getElem_map, List.getElem_range]
    by_cases e : n = i
    · subst e; simp
    · simp [e, Ne.symm e]
theorem bool8_info : (Try.prog.info? 4).map (fun i => (i.zero, i.size, i.bytes)) = some (some (.bool false), 1, 1) := by kernel_rfl
theorem make_bools8 (w : World) : (Instr.makeSlice 38 (.int .i64 8) (.int .i64 8)).run Try.prog w = .ok (.slice (some ⟨w.heap.size, 0, none⟩) 8 8) (w.alloc (.cells (boolA8 fun _ => false) 4)) := by
  obtain ⟨i0, hi0, hz0, hz1, hz2⟩ := info_parts bool8_info
  have h := run_makeSlice (P := Try.prog) w 38 4 i0 (.bool false) Try.underlying38 hi0 hz0 .i64 .i64 8 8 (by decide) (by decide) (by rw [hz1]; decide) (by rw [hz2]; decide) (by decide)
  rw [hz1, show madeCells (Value.bool false).cells ((8 : Int).toNat * 1) = boolA8 fun _ => false by kernel_rfl] at h
  exact h
theorem imm_cells12d {W w : World} {I : Hp} {l : List HP} {g : Nat} {t : TypeId} {a0 a1 a2 a3 a4 a5 a6 a7 a8 a9 a10 a11 : Value} (h : St W I w l) (e : I g = some (.cells #[a0, a1, a2, a3, a4, a5, a6, a7, a8, a9, a10, a11] t)) :
    w.cell? ⟨g, 0, none⟩ = some a0 ∧ w.cell? ⟨g, 1, none⟩ = some a1 ∧ w.cell? ⟨g, 2, none⟩ = some a2 ∧ w.cell? ⟨g, 3, none⟩ = some a3 ∧ w.cell? ⟨g, 4, none⟩ = some a4 ∧ w.cell? ⟨g, 5, none⟩ = some a5 ∧
    w.cell? ⟨g, 6, none⟩ = some a6 ∧ w.cell? ⟨g, 7, none⟩ = some a7 ∧ w.cell? ⟨g, 8, none⟩ = some a8 ∧ w.cell? ⟨g, 9, none⟩ = some a9 ∧ w.cell? ⟨g, 10, none⟩ = some a10 ∧ w.cell? ⟨g, 11, none⟩ = some a11 :=
  ⟨St.imm_cell h e 0, St.imm_cell h e 1, St.imm_cell h e 2, St.imm_cell h e 3, St.imm_cell h e 4, St.imm_cell h e 5, St.imm_cell h e 6, St.imm_cell h e 7, St.imm_cell h e 8, St.imm_cell h e 9, St.imm_cell h e 10, St.imm_cell h e 11⟩
section
variable {W w : World} {I : Hp} {p p2 g : Nat} {S T : Str}
set_option maxRecDepth 4000
set_option maxHeartbeats 8000000
/-- Region 27: both are read. -/
theorem dry_reads {a b : Code} {Q : Exit → Act → World → Prop} {K : Act → World → Prop} (hK : ∀ x y, b.wp Try.prog Q x y → K x y) (hC : (Try.f8).body.bind (fromR 27) = some (.seq a b)) {x0 x1 x2 x3 x4 x5 x6 x7 x8 x10 x11 x14 x15 x16 x17 x18 x19 x20 x21 x22 x23 x24 x25 x26 x27 x28 x29 x30 x31 x32 x33 x34 x35 x36 x37 x38 x39 x40 x41 x42 x43 x44 x45 x46 x47 x48 x49 x50 x51 x52 x53 x54 x55 x56 x57 x58 x59 x60 x61 x62 x63 x64 x65 x66 x67 x68 x69 x70 x71 x72 x73 x74 x75 x76 x77 x78 x79 x80 x81 x82 x83 x84 x85 x86 x87 x88 x89 x90 x91 x92 x93 x94 x95 x96 x97 x98 x99 x100 x101 x102 x103 x104 x105 x106 x107 x108 x109 x110 x111 x112 x113 x114 x115 x116 x117 x118 x119 x120 x121 x122 x123 x124 x125 x126 x127 x128 x129 x130 x131 x132 x133 x134 x135 x136 x137 x138 x139 x140 x141 x142 : Value} {m m2 : Nat} {B : Nat → Bool}
    (h : St W I w (storeHP p S :: storeHP p2 T :: HP.pt g (.cells (boolA8 B) 4) :: [])) (hs : Inv S m) (ht : Inv T m2) (hsh : ∀ w : Nat, w < 8 → B w = false → ∀ off n, readS S (keyW w) off n = readS T (keyW w) off n)
    (hQ : ∀ (y0 y1 y2 y3 y4 y5 y6 y7 y8 y10 y11 y14 y15 y16 y17 y18 y19 y20 y21 y22 y23 y24 y25 y26 y27 y28 y29 y30 y31 y32 y33 y34 y35 y36 y37 y38 y39 y40 y41 y42 y43 y44 y45 y46 y47 y48 y49 y50 y51 y52 y53 y54 y55 y56 y57 y58 y59 y60 y61 y62 y63 y64 y65 y66 y67 y68 y69 y70 y71 y72 y73 y74 y75 y76 y77 y78 y79 y80 y81 y82 y83 y84 y85 y86 y87 y88 y89 y90 y91 y92 y93 y94 y95 y96 y97 y98 y99 y100 y101 y102 y103 y104 y105 y106 y107 y108 y109 y110 y111 y112 y113 y114 y115 y116 y117 y118 y119 y120 y121 y122 y123 y124 y125 y126 y127 y128 y129 y130 y131 y132 y133 y134 y135 y136 y137 y138 y139 y140 y141 y142 : Value) (I' : Hp) (w' : World), I.sub I' → St W I' w' (storeHP p S :: []) → Q .normal ⟨#[y0, y1, y2, y3, y4, y5, y6, y7, y8, .pointer (some ⟨p, 0, none⟩), y10, y11, .pointer (some ⟨p2, 0, none⟩), .slice (some ⟨g, 0, none⟩) 8 8, y14, y15, y16, y17, y18, y19, y20, y21, y22, y23, y24, y25, y26, y27, y28, y29, y30, y31, y32, y33, y34, y35, y36, y37, y38, y39, y40, y41, y42, y43, y44, y45, y46, y47, y48, y49, y50, y51, y52, y53, y54, y55, y56, y57, y58, y59, y60, y61, y62, y63, y64, y65, y66, y67, y68, y69, y70, y71, y72, y73, y74, y75, y76, y77, y78, y79, y80, y81, y82, y83, y84, y85, y86, y87, y88, y89, y90, y91, y92, y93, y94, y95, y96, y97, y98, y99, y100, y101, y102, y103, y104, y105, y106, y107, y108, y109, y110, y111, y112, y113, y114, y115, y116, y117, y118, y119, y120, y121, y122, y123, y124, y125, y126, y127, y128, y129, y130, y131, y132, y133, y134, y135, y136, y137, y138, y139, y140, y141, y142], []⟩ w') :
    a.wp Try.prog (Exit.then K Q) ⟨#[x0, x1, x2, x3, x4, x5, x6, x7, x8, .pointer (some ⟨p, 0, none⟩), x10, x11, .pointer (some ⟨p2, 0, none⟩), .slice (some ⟨g, 0, none⟩) 8 8, x14, x15, x16, x17, x18, x19, x20, x21, x22, x23, x24, x25, x26, x27, x28, x29, x30, x31, x32, x33, x34, x35, x36, x37, x38, x39, x40, x41, x42, x43, x44, x45, x46, x47, x48, x49, x50, x51, x52, x53, x54, x55, x56, x57, x58, x59, x60, x61, x62, x63, x64, x65, x66, x67, x68, x69, x70, x71, x72, x73, x74, x75, x76, x77, x78, x79, x80, x81, x82, x83, x84, x85, x86, x87, x88, x89, x90, x91, x92, x93, x94, x95, x96, x97, x98, x99, x100, x101, x102, x103, x104, x105, x106, x107, x108, x109, x110, x111, x112, x113, x114, x115, x116, x117, x118, x119, x120, x121, x122, x123, x124, x125, x126, x127, x128, x129, x130, x131, x132, x133, x134, x135, x136, x137, x138, x139, x140, x141, x142], []⟩ w := by
  injection hC with hC
  injection hC with hC1 hC2
  subst hC1 hC2
  have HQ := Lib.hid hQ
  have H := Lib.hid h
  have HS := Lib.hid hs
  have HT := Lib.hid ht
  have HSH := Lib.hid hsh
  clear hQ h hs ht hsh
  go_wp2_with fail
  go_loopw [16] (fun a16 wr => ∃ (i : Nat) (I1 : Hp), a16 = .int .i64 i ∧ i ≤ 8 ∧ I.sub I1 ∧ St W I1 wr (storeHP p S :: storeHP p2 T :: HP.pt g (.cells (boolA8 B) 4) :: [])) (fun a16 _ => 8 - (intOf a16).toNat)
  case atStart => exact ⟨0, I, rfl, by omega, Hp.sub.refl _, H.out⟩
  case round =>
    obtain ⟨i, I1, rfl, hi, hI1, hst⟩ := hrel
    by_cases hlt : i < 8
    · have hky := akey_spec ⟨0, i, 0, 0, false, ⟨0, 0, 0, 0⟩, [], .slice none 0 0, ⟨#[]⟩, [], .slice none 0 0⟩ wr
      have hkk : A3.key ⟨0, i, 0, 0, false, ⟨0, 0, 0, 0⟩, [], .slice none 0 0, ⟨#[]⟩, [], .slice none 0 0⟩ = keyW i := by
        show keyW ((i : Int) % 8) = keyW i
        rw [Int.emod_eq_of_lt (by omega) (by omega)]
      rw [hkk] at hky
      have hsh2 := HSH.out i hlt
      obtain ⟨⟨k0, k1, k2, k3⟩, hKe⟩ : ∃ k, keyW i = k := ⟨_, rfl⟩
      rw [hKe] at hky hsh2
      simp only [A3.val] at hky
      have HKY := Lib.hid hky
      have HST := Lib.hid hst
      have HI1 := Lib.hid hI1
      have HSH2 := Lib.hid hsh2
      clear hky hKe hkk hst hI1 hsh2
      go_wp2_with fail
      refine HKY.out.mono ?_
      rintro e w3 ⟨rfl, hb3⟩
      obtain ⟨I4, hs4, hI4, h4⟩ := ((HST.out.keep hb3).alloc (.cells #[.int .i64 k0, .int .i64 k1, .int .i64 k2, .int .i64 k3] 27)).freeze
      obtain ⟨x0, x1, x2, x3⟩ := imm_cells4 h4 hI4
      have hr1 := read_spec ⟨k0, k1, k2, k3⟩ 0 1048576 h4 HS.out
      obtain ⟨⟨bs, er⟩, hrd⟩ : ∃ r, readS S ⟨k0, k1, k2, k3⟩ 0 1048576 = r := ⟨_, rfl⟩
      obtain ⟨⟨bt, et⟩, hrt⟩ : ∃ r, readS T ⟨k0, k1, k2, k3⟩ 0 1048576 = r := ⟨_, rfl⟩
      have heq : B i = false → et = er ∧ bt = bs := fun hb => by
        have := HSH2.out hb 0 1048576
        rw [hrd, hrt] at this
        simp only [Prod.mk.injEq] at this
        exact ⟨this.2.symm, this.1.symm⟩
      rw [hrd] at hr1
      simp only [K4.val] at hr1 ⊢
      have HR1 := Lib.hid hr1
      have H4 := Lib.hid h4
      have HI4 := Lib.hid hI4
      have HS4 := Lib.hid (HI1.out.trans hs4)
      have HRT := Lib.hid hrt
      have HEQ := Lib.hid heq
      clear hr1 h4 hI4 hs4 hrd hrt hb3 heq
      go_wp2_with fail
      refine HR1.out.mono ?_
      rintro e w5 ⟨hb5, v5, rfl, ho5⟩
      have h5 := H4.out.keep hb5
      obtain ⟨A5, c5, rfl⟩ := is_slice ho5
      have hst1 := SliceSrc.of_owns ho5 (bytes_one bs)
      obtain ⟨z0, z1, z2, z3⟩ := imm_cells4 h5 HI4.out
      have hr2 := read_spec ⟨k0, k1, k2, k3⟩ 0 1048576 (h5.pull 1 _ rfl) HT.out
      rw [HRT.out] at hr2
      simp only [K4.val] at hr2
      have HR2 := Lib.hid hr2
      have H5 := Lib.hid h5
      have HST1 := Lib.hid hst1
      clear hr2 h5 hst1 hb5 ho5 x0 x1 x2 x3
      go_wp2_with fail
      refine HR2.out.mono ?_
      rintro e w6 ⟨hb6, v6, rfl, ho6⟩
      have h6 := H5.out.keep hb6
      obtain ⟨A6, c6, rfl⟩ := is_slice ho6
      have hs1 := src_string (HST1.out.below hb6)
      have hs2 := src_string (SliceSrc.of_owns ho6 (bytes_one bt))
      have hcell := (cells_of (h6.pull 2 _ rfl).heap i).trans (boolA8_get B hlt)
      have hglt := (h6.pull 2 _ rfl).lt
      have H6 := Lib.hid h6
      clear h6 hb6 ho6 z0 z1 z2 z3
      cases hbi : B i with
      | true =>
        rw [hbi] at hcell
        clear hs1 hs2
        go_wp2_with fail
        go_roundw
        case rel => exact ⟨i + 1, I4, by go_num, by omega, HS4.out, H6.out⟩
        case measure => simp [intOf]; omega
      | false =>
        rw [hbi] at hcell
        obtain ⟨rfl, rfl⟩ := HEQ.out hbi
        have hee : (et != et) = false := by simp
        have hss : (strOfNums bt != strOfNums bt) = false := by
          show (!(strOfNums bt == strOfNums bt)) = false
          rw [(MapKept.bytes_beq _ _).2 rfl]
          rfl
        go_wp2_with fail
        go_roundw
        case rel => exact ⟨i + 1, I4, by go_num, by omega, HS4.out, H6.out⟩
        case measure => simp [intOf]; omega
    · obtain rfl : i = 8 := by omega
      have H9 := Lib.hid (St.perm (m := storeHP p2 T :: HP.pt g (.cells (boolA8 B) 4) :: storeHP p S :: []) hst (by ((try simp only [List.eraseIdx_cons_succ, List.eraseIdx_cons_zero, List.cons_append, List.nil_append]); repeat (first | with_reducible exact List.Perm.refl _ | (apply perm_step; (· repeat (first | with_reducible exact find_here | with_reducible apply find_there))))))).drop.drop
      have HI9 := Lib.hid hI1
      clear hst hI1
      go_wp2_with fail
      exact HQ.out _ _ _ _ _ _ _ _ _ _ _ _ _ _ _ _ _ _ _ _ _ _ _ _ _ _ _ _ _ _ _ _ _ _ _ _ _ _ _ _ _ _ _ _ _ _ _ _ _ _ _ _ _ _ _ _ _ _ _ _ _ _ _ _ _ _ _ _ _ _ _ _ _ _ _ _ _ _ _ _ _ _ _ _ _ _ _ _ _ _ _ _ _ _ _ _ _ _ _ _ _ _ _ _ _ _ _ _ _ _ _ _ _ _ _ _ _ _ _ _ _ _ _ _ _ _ _ _ _ _ _ _ _ _ _ _ _ _ _ _ I1 _ HI9.out H9.out
end
-- walk
section
variable {W w : World} {I : Hp} {p p2 g : Nat} {S S0 : Str}
set_option maxRecDepth 4000
set_option maxHeartbeats 8000000
/-- From region 23 on. -/
theorem dry_end {a b c : Code} {Q : Exit → Act → World → Prop} {K K2 : Act → World → Prop} (hK : ∀ x y, b.wp Try.prog (Exit.then K2 Q) x y → K x y) (hK2 : ∀ x y, c.wp Try.prog Q x y → K2 x y) (hC : (Try.f8).body.bind (fromS 23) = some (.seq (.seq a b) c)) {x0 x1 x4 x5 x6 x7 x8 x10 x11 x14 x15 x16 x17 x18 x19 x20 x21 x22 x23 x24 x25 x26 x27 x28 x29 x30 x31 x32 x33 x34 x35 x36 x37 x38 x39 x40 x41 x42 x43 x44 x45 x46 x47 x48 x49 x50 x51 x52 x53 x54 x55 x56 x57 x58 x59 x60 x61 x62 x63 x64 x65 x66 x67 x68 x69 x70 x71 x72 x73 x74 x75 x76 x77 x78 x79 x80 x81 x82 x83 x84 x85 x86 x87 x88 x89 x90 x91 x92 x93 x94 x95 x96 x97 x98 x99 x100 x101 x102 x103 x104 x105 x106 x107 x108 x109 x110 x111 x112 x113 x114 x115 x116 x117 x118 x119 x120 x121 x122 x123 x124 x125 x126 x127 x128 x129 x130 x131 x132 x133 x134 x135 x136 x137 x138 x139 x140 x141 x142 : Value} {m m2 : Nat} {B : Nat → Bool} (torn : Int) (kv : Value) (keep : List Int)
    (h : St W I w (storeHP p S :: storeHP p2 S0 :: HP.pt g (.cells (boolA8 B) 4) :: [])) (hs : Keeps S m) (ht : Keeps S0 m2) (hkv : IntsI I kv keep) (hkn : keep.length ≤ 1000000) (hsi : Since S0 S B) (hq0 : Quiet S0)
    (hQ : ∀ (y0 y1 y2 y3 y4 y5 y6 y7 y9 y10 y11 y12 y13 y14 y15 y16 y17 y18 y19 y20 y21 y22 y23 y24 y25 y26 y27 y28 y29 y30 y31 y32 y33 y34 y35 y36 y37 y38 y39 y40 y41 y42 y43 y44 y45 y46 y47 y48 y49 y50 y51 y52 y53 y54 y55 y56 y57 y58 y59 y60 y61 y62 y63 y64 y65 y66 y67 y68 y69 y70 y71 y72 y73 y74 y75 y76 y77 y78 y79 y80 y81 y82 y83 y84 y85 y86 y87 y88 y89 y90 y91 y92 y93 y94 y95 y96 y97 y98 y99 y100 y101 y102 y103 y104 y105 y106 y107 y108 y109 y110 y111 y112 y113 y114 y115 y116 y117 y118 y119 y120 y121 y122 y123 y124 y125 y126 y127 y128 y129 y130 y131 y132 y133 y134 y135 y136 y137 y138 y139 y140 y141 y142 : Value) (w' : World), Below W.heap.size W w' → Q .ret ⟨#[y0, y1, y2, y3, y4, y5, y6, y7, .bool true, y9, y10, y11, y12, y13, y14, y15, y16, y17, y18, y19, y20, y21, y22, y23, y24, y25, y26, y27, y28, y29, y30, y31, y32, y33, y34, y35, y36, y37, y38, y39, y40, y41, y42, y43, y44, y45, y46, y47, y48, y49, y50, y51, y52, y53, y54, y55, y56, y57, y58, y59, y60, y61, y62, y63, y64, y65, y66, y67, y68, y69, y70, y71, y72, y73, y74, y75, y76, y77, y78, y79, y80, y81, y82, y83, y84, y85, y86, y87, y88, y89, y90, y91, y92, y93, y94, y95, y96, y97, y98, y99, y100, y101, y102, y103, y104, y105, y106, y107, y108, y109, y110, y111, y112, y113, y114, y115, y116, y117, y118, y119, y120, y121, y122, y123, y124, y125, y126, y127, y128, y129, y130, y131, y132, y133, y134, y135, y136, y137, y138, y139, y140, y141, y142], []⟩ w') :
    a.wp Try.prog (Exit.then K (Exit.then K2 Q)) ⟨#[x0, x1, kv, .int .i64 torn, x4, x5, x6, x7, x8, .pointer (some ⟨p, 0, none⟩), x10, x11, .pointer (some ⟨p2, 0, none⟩), .slice (some ⟨g, 0, none⟩) 8 8, x14, x15, x16, x17, x18, x19, x20, x21, x22, x23, x24, x25, x26, x27, x28, x29, x30, x31, x32, x33, x34, x35, x36, x37, x38, x39, x40, x41, x42, x43, x44, x45, x46, x47, x48, x49, x50, x51, x52, x53, x54, x55, x56, x57, x58, x59, x60, x61, x62, x63, x64, x65, x66, x67, x68, x69, x70, x71, x72, x73, x74, x75, x76, x77, x78, x79, x80, x81, x82, x83, x84, x85, x86, x87, x88, x89, x90, x91, x92, x93, x94, x95, x96, x97, x98, x99, x100, x101, x102, x103, x104, x105, x106, x107, x108, x109, x110, x111, x112, x113, x114, x115, x116, x117, x118, x119, x120, x121, x122, x123, x124, x125, x126, x127, x128, x129, x130, x131, x132, x133, x134, x135, x136, x137, x138, x139, x140, x141, x142], []⟩ w := by
  injection hC with hC
  injection hC with hC hC3
  injection hC with hC1 hC2
  subst hC1 hC2 hC3
  have hn : (S.late.map (·.1)).Nodup := by
    obtain ⟨B1, h1⟩ := h.store_open
    exact (h1.pull 3 _ rfl).mapOf_nodup
  obtain ⟨f1, f2, f3⟩ := hsi.fall hq0 hn keep torn
  have hks := powerS_keeps (fallS_keeps keep torn hs)
  have hfs := fall_spec kv keep torn h hkv hkn (fun _ => hs.inv.fewer (by omega))
  obtain ⟨Ak, ck, rfl, _⟩ := hkv
  have HQ := Lib.hid hQ
  have HFS := Lib.hid hfs
  have HF3 := Lib.hid f3
  have HF1 := Lib.hid f1
  have HF2 := Lib.hid f2
  have HKS := Lib.hid hks
  have HT := Lib.hid ht
  clear hQ h hs ht hsi hq0 hn f1 f2 f3 hks hfs
  go_wp2_with fail
  refine HFS.out.mono ?_
  rintro e w3 ⟨I3, hs3, rfl, h3⟩
  have H3 := Lib.hid h3
  clear h3 HFS
  go_wp2_with fail
  refine (power_spec H3.out).mono ?_
  rintro e w4 ⟨rfl, h4⟩
  have h4x : St W I3 w4 (storeHP p (powerS (fallS S keep torn).1) :: storeHP p2 S0 :: HP.pt g (.cells (boolA8 B) 4) :: []) := h4
  obtain ⟨S4, hS4⟩ : ∃ x, powerS (fallS S keep torn).1 = x := ⟨_, rfl⟩
  have hf3 := HF3.out
  have hf1 := HF1.out
  have hf2 := HF2.out
  have hks := HKS.out
  rw [hS4] at h4x hf3 hf1 hf2 hks
  have H4 := Lib.hid h4x
  have HG3 := Lib.hid hf3
  have HG1 := Lib.hid hf1
  have HG2 := Lib.hid hf2
  have HGK := Lib.hid hks
  clear h4 h4x hf3 hf1 hf2 hks hS4 HF3 HF1 HF2 HKS H3
  go_upto_region 27 with fail
  refine dry_reads (by assumption) (by kernel_rfl) H4.out HGK.out.inv HT.out.inv HG3.out ?_
  intro y0 y1 y2 y3 y4 y5 y6 y7 y8 y10 y11 y14 y15 y16 y17 y18 y19 y20 y21 y22 y23 y24 y25 y26 y27 y28 y29 y30 y31 y32 y33 y34 y35 y36 y37 y38 y39 y40 y41 y42 y43 y44 y45 y46 y47 y48 y49 y50 y51 y52 y53 y54 y55 y56 y57 y58 y59 y60 y61 y62 y63 y64 y65 y66 y67 y68 y69 y70 y71 y72 y73 y74 y75 y76 y77 y78 y79 y80 y81 y82 y83 y84 y85 y86 y87 y88 y89 y90 y91 y92 y93 y94 y95 y96 y97 y98 y99 y100 y101 y102 y103 y104 y105 y106 y107 y108 y109 y110 y111 y112 y113 y114 y115 y116 y117 y118 y119 y120 y121 y122 y123 y124 y125 y126 y127 y128 y129 y130 y131 y132 y133 y134 y135 y136 y137 y138 y139 y140 y141 y142 I9 w9 hs9 h9
  have hwt := wet_spec h9
  have hon := on_spec h9
  rw [HG2.out] at hwt
  rw [HG1.out] at hon
  have HWT := Lib.hid hwt
  have HON := Lib.hid hon
  have H9 := Lib.hid h9
  clear hwt hon h9
  go_wp2_with fail
  refine HWT.out.mono ?_
  rintro e w2 ⟨rfl, rfl⟩
  go_wp2_with fail
  refine HON.out.mono ?_
  rintro e w2 ⟨rfl, rfl⟩
  go_wp2_with fail
  refine (known3_spec w9).mono ?_
  rintro e w10 ⟨rfl, hb9⟩
  have HB := Lib.hid (H9.out.below.trans (hb9.mono H9.out.below.size))
  clear hb9
  go_wp2_with fail
  exact HQ.out _ _ _ _ _ _ _ _ _ _ _ _ _ _ _ _ _ _ _ _ _ _ _ _ _ _ _ _ _ _ _ _ _ _ _ _ _ _ _ _ _ _ _ _ _ _ _ _ _ _ _ _ _ _ _ _ _ _ _ _ _ _ _ _ _ _ _ _ _ _ _ _ _ _ _ _ _ _ _ _ _ _ _ _ _ _ _ _ _ _ _ _ _ _ _ _ _ _ _ _ _ _ _ _ _ _ _ _ _ _ _ _ _ _ _ _ _ _ _ _ _ _ _ _ _ _ _ _ _ _ _ _ _ _ _ _ _ _ _ _ _ _ _ HB.out
end
set_option maxRecDepth 4000
set_option maxHeartbeats 8000000
theorem dry_walk (v0 v1 kv : Value) (ls ms : List A3) (torn : Int) (keep : List Int) (W : World) (h1 : RowI W.hp 12 v0 ls.length (ls.flatMap A3.vals)) (hok : ∀ a ∈ ls, a.ok W.hp) (hn : ls.length ≤ maxLen)
    (h2 : RowI W.hp 12 v1 ms.length (ms.flatMap A3.vals)) (hok2 : ∀ a ∈ ms, a.ok W.hp) (hm : ms.length ≤ maxLen) (hkv : IntsI W.hp kv keep) (hkl : keep.length ≤ maxLen) :
    Calls Try.prog 8 #[v0, v1, kv, .int .i64 torn] W fun e w' => e = .returned (.bool true) ∧ Below W.heap.size W w' := by
  have hfs := few_spec v0 ls W h1 hok hn
  have hft := few_spec v1 ms W h2 hok2 hm
  have H1 := Lib.hid h1
  have H2 := Lib.hid h2
  have HOK := Lib.hid hok
  have HOK2 := Lib.hid hok2
  have HKV := Lib.hid hkv
  obtain ⟨Ax, cx, rfl, _⟩ := h1
  obtain ⟨Ay, cy, rfl, _⟩ := h2
  obtain ⟨Az, cz, rfl, _⟩ := hkv
  unfold maxLen at hn hm hkl
  have hn1 : (ls.length : Int) ≤ 9223372036854775807 := by omega
  have hm1 : (ms.length : Int) ≤ 9223372036854775807 := by omega
  have hkl1 : (keep.length : Int) ≤ 9223372036854775807 := by omega
  clear hok hok2
  by_cases hbad : fewA ls = false ∨ fewA ms = false ∨ 20 < keep.length
  · have hend : Calls Try.prog 13 #[] W fun e w' => e = .returned (.bool true) ∧ Below W.heap.size W w' := known3_spec W
    have HEND := Lib.hid hend
    clear hend
    cases hfw : fewA ls with
    | false =>
      rw [hfw] at hfs
      have HFS := Lib.hid hfs
      clear hfs hft hbad
      go_enter Try.func8, Try.ntmps8
      go_wp2_with fail
      refine HFS.out.mono ?_
      rintro e w1 ⟨rfl, rfl⟩
      go_wp2_with fail
      refine HEND.out.mono ?_
      rintro e w1 ⟨rfl, hb⟩
      have HB := Lib.hid hb
      clear hb
      go_wp2_with fail
      go_ret
      exact ⟨rfl, HB.out⟩
    | true =>
      rw [hfw] at hfs hbad
      have HFS := Lib.hid hfs
      cases hfm : fewA ms with
      | false =>
        rw [hfm] at hft
        have HFT := Lib.hid hft
        clear hfs hft hbad
        go_enter Try.func8, Try.ntmps8
        go_wp2_with fail
        refine HFS.out.mono ?_
        rintro e w1 ⟨rfl, rfl⟩
        go_wp2_with fail
        refine HFT.out.mono ?_
        rintro e w1 ⟨rfl, rfl⟩
        go_wp2_with fail
        refine HEND.out.mono ?_
        rintro e w1 ⟨rfl, hb⟩
        have HB := Lib.hid hb
        clear hb
        go_wp2_with fail
        go_ret
        exact ⟨rfl, HB.out⟩
      | true =>
        rw [hfm] at hft hbad
        have HFT := Lib.hid hft
        have h20 : 20 < keep.length := by simpa using hbad
        have dk : decide (20 < (keep.length : Int)) = true := by rw [decide_eq_true_eq]; omega
        clear hfs hft hbad h20
        go_enter Try.func8, Try.ntmps8
        go_wp2_with fail
        refine HFS.out.mono ?_
        rintro e w1 ⟨rfl, rfl⟩
        go_wp2_with fail
        refine HFT.out.mono ?_
        rintro e w1 ⟨rfl, rfl⟩
        go_wp2_with fail
        refine HEND.out.mono ?_
        rintro e w1 ⟨rfl, hb⟩
        have HB := Lib.hid hb
        clear hb
        go_wp2_with fail
        go_ret
        exact ⟨rfl, HB.out⟩
  · have hfw : fewA ls = true := by
      cases h : fewA ls with
      | false => exact absurd (.inl h) hbad
      | true => rfl
    have hfm : fewA ms = true := by
      cases h : fewA ms with
      | false => exact absurd (.inr (.inl h)) hbad
      | true => rfl
    have hk20 : keep.length ≤ 20 := Nat.le_of_not_lt fun h => hbad (.inr (.inr h))
    have dk : decide (20 < (keep.length : Int)) = false := by rw [decide_eq_false_iff_not]; omega
    rw [hfw] at hfs
    rw [hfm] at hft
    have HFS := Lib.hid hfs
    have HFT := Lib.hid hft
    obtain ⟨hl60, hp60⟩ := few_one hfw
    obtain ⟨hm60, hp60m⟩ := few_one hfm
    have HP60 := Lib.hid hp60
    have HP60M := Lib.hid hp60m
    have hmk := make_bools8
    clear hfs hft hp60 hp60m hfw hfm hbad
    go_enter Try.func8, Try.ntmps8
    go_wp2_with fail
    refine HFS.out.mono ?_
    rintro e w1 ⟨rfl, rfl⟩
    go_wp2_with fail
    refine HFT.out.mono ?_
    rintro e w1 ⟨rfl, rfl⟩
    go_wp2_with fail
    refine (new_spec 65536 (St.init W)).mono ?_
    rintro e w2 ⟨p, rfl, h2⟩
    have HN2 := Lib.hid h2
    clear h2
    go_wp2_with fail
    refine (new3_spec 65536 HN2.out).mono ?_
    rintro e w4 ⟨q, rfl, h4⟩
    have H4 := Lib.hid (h4.pull 1 _ rfl)
    clear h4
    go_wp2_with fail
    go_loopw [11] (fun a11 wr => ∃ (i : Nat) (S : Str) (R : RS) (I1 : Hp), a11 = .int .i64 i ∧ i ≤ ls.length ∧ Quiet S ∧ Keeps S (1000 - 4 * i) ∧ RInv R i ∧ R.fused = false ∧ W.hp.sub I1 ∧ St W I1 wr (storeHP p S :: refHP q R :: [])) (fun a11 _ => ls.length - (intOf a11).toNat)
    case atStart => exact ⟨0, newS 65536, rnew 65536, W.hp, rfl, Nat.zero_le _, Quiet.new _, (keeps_new 65536).fewer (by omega), rinv_new 65536, rfl, Hp.sub.refl _, H4.out⟩
    case round =>
      obtain ⟨i, S, R, I1, rfl, hi, hqu, hkp, hri, hrf, hI1, hst⟩ := hrel
      by_cases hlt : i < ls.length
      ·
        obtain ⟨a, ha⟩ : ∃ a, ls[i]? = some a := ⟨_, List.getElem?_eq_getElem hlt⟩
        obtain ⟨b, off, e1, hc⟩ := rowk_cell (i := i) H1.out hI1 hst (fun _ => rfl) ha
        simp only [Value.slice.injEq, and_true] at e1
        subst e1
        have hoka := A3.ok_since (HOK.out a (List.mem_of_getElem? ha)) hI1
        have hpl := HP60.out a (List.mem_of_getElem? ha)
        have y0 := hc 0 (by omega)
        have y1 := hc 1 (by omega)
        have y2 := hc 2 (by omega)
        have y3 := hc 3 (by omega)
        have y4 := hc 4 (by omega)
        have y5 := hc 5 (by omega)
        have y6 := hc 6 (by omega)
        have y7 := hc 7 (by omega)
        have y8 := hc 8 (by omega)
        have y9 := hc 9 (by omega)
        have y10 := hc 10 (by omega)
        have y11 := hc 11 (by omega)
        have hou := ours_spec a wr hoka.2.2.2.2.2.1 (by obtain ⟨A, c, e, _⟩ := hoka.1; exact ⟨A, c, e⟩) (by obtain ⟨A, c, e, _⟩ := hoka.2.2.2.1; exact ⟨A, c, e⟩)
        have how := ours_what a
        have hook : a.ours.ok I1 := by
          obtain ⟨g1, g2, g3, g4, g5, g6, g7⟩ := hoka
          refine ⟨g1, g2, g3, g4, g5, ?_, g7⟩
          unfold isInt
          omega
        have hopl : a.ours.p.length ≤ 60 := hpl
        obtain ⟨b0, b1, b2, b3, b4, ⟨j0, j1, j2, j3⟩, ap, av, an, ak, akv⟩ := a
        obtain ⟨Ap, cp, e1, _⟩ := hoka.1
        obtain ⟨Ak, ck, e2, _⟩ := hoka.2.2.2.1
        simp only at e1 e2
        subst e1 e2
        simp only [A3.vals, List.getElem?_cons_succ, List.getElem?_cons_zero, Nat.add_zero] at y0 y1 y2 y3 y4 y5 y6 y7 y8 y9 y10 y11
        obtain ⟨x, hx⟩ : ∃ x, b0 % 18446744073709551616 % 7 = x := ⟨_, rfl⟩
        simp only [A3.val, A3.ours] at hou how hook hopl
        rw [hx] at hou how hook
        obtain ⟨a', ha'⟩ : ∃ a', a' = (⟨x, b1, b2, b3, false, ⟨j0, j1, j2, j3⟩, ap, .slice Ap ap.length cp, an, ak, .slice Ak ak.length ck⟩ : A3) := ⟨_, rfl⟩
        have HOU := Lib.hid hou
        have HOOK := Lib.hid hook
        have HOW := Lib.hid how
        have HST := Lib.hid hst
        have HKP := Lib.hid hkp
        have HRI := Lib.hid hri
        have HRF := Lib.hid hrf
        have HI1 := Lib.hid hI1
        have HQU := Lib.hid hqu
        clear hc ha hoka hou hook how hst hkp hri hrf hI1 hqu hx
        go_wp2_with fail
        refine HOU.out.mono ?_
        rintro e w3 ⟨rfl, hb3⟩
        have h3 := HST.out.keep hb3
        have hde := deed_calm (p := p) a' (by rw [ha']; exact HOW.out) h3 HKP.out HRI.out (by omega) (by rw [ha']; exact HOOK.out) (by rw [ha']; exact hopl) HRF.out
        rw [ha'] at hde
        simp only [A3.val] at hde
        rw [← ha'] at hde
        have HDE := Lib.hid hde
        clear hde h3 hb3 HOU y0 y1 y2 y3 y4 y5 y6 y7 y8 y9 y10 y11
        go_wp2_with fail
        refine HDE.out.mono ?_
        rintro e w5 ⟨I5, hs5, rfl, h5⟩
        have H5 := Lib.hid h5
        have HS5 := Lib.hid (HI1.out.trans hs5)
        clear h5 hs5 HDE
        go_wp2_with fail
        go_roundw
        case rel => exact ⟨i + 1, (actS S a').2, (actR R a').2, I5, by go_num, by omega, HQU.out.act a', actS_keeps (HKP.out.fewer (by omega)), actR_inv HRI.out (by rw [ha']; exact hopl) (by omega), (actR_calm HRF.out).1, HS5.out, H5.out⟩
        case measure => simp [intOf]; omega
      · obtain rfl : i = ls.length := by omega
        obtain ⟨hq1, hq2, hq3⟩ := hqu.dry
        have hba := barrier_spec hst hkp
        rw [hq1] at hba
        have hkb := barrierS_keeps hkp
        obtain ⟨S0, hS0⟩ : ∃ x, (barrierS S).2 = x := ⟨_, rfl⟩
        rw [hS0] at hba hkb hq2 hq3
        have HBA := Lib.hid hba
        have HKB := Lib.hid (hkb.fewer (show 700 ≤ 1000 - 4 * ls.length by omega))
        have HQ2 := Lib.hid (Since.start hq2 hq3)
        have HQ3 := Lib.hid hq3
        have HWET := Lib.hid hq2.wet
        have HRI := Lib.hid hri
        have HRF := Lib.hid hrf
        have HI1 := Lib.hid hI1
        clear hst hkp hri hrf hI1 hqu hq1 hq2 hq3 hba hkb hS0
        go_wp2_with fail
        refine HBA.out.mono ?_
        rintro e w5 ⟨I5, hs5, rfl, h5⟩
        have hwt := wet_spec h5
        rw [HWET.out] at hwt
        have HWT := Lib.hid hwt
        have H5 := Lib.hid h5
        have HS5 := Lib.hid (HI1.out.trans hs5)
        clear hwt h5 hs5
        go_wp2_with fail
        refine HWT.out.mono ?_
        rintro e w6 ⟨rfl, rfl⟩
        go_wp2_with fail
        refine (twin_spec H5.out HKB.out).mono ?_
        rintro e w6 ⟨p2, I6, hs6, rfl, h6⟩
        have h7 := (h6.alloc (.cells (boolA8 fun _ => false) 4)).perm (m := storeHP p S0 :: storeHP p2 S0 :: refHP q R :: HP.pt w6.heap.size (.cells (boolA8 fun _ => false) 4) :: []) (by ((try simp only [List.eraseIdx_cons_succ, List.eraseIdx_cons_zero, List.cons_append, List.nil_append]); repeat (first | with_reducible exact List.Perm.refl _ | (apply perm_step; (· repeat (first | with_reducible exact find_here | with_reducible apply find_there))))))
        have HS6 := Lib.hid (HS5.out.trans hs6)
        clear h6 hs6 H5 HBA HWT
        go_upto_region 15 with fail
        obtain ⟨g, hgd⟩ : ∃ x, x = w6.heap.size := ⟨_, rfl⟩
        obtain ⟨w7, hw7⟩ : ∃ x, x = w6.alloc (.cells (boolA8 fun _ => false) 4) := ⟨_, rfl⟩
        rw [← hgd, ← hw7] at h7 ⊢
        have H7 := Lib.hid h7
        clear h7 hgd hw7 hmk
        go_wp2_with fail
        go_loopw [14] (fun a14 wr => ∃ (i : Nat) (S : Str) (R : RS) (B : Nat → Bool) (I1 : Hp), a14 = .int .i64 i ∧ i ≤ ms.length ∧ Since S0 S B ∧ Keeps S (700 - 4 * i) ∧ RInv R (ls.length + i) ∧ R.fused = false ∧ W.hp.sub I1 ∧ St W I1 wr (storeHP p S :: storeHP p2 S0 :: refHP q R :: HP.pt g (.cells (boolA8 B) 4) :: [])) (fun a14 _ => ms.length - (intOf a14).toNat)
        case atStart => exact ⟨0, S0, R, fun _ => false, I6, rfl, Nat.zero_le _, HQ2.out, HKB.out, HRI.out, HRF.out, HS6.out, H7.out⟩
        case round =>
          obtain ⟨i, S, R, B, I1, rfl, hi, hsi, hkp, hri, hrf, hI1, hst⟩ := hrel
          by_cases hlt : i < ms.length
          ·
            obtain ⟨a, ha⟩ : ∃ a, ms[i]? = some a := ⟨_, List.getElem?_eq_getElem hlt⟩
            obtain ⟨b, off, e1, hc⟩ := rowk_cell (i := i) H2.out hI1 hst (fun _ => rfl) ha
            simp only [Value.slice.injEq, and_true] at e1
            subst e1
            have hoka := A3.ok_since (HOK2.out a (List.mem_of_getElem? ha)) hI1
            have hpl := HP60M.out a (List.mem_of_getElem? ha)
            have y0 := hc 0 (by omega)
            have y1 := hc 1 (by omega)
            have y2 := hc 2 (by omega)
            have y3 := hc 3 (by omega)
            have y4 := hc 4 (by omega)
            have y5 := hc 5 (by omega)
            have y6 := hc 6 (by omega)
            have y7 := hc 7 (by omega)
            have y8 := hc 8 (by omega)
            have y9 := hc 9 (by omega)
            have y10 := hc 10 (by omega)
            have y11 := hc 11 (by omega)
            have hou := ours_spec a wr hoka.2.2.2.2.2.1 (by obtain ⟨A, c, e, _⟩ := hoka.1; exact ⟨A, c, e⟩) (by obtain ⟨A, c, e, _⟩ := hoka.2.2.2.1; exact ⟨A, c, e⟩)
            have how := ours_what a
            have hook : a.ours.ok I1 := by
              obtain ⟨g1, g2, g3, g4, g5, g6, g7⟩ := hoka
              refine ⟨g1, g2, g3, g4, g5, ?_, g7⟩
              unfold isInt
              omega
            have hopl : a.ours.p.length ≤ 60 := hpl
            obtain ⟨b0, b1, b2, b3, b4, ⟨j0, j1, j2, j3⟩, ap, av, an, ak, akv⟩ := a
            obtain ⟨Ap, cp, e1, _⟩ := hoka.1
            obtain ⟨Ak, ck, e2, _⟩ := hoka.2.2.2.1
            simp only at e1 e2
            subst e1 e2
            simp only [A3.vals, List.getElem?_cons_succ, List.getElem?_cons_zero, Nat.add_zero] at y0 y1 y2 y3 y4 y5 y6 y7 y8 y9 y10 y11
            obtain ⟨x, hx⟩ : ∃ x, b0 % 18446744073709551616 % 7 = x := ⟨_, rfl⟩
            simp only [A3.val, A3.ours] at hou how hook hopl
            rw [hx] at hou how hook
            obtain ⟨u, hbu⟩ : ∃ u : Nat, b1 % 8 = u := ⟨(b1 % 8).toNat, by omega⟩
            have hu8 : u < 8 := by omega
            have hand : bits .and .i64 b1 7 = u := (i64_and7 b1).trans hbu
            have hul : (u : Int) < 8 := by omega
            clear hx
            by_cases hx6 : x = 6
            · subst hx6
              have HOU := Lib.hid hou
              have HOOK := Lib.hid hook
              have HOW := Lib.hid how
              have HST := Lib.hid hst
              have HKP := Lib.hid hkp
              have HRI := Lib.hid hri
              have HRF := Lib.hid hrf
              have HI1 := Lib.hid hI1
              have HSI := Lib.hid hsi
              clear hc ha hoka hou hook how hst hkp hri hrf hI1 hsi
              go_wp2_with fail
              refine HOU.out.mono ?_
              rintro e w3 ⟨rfl, hb3⟩
              have h3 := HST.out.keep hb3
              have hgc := (cells_of (h3.pull 3 _ rfl).heap u).trans (boolA8_get B hu8)
              have hgl := (h3.pull 3 _ rfl).lt
              have hgf := frozen_of_row (h3.pull 3 _ rfl).heap u
              have h4 := ((h3.pull 3 _ rfl).setCell u (.bool true)).alloc (.cells #[.int .i64 1, .int .i64 b1, .int .i64 b2, .int .i64 b3, .bool false, .int .i64 j0, .int .i64 j1, .int .i64 j2, .int .i64 j3, .slice Ap ap.length cp, .string an, .slice Ak ak.length ck] 50)
              simp only [World.size_setCell] at h4
              rw [boolA8_set B hu8] at h4
              obtain ⟨I4, hs4, hI4, h4⟩ := h4.freeze
              have HH4 := Lib.hid h4
              have HI4 := Lib.hid hI4
              have HS4 := Lib.hid hs4
              clear h3 h4 hI4 hs4 hb3 HOU y0 y1 y2 y3 y4 y5 y6 y7 y8 y9 y10 y11
              go_upto_region 22 with fail
              obtain ⟨w4, hw4⟩ : ∃ z, z = (w3.setCell ⟨g, u, none⟩ (.bool true)).alloc (.cells #[.int .i64 1, .int .i64 b1, .int .i64 b2, .int .i64 b3, .bool false, .int .i64 j0, .int .i64 j1, .int .i64 j2, .int .i64 j3, .slice Ap ap.length cp, .string an, .slice Ak ak.length ck] 50) := ⟨_, rfl⟩
              have h4 := HH4.out
              rw [← hw4] at h4 ⊢
              obtain ⟨g9, hg9⟩ : ∃ z, z = w3.heap.size := ⟨_, rfl⟩
              have hI4 := HI4.out
              rw [← hg9] at hI4 ⊢
              obtain ⟨z0, z1, z2, z3, z4, z5, z6, z7, z8, z9, z10, z11⟩ := imm_cells12d h4 hI4
              obtain ⟨a', ha'⟩ : ∃ a', a' = (⟨1, b1, b2, b3, false, ⟨j0, j1, j2, j3⟩, ap, .slice Ap ap.length cp, an, ak, .slice Ak ak.length ck⟩ : A3) := ⟨_, rfl⟩
              have hok' : a'.ok I4 := by
                have := A3.ok_since HOOK.out HS4.out
                rw [ha']
                obtain ⟨g1, g2, g3, g4, g5, g6, g7⟩ := this
                exact ⟨g1, g2, g3, g4, g5, by unfold isInt; have := HOW.out; simp only at this ⊢; omega, g7⟩
              have hwh : 0 ≤ a'.what ∧ a'.what < 7 ∧ a'.what ≠ 6 := by
                rw [ha']
                have := HOW.out
                simp only at this ⊢
                omega
              have hkey : a'.key = keyW u := by
                rw [ha']
                show keyW (b1 % 8) = keyW u
                rw [hbu]
              have hde := deed_calm (p := p) (c := ls.length + i) a' ⟨hwh.1, hwh.2.1⟩ (St.perm (m := storeHP p S :: refHP q R :: HP.pt g (.cells (boolA8 (updT B u)) 4) :: storeHP p2 S0 :: []) h4 (by ((try simp only [List.eraseIdx_cons_succ, List.eraseIdx_cons_zero, List.cons_append, List.nil_append]); repeat (first | with_reducible exact List.Perm.refl _ | (apply perm_step; (· repeat (first | with_reducible exact find_here | with_reducible apply find_there))))))) HKP.out HRI.out (by omega) hok' (by rw [ha']; exact hopl) HRF.out
              have hdid := did_act HSI.out.quiet.calm a' hwh.2.2
              rw [hkey] at hdid
              rw [ha'] at hde
              simp only [A3.val] at hde
              rw [← ha'] at hde
              have HDE := Lib.hid hde
              have HSI2 := Lib.hid (HSI.out.touch u hu8 hdid)
              have HPL := Lib.hid (show a'.p.length ≤ 60 by rw [ha']; exact hopl)
              clear hde h4 hw4 hg9 hI4 hgc hgl hgf hok' hwh hkey hdid HH4 HI4 ha'
              go_wp2_with fail
              refine HDE.out.mono ?_
              rintro e w5 ⟨I5, hs5, rfl, h5⟩
              have H5x := Lib.hid h5
              have HS5x := Lib.hid ((HI1.out.trans HS4.out).trans hs5)
              clear h5 hs5 HDE z0 z1 z2 z3 z4 z5 z6 z7 z8 z9 z10 z11
              go_wp2_with fail
              go_roundw
              case rel => exact ⟨i + 1, (actS S a').2, (actR R a').2, updT B u, I5, by go_num, by omega, HSI2.out, actS_keeps (HKP.out.fewer (by omega)), actR_inv (c := ls.length + i) HRI.out HPL.out (by omega), (actR_calm HRF.out).1, HS5x.out, H5x.out.perm (by ((try simp only [List.eraseIdx_cons_succ, List.eraseIdx_cons_zero, List.cons_append, List.nil_append]); repeat (first | with_reducible exact List.Perm.refl _ | (apply perm_step; (· repeat (first | with_reducible exact find_here | with_reducible apply find_there))))))⟩
              case measure => simp [intOf]; omega
            · have dx : (x == 6) = false := by simpa using hx6
              have HOU := Lib.hid hou
              have HOOK := Lib.hid hook
              have HOW := Lib.hid how
              have HST := Lib.hid hst
              have HKP := Lib.hid hkp
              have HRI := Lib.hid hri
              have HRF := Lib.hid hrf
              have HI1 := Lib.hid hI1
              have HSI := Lib.hid hsi
              clear hc ha hoka hou hook how hst hkp hri hrf hI1 hsi
              go_wp2_with fail
              refine HOU.out.mono ?_
              rintro e w3 ⟨rfl, hb3⟩
              have h3 := HST.out.keep hb3
              have hgc := (cells_of (h3.pull 3 _ rfl).heap u).trans (boolA8_get B hu8)
              have hgl := (h3.pull 3 _ rfl).lt
              have hgf := frozen_of_row (h3.pull 3 _ rfl).heap u
              have h4 := ((h3.pull 3 _ rfl).setCell u (.bool true)).alloc (.cells #[.int .i64 x, .int .i64 b1, .int .i64 b2, .int .i64 b3, .bool false, .int .i64 j0, .int .i64 j1, .int .i64 j2, .int .i64 j3, .slice Ap ap.length cp, .string an, .slice Ak ak.length ck] 50)
              simp only [World.size_setCell] at h4
              rw [boolA8_set B hu8] at h4
              obtain ⟨I4, hs4, hI4, h4⟩ := h4.freeze
              have HH4 := Lib.hid h4
              have HI4 := Lib.hid hI4
              have HS4 := Lib.hid hs4
              clear h3 h4 hI4 hs4 hb3 HOU y0 y1 y2 y3 y4 y5 y6 y7 y8 y9 y10 y11
              go_upto_region 22 with fail
              obtain ⟨w4, hw4⟩ : ∃ z, z = (w3.setCell ⟨g, u, none⟩ (.bool true)).alloc (.cells #[.int .i64 x, .int .i64 b1, .int .i64 b2, .int .i64 b3, .bool false, .int .i64 j0, .int .i64 j1, .int .i64 j2, .int .i64 j3, .slice Ap ap.length cp, .string an, .slice Ak ak.length ck] 50) := ⟨_, rfl⟩
              have h4 := HH4.out
              rw [← hw4] at h4 ⊢
              obtain ⟨g9, hg9⟩ : ∃ z, z = w3.heap.size := ⟨_, rfl⟩
              have hI4 := HI4.out
              rw [← hg9] at hI4 ⊢
              obtain ⟨z0, z1, z2, z3, z4, z5, z6, z7, z8, z9, z10, z11⟩ := imm_cells12d h4 hI4
              obtain ⟨a', ha'⟩ : ∃ a', a' = (⟨x, b1, b2, b3, false, ⟨j0, j1, j2, j3⟩, ap, .slice Ap ap.length cp, an, ak, .slice Ak ak.length ck⟩ : A3) := ⟨_, rfl⟩
              have hok' : a'.ok I4 := by
                have := A3.ok_since HOOK.out HS4.out
                rw [ha']
                obtain ⟨g1, g2, g3, g4, g5, g6, g7⟩ := this
                exact ⟨g1, g2, g3, g4, g5, by unfold isInt; have := HOW.out; simp only at this ⊢; omega, g7⟩
              have hwh : 0 ≤ a'.what ∧ a'.what < 7 ∧ a'.what ≠ 6 := by
                rw [ha']
                have := HOW.out
                simp only at this ⊢
                omega
              have hkey : a'.key = keyW u := by
                rw [ha']
                show keyW (b1 % 8) = keyW u
                rw [hbu]
              have hde := deed_calm (p := p) (c := ls.length + i) a' ⟨hwh.1, hwh.2.1⟩ (St.perm (m := storeHP p S :: refHP q R :: HP.pt g (.cells (boolA8 (updT B u)) 4) :: storeHP p2 S0 :: []) h4 (by ((try simp only [List.eraseIdx_cons_succ, List.eraseIdx_cons_zero, List.cons_append, List.nil_append]); repeat (first | with_reducible exact List.Perm.refl _ | (apply perm_step; (· repeat (first | with_reducible exact find_here | with_reducible apply find_there))))))) HKP.out HRI.out (by omega) hok' (by rw [ha']; exact hopl) HRF.out
              have hdid := did_act HSI.out.quiet.calm a' hwh.2.2
              rw [hkey] at hdid
              rw [ha'] at hde
              simp only [A3.val] at hde
              rw [← ha'] at hde
              have HDE := Lib.hid hde
              have HSI2 := Lib.hid (HSI.out.touch u hu8 hdid)
              have HPL := Lib.hid (show a'.p.length ≤ 60 by rw [ha']; exact hopl)
              clear hde h4 hw4 hg9 hI4 hgc hgl hgf hok' hwh hkey hdid HH4 HI4 ha'
              go_wp2_with fail
              refine HDE.out.mono ?_
              rintro e w5 ⟨I5, hs5, rfl, h5⟩
              have H5x := Lib.hid h5
              have HS5x := Lib.hid ((HI1.out.trans HS4.out).trans hs5)
              clear h5 hs5 HDE z0 z1 z2 z3 z4 z5 z6 z7 z8 z9 z10 z11
              go_wp2_with fail
              go_roundw
              case rel => exact ⟨i + 1, (actS S a').2, (actR R a').2, updT B u, I5, by go_num, by omega, HSI2.out, actS_keeps (HKP.out.fewer (by omega)), actR_inv (c := ls.length + i) HRI.out HPL.out (by omega), (actR_calm HRF.out).1, HS5x.out, H5x.out.perm (by ((try simp only [List.eraseIdx_cons_succ, List.eraseIdx_cons_zero, List.cons_append, List.nil_append]); repeat (first | with_reducible exact List.Perm.refl _ | (apply perm_step; (· repeat (first | with_reducible exact find_here | with_reducible apply find_there))))))⟩
              case measure => simp [intOf]; omega
          · obtain rfl : i = ms.length := by omega
            have HST := Lib.hid (St.perm (m := refHP q R :: storeHP p S :: storeHP p2 S0 :: HP.pt g (.cells (boolA8 B) 4) :: []) hst (by ((try simp only [List.eraseIdx_cons_succ, List.eraseIdx_cons_zero, List.cons_append, List.nil_append]); repeat (first | with_reducible exact List.Perm.refl _ | (apply perm_step; (· repeat (first | with_reducible exact find_here | with_reducible apply find_there))))))).drop
            have HKP := Lib.hid hkp
            have HI1 := Lib.hid hI1
            have HSI := Lib.hid hsi
            clear hst hkp hri hrf hI1 hsi
            go_upto_region 23 with fail
            refine dry_end (by assumption) (by assumption) (by kernel_rfl) torn _ keep HST.out HKP.out HKB.out ((intsIP _ _).mono HI1.out HKV.out) (by omega) HSI.out HQ3.out ?_
            intros
            go_ret
            exact ⟨rfl, by assumption⟩
end Go.Proofs.Ytnokhjhhadnckaa
