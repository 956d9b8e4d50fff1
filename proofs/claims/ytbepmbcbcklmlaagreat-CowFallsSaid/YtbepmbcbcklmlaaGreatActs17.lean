/- hectographlaw17: what an act is; few, mild, may, ours. -/
import Derived.Test.YtbepmbcbcklmlaaGreatCowTidy
set_option linter.unusedSimpArgs false
set_option linter.unusedVariables false
set_option linter.unusedSectionVars false
namespace Go.Proofs.YtbepmbcbcklmlaaGreat
open Go.RowKit
structure A17 where
  what : Int
  num : Int
  newest : Int
  off : Int
  n : Int
  snap : Int
  p : List Int
  pv : Value
  ms : List Int
  mv : Value
def isI (x : Int) : Prop := -9223372036854775808 ≤ x ∧ x ≤ 9223372036854775807
def A17.vals (a : A17) : List Value := [.int .i64 a.what, .int .i64 a.num, .int .i64 a.newest, .int .i64 a.off, .int .i64 a.n, .int .i64 a.snap, a.pv, a.mv]
def A17.val (a : A17) : Value := .agg #[.int .i64 a.what, .int .i64 a.num, .int .i64 a.newest, .int .i64 a.off, .int .i64 a.n, .int .i64 a.snap, a.pv, a.mv]
def A17.ok (I : Hp) (a : A17) : Prop := BytesI I a.pv a.p ∧ IntsI I a.mv a.ms ∧ isI a.what ∧ isI a.num ∧ isI a.newest ∧ isI a.off ∧ isI a.n ∧ isI a.snap
theorem A17.ok_mono {I I' : Hp} {a : A17} (h : a.ok I) (s : I.sub I') : a.ok I' := ⟨(bytesIP _ _).mono s h.1, (intsIP _ _).mono s h.2.1, h.2.2⟩
def A17.few (a : A17) : Bool := decide (¬ (100 < a.p.length ∨ 20 < a.ms.length))
def few17 (l : List A17) (most : Int) : Bool := l.all A17.few && decide ((l.length : Int) ≤ most)
/-- A slice's first cells. -/
def cutV (v : Value) (n : Nat) : Value := match v with
  | .slice A m c => .slice A (min m n) c
  | v => v
def mildOff (a : A17) : Int := a.off % 64 % (65 - ((min a.p.length 64 : Nat) : Int))
def mildN (a : A17) : Int := if a.what = 1 then a.n % 64 % (65 - mildOff a) else if a.what = 2 then a.n % 128 % 65 else a.n
def A17.mild (a : A17) : A17 := ⟨a.what, a.num % 4, a.newest % 16, mildOff a, mildN a, a.snap % 16, a.p.take 64, cutV a.pv 64, a.ms, a.mv⟩
def oursS (S : Str) (img : Int) (a : A17) : Int × Str :=
  if a.what = 0 then cwriteS S img a.num a.newest a.off a.p
  else if a.what = 1 then cclearS S img a.num a.newest a.off a.n
  else if a.what = 2 then ccutS S img a.num a.newest a.n
  else if a.what = 3 then claySn S img a.num a.newest a.p
  else if a.what = 4 then cbackS S img a.num a.newest a.snap
  else if a.what = 5 then tidyS S img a.ms
  else (0, S)
theorem oursS_keeps {S : Str} {img : Int} {a : A17} {m : Nat} (h : Keeps S (m + 16 + 2 * (keysTold S ⟨4, img⟩).length)) : Keeps (oursS S img a).2 m := by
  have h1 : Keeps S (m + 16) := h.fewer (by omega)
  unfold oursS
  repeat' split
  · exact cwriteS_keeps h1
  · exact cclearS_keeps h1
  · exact ccutS_keeps h1
  · exact claySn_keeps h1
  · exact cbackS_keeps h1
  · exact tidyS_keeps (h.fewer (by omega))
  · exact h1.fewer (by omega)
section
variable {W w : World} {I : Hp} {l : List HP} {p : Nat} {S : Str}
set_option maxRecDepth 4000
set_option maxHeartbeats 8000000
theorem act_cells {g : Nat} {t : TypeId} {c0 c1 c2 c3 c4 c5 c6 c7 : Value} (h : St W I w l) (e : I g = some (.cells #[c0, c1, c2, c3, c4, c5, c6, c7] t)) :
    w.cell? ⟨g, 0, none⟩ = some c0 ∧ w.cell? ⟨g, 1, none⟩ = some c1 ∧ w.cell? ⟨g, 2, none⟩ = some c2 ∧ w.cell? ⟨g, 3, none⟩ = some c3 ∧ w.cell? ⟨g, 4, none⟩ = some c4 ∧ w.cell? ⟨g, 5, none⟩ = some c5 ∧ w.cell? ⟨g, 6, none⟩ = some c6 ∧ w.cell? ⟨g, 7, none⟩ = some c7 :=
  ⟨St.imm_cell h e 0, St.imm_cell h e 1, St.imm_cell h e 2, St.imm_cell h e 3, St.imm_cell h e 4, St.imm_cell h e 5, St.imm_cell h e 6, St.imm_cell h e 7⟩
theorem few17_spec (v : Value) (ls : List A17) (most : Int) (w : World) (h : RowI w.hp 8 v ls.length (ls.flatMap A17.vals)) (hok : ∀ a ∈ ls, a.ok w.hp) (hn : ls.length ≤ maxLen) :
    Calls Tryz.prog 5 #[v, .int .i64 most] w fun e w' => e = .returned (.bool (few17 ls most)) ∧ w = w' := by
  have H0 := Lib.hid h
  have HOK := Lib.hid hok
  obtain ⟨A0, c0, rfl, _⟩ := h
  unfold maxLen at hn
  have hn1 : (ls.length : Int) ≤ 9223372036854775807 := by omega
  clear hok
  go_enter Tryz.func5, Tryz.ntmps5
  go_wp2_with fail
  go_loopw [5] (fun a5 wr => ∃ (i : Nat), a5 = .int .i64 i ∧ i ≤ ls.length ∧ (ls.take i).all A17.few = true ∧ wr = w) (fun a5 _ => ls.length - (intOf a5).toNat)
  case atStart => exact ⟨0, rfl, Nat.zero_le _, rfl, rfl⟩
  case round =>
    obtain ⟨i, rfl, hi, hall, rfl⟩ := hrel
    by_cases hlt : i < ls.length
    · obtain ⟨a, ha⟩ : ∃ a, ls[i]? = some a := ⟨_, List.getElem?_eq_getElem hlt⟩
      obtain ⟨b, off, e1, hc⟩ := rowk_cell (i := i) H0.out (Hp.sub.refl _) (St.init wr) (fun _ => rfl) ha
      simp only [Value.slice.injEq, and_true] at e1
      subst e1
      have hoka := HOK.out a (List.mem_of_getElem? ha)
      obtain ⟨Ap, cp, hpv, _⟩ := hoka.1
      obtain ⟨Ak, ck, hkv, _⟩ := hoka.2.1
      have y6 := hc 6 (by omega)
      have y7 := hc 7 (by omega)
      simp only [A17.vals, List.getElem?_cons_succ, List.getElem?_cons_zero] at y6 y7
      rw [hpv] at y6
      rw [hkv] at y7
      have hst : (ls.take (i + 1)).all A17.few = a.few := by
        obtain ⟨hil, he⟩ := List.getElem?_eq_some_iff.1 ha
        rw [List.take_succ_eq_append_getElem hil, List.all_append, hall, he]
        simp
      have hfull : a.few = false → few17 ls most = false := fun hf => by
        unfold few17
        have : ls.all A17.few = false := List.all_eq_false.2 ⟨a, List.mem_of_getElem? ha, by simp [hf]⟩
        rw [this]; rfl
      have HST := Lib.hid hst
      have HFULL := Lib.hid hfull
      clear hc hall ha hoka hst hfull hpv hkv
      by_cases h1 : 100 < a.p.length
      · have d1 : decide (100 < (a.p.length : Int)) = true := by rw [decide_eq_true_eq]; omega
        have HF := Lib.hid (HFULL.out (by simp [A17.few, h1]))
        go_wp2_with fail
        go_ret
        exact ⟨by rw [HF.out]; rfl, rfl⟩
      · have d1 : decide (100 < (a.p.length : Int)) = false := by rw [decide_eq_false_iff_not]; omega
        by_cases h2 : 20 < a.ms.length
        · have d2 : decide (20 < (a.ms.length : Int)) = true := by rw [decide_eq_true_eq]; omega
          have HF := Lib.hid (HFULL.out (by simp [A17.few, h2]))
          go_wp2_with fail
          go_ret
          exact ⟨by rw [HF.out]; rfl, rfl⟩
        · have d2 : decide (20 < (a.ms.length : Int)) = false := by rw [decide_eq_false_iff_not]; omega
          have HF := Lib.hid (show a.few = true by simp [A17.few]; omega)
          go_wp2_with fail
          go_roundw
          case rel => exact ⟨i + 1, by go_num, by omega, by rw [HST.out]; exact HF.out, trivial⟩
          case measure => simp [intOf]; omega
    · obtain rfl : i = ls.length := by omega
      rw [List.take_length] at hall
      have HALL := Lib.hid hall
      clear hall
      go_wp2_with fail
      go_ret
      exact ⟨by unfold few17; rw [HALL.out]; rfl, rfl⟩
theorem i64_and127 (n : Int) : bits .and .i64 n 127 = n % 128 := by
  show IntKind.i64.wrap ((BitVec.ofInt 64 n &&& BitVec.ofInt 64 ((127 : Nat) : Int)).toNat : Nat) = n % 128
  rw [and_mask_key n 127 7 (by decide), IntKind.wrap_i64]; omega
theorem emod_rng (x y : Int) (hy : 0 < y) : 0 ≤ x % y ∧ x % y < y := ⟨Int.emod_nonneg _ (by omega), Int.emod_lt_of_pos _ hy⟩
theorem mildOff_rng (a : A17) : 0 ≤ mildOff a ∧ mildOff a + ((min a.p.length 64 : Nat) : Int) ≤ 64 := by
  unfold mildOff
  have := emod_rng (a.off % 64) (65 - ((min a.p.length 64 : Nat) : Int)) (by omega)
  omega
theorem mildN_rng (a : A17) : (a.what = 1 → 0 ≤ mildN a ∧ mildOff a + mildN a ≤ 64) ∧ (a.what = 2 → 0 ≤ mildN a ∧ mildN a ≤ 64) ∧ (a.what ≠ 1 → a.what ≠ 2 → mildN a = a.n) := by
  have h := mildOff_rng a
  unfold mildN
  refine ⟨fun e => ?_, fun e => ?_, fun e f => ?_⟩
  · rw [if_pos e]
    have := emod_rng (a.n % 64) (65 - mildOff a) (by omega)
    omega
  · rw [if_neg (by omega), if_pos e]
    omega
  · rw [if_neg e, if_neg f]
theorem mild_ok {I : Hp} {a : A17} (h : a.ok I) : a.mild.ok I ∧ a.mild.p.length ≤ 64 := by
  obtain ⟨h1, h2, h3, h4, h5, h6, h7, h8⟩ := h
  refine ⟨⟨?_, h2, h3, ?_, ?_, ?_, ?_, ?_⟩, ?_⟩
  · have h1' := h1
    obtain ⟨A, c, e, _⟩ := h1'
    show BytesI I (cutV a.pv 64) (a.p.take 64)
    rw [e] at h1 ⊢
    have := bytes_take h1 (Nat.min_le_left a.p.length 64)
    unfold cutV
    rwa [show a.p.take (min a.p.length 64) = a.p.take 64 by rw [Nat.min_comm, List.take_eq_take_iff]; omega] at this
  · show isI (a.num % 4); unfold isI; omega
  · show isI (a.newest % 16); unfold isI; omega
  · show isI (mildOff a); have := mildOff_rng a; unfold isI; omega
  · show isI (mildN a)
    have h9 := mildN_rng a
    have h10 := mildOff_rng a
    by_cases e1 : a.what = 1
    · have := h9.1 e1; unfold isI; omega
    · by_cases e2 : a.what = 2
      · have := h9.2.1 e2; unfold isI; omega
      · rw [h9.2.2 e1 e2]; exact h7
  · show isI (a.snap % 16); unfold isI; omega
  · show (a.p.take 64).length ≤ 64
    rw [List.length_take]; omega
theorem mild_spec (a : A17) (h : St W I w l) (ha : a.ok I) : Calls Tryz.prog 8 #[a.val] w fun e w' => e = .returned a.mild.val ∧ Below w.heap.size w w' := by
  obtain ⟨hp, hm, hi⟩ := ha
  obtain ⟨Ap, cp, hpv, _, hcp, _⟩ := hp
  obtain ⟨Am, cm, hmv, _⟩ := hm
  have hb : ∀ o1 o2, Below w.heap.size w ((w.alloc o1).alloc o2) := fun o1 o2 => ((Below.refl _ _).alloc (Nat.le_refl _) _).alloc (by simp) _
  have HB := Lib.hid hb
  obtain ⟨a0, a1, a2, a3, a4, a5, ap, apv, ams, amv⟩ := a
  simp only at hpv hmv hi hcp
  subst hpv hmv
  obtain ⟨len, hlen⟩ : ∃ len : Nat, min ap.length 64 = len := ⟨_, rfl⟩
  have hlen2 : min (ap.length : Int) 64 = (len : Int) := by omega
  have hl64 : len ≤ 64 := by omega
  have hllen : len ≤ ap.length := by omega
  have hlc : len ≤ cp := by omega
  have hlc2 : (len : Int) ≤ (cp : Int) := by omega
  have hl0 : (0 : Int) ≤ (len : Int) := by omega
  obtain ⟨o1, ho1⟩ : ∃ o1, a3 % 64 = o1 := ⟨_, rfl⟩
  have hand3 : bits .and .i64 a3 63 = o1 := (i64_and63 a3).trans ho1
  have hsub : IntKind.i64.wrap (65 - (len : Int)) = 65 - (len : Int) := by rw [IntKind.wrap_i64]; omega
  have hne : ¬ (65 - (len : Int) = 0) := by omega
  obtain ⟨o2, ho2⟩ : ∃ o2, o1 % (65 - (len : Int)) = o2 := ⟨_, rfl⟩
  have hrem : o1.tmod (65 - (len : Int)) = o2 := by rw [Int.tmod_eq_emod_of_nonneg (by omega)]; exact ho2
  have hr2 := emod_rng o1 (65 - (len : Int)) (by omega)
  rw [ho2] at hr2
  have hwo : IntKind.i64.wrap o2 = o2 := by rw [IntKind.wrap_i64]; omega
  have ha1 : bits .and .i64 a1 3 = a1 % 4 := i64_and3 a1
  have ha2 : bits .and .i64 a2 15 = a2 % 16 := i64_and15 a2
  have ha5 : bits .and .i64 a5 15 = a5 % 16 := i64_and15 a5
  have hoff : mildOff ⟨a0, a1, a2, a3, a4, a5, ap, .slice Ap ap.length cp, ams, .slice Am ams.length cm⟩ = o2 := by
    unfold mildOff
    simp only
    rw [hlen, ho1, ho2]
  have hp2 : cutV (.slice Ap ap.length cp) 64 = .slice Ap len cp := by unfold cutV; simp only; rw [hlen]
  simp only [A17.val, A17.mild]
  rw [hoff, hp2]
  have HOFF := Lib.hid hoff
  clear hoff hp2 h hi ho1 ho2 hlen
  by_cases e1 : a0 = 1
  · subst e1
    obtain ⟨n1, hn1⟩ : ∃ n1, a4 % 64 = n1 := ⟨_, rfl⟩
    have hand4 : bits .and .i64 a4 63 = n1 := (i64_and63 a4).trans hn1
    have hs2 : IntKind.i64.wrap (65 - o2) = 65 - o2 := by rw [IntKind.wrap_i64]; omega
    obtain ⟨n2, hn2⟩ : ∃ n2, n1 % (65 - o2) = n2 := ⟨_, rfl⟩
    have hrem2 : n1.tmod (65 - o2) = n2 := by rw [Int.tmod_eq_emod_of_nonneg (by omega)]; exact hn2
    have hr3 := emod_rng n1 (65 - o2) (by omega)
    rw [hn2] at hr3
    have hwn : IntKind.i64.wrap n2 = n2 := by rw [IntKind.wrap_i64]; omega
    have hne2 : ¬ (65 - o2 = 0) := by omega
    have hN : mildN ⟨1, a1, a2, a3, a4, a5, ap, .slice Ap ap.length cp, ams, .slice Am ams.length cm⟩ = n2 := by
      unfold mildN
      rw [if_pos rfl, HOFF.out]
      simp only
      rw [hn1, hn2]
    rw [hN]
    clear hN hn1 hn2
    go_enter Tryz.func8, Tryz.ntmps8
    go_wp2_with fail
    refine bodyPost_ret (v := .agg #[.int .i64 1, .int .i64 (a1 % 4), .int .i64 (a2 % 16), .int .i64 o2, .int .i64 n2, .int .i64 (a5 % 16), .slice Ap len cp, .slice Am ams.length cm]) (by simp [results, Tryz.results8, go_sem]) rfl ?_
    exact ⟨rfl, HB.out _ _⟩
  · have d1 : (a0 == 1) = false := by simpa using e1
    by_cases e2 : a0 = 2
    · subst e2
      obtain ⟨n1, hn1⟩ : ∃ n1, a4 % 128 = n1 := ⟨_, rfl⟩
      have hand4 : bits .and .i64 a4 127 = n1 := (i64_and127 a4).trans hn1
      obtain ⟨n2, hn2⟩ : ∃ n2, n1 % 65 = n2 := ⟨_, rfl⟩
      have hrem2 : n1.tmod 65 = n2 := by rw [Int.tmod_eq_emod_of_nonneg (by omega)]; exact hn2
      have hwn : IntKind.i64.wrap n2 = n2 := by rw [IntKind.wrap_i64]; omega
      have hN : mildN ⟨2, a1, a2, a3, a4, a5, ap, .slice Ap ap.length cp, ams, .slice Am ams.length cm⟩ = n2 := by
        unfold mildN
        rw [if_neg (by simp), if_pos rfl]
        simp only
        rw [hn1, hn2]
      rw [hN]
      clear hN hn1 hn2
      go_enter Tryz.func8, Tryz.ntmps8
      go_wp2_with fail
      refine bodyPost_ret (v := .agg #[.int .i64 2, .int .i64 (a1 % 4), .int .i64 (a2 % 16), .int .i64 o2, .int .i64 n2, .int .i64 (a5 % 16), .slice Ap len cp, .slice Am ams.length cm]) (by simp [results, Tryz.results8, go_sem]) rfl ?_
      exact ⟨rfl, HB.out _ _⟩
    · have d2 : (a0 == 2) = false := by simpa using e2
      have hN : mildN ⟨a0, a1, a2, a3, a4, a5, ap, .slice Ap ap.length cp, ams, .slice Am ams.length cm⟩ = a4 := by
        unfold mildN
        rw [if_neg e1, if_neg e2]
      rw [hN]
      clear hN
      go_enter Tryz.func8, Tryz.ntmps8
      go_wp2_with fail
      refine bodyPost_ret (v := .agg #[.int .i64 a0, .int .i64 (a1 % 4), .int .i64 (a2 % 16), .int .i64 o2, .int .i64 a4, .int .i64 (a5 % 16), .slice Ap len cp, .slice Am ams.length cm]) (by simp [results, Tryz.results8, go_sem]) rfl ?_
      exact ⟨rfl, HB.out _ _⟩
theorem ours17_spec (img : Int) (a : A17) {m : Nat} (h : St W I w (storeHP p S :: l)) (hk : Keeps S (m + 16 + 2 * (keysTold S ⟨4, img⟩).length)) (ha : a.ok I) (hpl : a.p.length ≤ 1000000) :
    Calls Tryz.prog 11 #[.pointer (some ⟨p, 0, none⟩), .int .i64 img, a.val] w (DoesE W I p l (oursS S img a)) := by
  obtain ⟨a0, a1, a2, a3, a4, a5, ap, apv, ams, amv⟩ := a
  obtain ⟨hp, hm, _⟩ := ha
  simp only at hp hm hpl
  have HP' := Lib.hid hp
  have HM' := Lib.hid hm
  obtain ⟨Ap, cp, rfl, _⟩ := hp
  obtain ⟨Am, cm, rfl, _⟩ := hm
  obtain ⟨I1, hs1, hI1, h1⟩ := (h.alloc (.cells #[.int .i64 a0, .int .i64 a1, .int .i64 a2, .int .i64 a3, .int .i64 a4, .int .i64 a5, .slice Ap ap.length cp, .slice Am ams.length cm] 31)).freeze
  obtain ⟨x0, x1, x2, x3, x4, x5, x6, x7⟩ := act_cells h1 hI1
  have hk1 : Keeps S (m + 16) := hk.fewer (by omega)
  have hk2 : Keeps S (m + 2 * (keysTold S ⟨4, img⟩).length) := hk.fewer (by omega)
  have HS1 := Lib.hid hs1
  simp only [A17.val]
  by_cases n0 : a0 = 0
  · subst n0
    have e0 : ((0 : Int) == 0) = true := rfl
    have HX := Lib.hid (show oursS S img ⟨0, a1, a2, a3, a4, a5, ap, .slice Ap ap.length cp, ams, .slice Am ams.length cm⟩ = cwriteS S img a1 a2 a3 ap by unfold oursS; rfl)
    have hsp := cwrite_spec img a1 a2 a3 _ ap h1 hk1 ((bytesIP _ _).mono hs1 HP'.out) hpl
    have HSP := Lib.hid hsp
    clear hsp h h1 hk hk1 hk2 hs1 hI1
    go_enter Tryz.func11, Tryz.ntmps11
    go_wp2_with fail
    refine HSP.out.mono ?_
    rintro e w3 ⟨I3, hs3, rfl, h3⟩
    have H3 := Lib.hid h3
    have HS3 := Lib.hid (HS1.out.trans hs3)
    clear h3 hs3 x0 x1 x2 x3 x4 x5 x6 x7
    go_wp2_with fail
    go_ret
    rw [HX.out]
    exact ⟨I3, HS3.out, rfl, H3.out⟩
  · have e0 : (a0 == 0) = false := by simpa using n0
    by_cases n1 : a0 = 1
    · subst n1
      have e0 : ((1 : Int) == 0) = false := rfl
      have e1 : ((1 : Int) == 1) = true := rfl
      have HX := Lib.hid (show oursS S img ⟨1, a1, a2, a3, a4, a5, ap, .slice Ap ap.length cp, ams, .slice Am ams.length cm⟩ = cclearS S img a1 a2 a3 a4 by unfold oursS; rfl)
      have hsp := cclear_spec img a1 a2 a3 a4 h1 hk1
      have HSP := Lib.hid hsp
      clear hsp h h1 hk hk1 hk2 hs1 hI1
      go_enter Tryz.func11, Tryz.ntmps11
      go_wp2_with fail
      refine HSP.out.mono ?_
      rintro e w3 ⟨I3, hs3, rfl, h3⟩
      have H3 := Lib.hid h3
      have HS3 := Lib.hid (HS1.out.trans hs3)
      clear h3 hs3 x0 x1 x2 x3 x4 x5 x6 x7
      go_wp2_with fail
      go_ret
      rw [HX.out]
      exact ⟨I3, HS3.out, rfl, H3.out⟩
    · have e1 : (a0 == 1) = false := by simpa using n1
      by_cases n2 : a0 = 2
      · subst n2
        have e0 : ((2 : Int) == 0) = false := rfl
        have e1 : ((2 : Int) == 1) = false := rfl
        have e2 : ((2 : Int) == 2) = true := rfl
        have HX := Lib.hid (show oursS S img ⟨2, a1, a2, a3, a4, a5, ap, .slice Ap ap.length cp, ams, .slice Am ams.length cm⟩ = ccutS S img a1 a2 a4 by unfold oursS; rfl)
        have hsp := ccut_spec img a1 a2 a4 h1 hk1
        have HSP := Lib.hid hsp
        clear hsp h h1 hk hk1 hk2 hs1 hI1
        go_enter Tryz.func11, Tryz.ntmps11
        go_wp2_with fail
        refine HSP.out.mono ?_
        rintro e w3 ⟨I3, hs3, rfl, h3⟩
        have H3 := Lib.hid h3
        have HS3 := Lib.hid (HS1.out.trans hs3)
        clear h3 hs3 x0 x1 x2 x3 x4 x5 x6 x7
        go_wp2_with fail
        go_ret
        rw [HX.out]
        exact ⟨I3, HS3.out, rfl, H3.out⟩
      · have e2 : (a0 == 2) = false := by simpa using n2
        by_cases n3 : a0 = 3
        · subst n3
          have e0 : ((3 : Int) == 0) = false := rfl
          have e1 : ((3 : Int) == 1) = false := rfl
          have e2 : ((3 : Int) == 2) = false := rfl
          have e3 : ((3 : Int) == 3) = true := rfl
          have HX := Lib.hid (show oursS S img ⟨3, a1, a2, a3, a4, a5, ap, .slice Ap ap.length cp, ams, .slice Am ams.length cm⟩ = claySn S img a1 a2 ap by unfold oursS; rfl)
          have hsp := clayn_spec img a1 a2 _ ap h1 hk1 ((bytesIP _ _).mono hs1 HP'.out) hpl
          have HSP := Lib.hid hsp
          clear hsp h h1 hk hk1 hk2 hs1 hI1
          go_enter Tryz.func11, Tryz.ntmps11
          go_wp2_with fail
          refine HSP.out.mono ?_
          rintro e w3 ⟨I3, hs3, rfl, h3⟩
          have H3 := Lib.hid h3
          have HS3 := Lib.hid (HS1.out.trans hs3)
          clear h3 hs3 x0 x1 x2 x3 x4 x5 x6 x7
          go_wp2_with fail
          go_ret
          rw [HX.out]
          exact ⟨I3, HS3.out, rfl, H3.out⟩
        · have e3 : (a0 == 3) = false := by simpa using n3
          by_cases n4 : a0 = 4
          · subst n4
            have e0 : ((4 : Int) == 0) = false := rfl
            have e1 : ((4 : Int) == 1) = false := rfl
            have e2 : ((4 : Int) == 2) = false := rfl
            have e3 : ((4 : Int) == 3) = false := rfl
            have e4 : ((4 : Int) == 4) = true := rfl
            have HX := Lib.hid (show oursS S img ⟨4, a1, a2, a3, a4, a5, ap, .slice Ap ap.length cp, ams, .slice Am ams.length cm⟩ = cbackS S img a1 a2 a5 by unfold oursS; rfl)
            have hsp := cback_spec img a1 a2 a5 h1 hk1
            have HSP := Lib.hid hsp
            clear hsp h h1 hk hk1 hk2 hs1 hI1
            go_enter Tryz.func11, Tryz.ntmps11
            go_wp2_with fail
            refine HSP.out.mono ?_
            rintro e w3 ⟨I3, hs3, rfl, h3⟩
            have H3 := Lib.hid h3
            have HS3 := Lib.hid (HS1.out.trans hs3)
            clear h3 hs3 x0 x1 x2 x3 x4 x5 x6 x7
            go_wp2_with fail
            go_ret
            rw [HX.out]
            exact ⟨I3, HS3.out, rfl, H3.out⟩
          · have e4 : (a0 == 4) = false := by simpa using n4
            by_cases n5 : a0 = 5
            · subst n5
              have e0 : ((5 : Int) == 0) = false := rfl
              have e1 : ((5 : Int) == 1) = false := rfl
              have e2 : ((5 : Int) == 2) = false := rfl
              have e3 : ((5 : Int) == 3) = false := rfl
              have e4 : ((5 : Int) == 4) = false := rfl
              have e5 : ((5 : Int) == 5) = true := rfl
              have HX := Lib.hid (show oursS S img ⟨5, a1, a2, a3, a4, a5, ap, .slice Ap ap.length cp, ams, .slice Am ams.length cm⟩ = tidyS S img ams by unfold oursS; rfl)
              have hsp := tidy_spec img _ ams h1 hk2 ((intsIP _ _).mono hs1 HM'.out)
              have HSP := Lib.hid hsp
              clear hsp h h1 hk hk1 hk2 hs1 hI1
              go_enter Tryz.func11, Tryz.ntmps11
              go_wp2_with fail
              refine HSP.out.mono ?_
              rintro e w3 ⟨I3, hs3, rfl, h3⟩
              have H3 := Lib.hid h3
              have HS3 := Lib.hid (HS1.out.trans hs3)
              clear h3 hs3 x0 x1 x2 x3 x4 x5 x6 x7
              go_wp2_with fail
              go_ret
              rw [HX.out]
              exact ⟨I3, HS3.out, rfl, H3.out⟩
            · have e5 : (a0 == 5) = false := by simpa using n5
              have HX := Lib.hid (show oursS S img ⟨a0, a1, a2, a3, a4, a5, ap, .slice Ap ap.length cp, ams, .slice Am ams.length cm⟩ = (0, S) by unfold oursS; simp only [if_neg n0, if_neg n1, if_neg n2, if_neg n3, if_neg n4, if_neg n5])
              have H1 := Lib.hid h1
              clear h h1 hk hk1 hk2 hs1 hI1
              go_enter Tryz.func11, Tryz.ntmps11
              go_wp2_with fail
              go_ret
              rw [HX.out]
              exact ⟨I1, HS1.out, rfl, H1.out⟩
end
end Go.Proofs.YtbepmbcbcklmlaaGreat
