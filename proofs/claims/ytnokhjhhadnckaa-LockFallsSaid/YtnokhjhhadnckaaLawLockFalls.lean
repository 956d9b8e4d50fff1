/- LockFalls: the walk. -/
import Derived.Test.YtnokhjhhadnckaaLawLockPlays
set_option linter.unusedSimpArgs false
set_option linter.unusedVariables false
set_option linter.unusedSectionVars false
namespace Go.Proofs.Ytnokhjhhadnckaa
open Go.RowKit
section
variable {W w : World} {I : Hp} {l : List HP} {p : Nat} {S : Str}
theorem fuse_any (n : Int) (kv : Value) (keep : List Int) (torn : Int) (h : St W I w (storeHP p S :: l)) (hk : IntsI I kv keep) (hn : keep.length ≤ 1000000) :
    Calls Try.prog 33 #[.pointer (some ⟨p, 0, none⟩), .int .i64 n, kv, .int .i64 torn] w fun e w' => ∃ I', I.sub I' ∧ e = .returned (.tuple #[]) ∧ St W I' w' (storeHP p (fuseS S n keep torn) :: l) := by
  obtain ⟨B, h1⟩ := h.store_open
  have h2 := (h1.pull 5 _ rfl).drop
  refine (fuse_spec n kv keep torn h2 hk hn).mono ?_
  rintro e w' ⟨rfl, vk, I', hs, hv, h3⟩
  refine ⟨I', hs, rfl, St.store_shut (B := { B with vk := vk }) ?_⟩
  have e1 : seenHP B S = seenHP { B with vk := vk } (fuseS S n keep torn) := by unfold seenHP fuseS; split <;> rfl
  have e2 : dryHP B S = dryHP { B with vk := vk } (fuseS S n keep torn) := by unfold dryHP fuseS; split <;> rfl
  have e3 : lateHP B S = lateHP { B with vk := vk } (fuseS S n keep torn) := by unfold lateHP fuseS; split <;> rfl
  have e4 : keyHP B S = keyHP { B with vk := vk } (fuseS S n keep torn) := by unfold keyHP fuseS; split <;> rfl
  rw [← e1, ← e2, ← e3, ← e4]
  exact (St.imm_shut (A := intsIP vk (fuseS S n keep torn).keep) hv h3).perm (by ((try simp only [List.eraseIdx_cons_succ, List.eraseIdx_cons_zero, List.cons_append, List.nil_append]); repeat (first | with_reducible exact List.Perm.refl _ | (apply perm_step; (· repeat (first | with_reducible exact find_here | with_reducible apply find_there))))))
end
theorem fuse_on {S : Str} (n : Int) (keep : List Int) (torn : Int) : (fuseS S n keep torn).on = S.on := by unfold fuseS; split <;> rfl
theorem fuse_off {S : Str} : (fuseS S (-1) [] 0).armed = false := rfl
/-- What a call leaves when a fuse was set ahead of it, and the power is there again. -/
theorem fall_step {S : Str} {o : Int} {m : Nat} (h : LkC S o (m + 4)) (n : Int) (keep : List Int) (torn : Int) (hk : keep.length ≤ 1000000) (hn : n ≤ 9223372036854775807) (what who : Int) :
    ∃ r, oursS (fuseS S n keep torn) what who = r ∧ LkJ (fuseS S n keep torn) o ∧ Keeps (fuseS S n keep torn) (m + 4) ∧ ∃ q, LkC (fuseS (powerS r.2) (-1) [] 0) q m ∧
      ((r.2.on = true ∧ r.1 = (theirsS o what who).2 ∧ q = (theirsS o what who).1) ∨ (r.2.on = false ∧ r.1 = 7 ∧ (q = o ∨ q = (theirsS o what who).1))) := by
  have hj := h.j.fuse n keep torn
  have hkp := fuseS_keeps (n := n) (torn := torn) h.keeps hk hn
  have hon : (fuseS S n keep torn).on = true := by rw [fuse_on]; exact h.on
  have hk2 : Keeps (oursS (fuseS S n keep torn) what who).2 m := ours_keeps hkp
  have hk3 : Keeps (fuseS (powerS (oursS (fuseS S n keep torn) what who).2) (-1) [] 0) m := fuseS_keeps (powerS_keeps hk2) (by simp) (by decide)
  refine ⟨_, rfl, hj, hkp, ?_⟩
  rcases ours_law (what := what) (who := who) hj hon with ⟨h1, h2, h3, h4⟩ | ⟨h1, h2, h3, h4, q, h5, h6⟩
  · exact ⟨_, ⟨h3.power.fuse (-1) [] 0, by rw [fuse_on]; rfl, fuse_off, hk3⟩, .inl ⟨h2, h1, rfl⟩⟩
  · exact ⟨q, ⟨h5.power.fuse (-1) [] 0, by rw [fuse_on]; rfl, fuse_off, hk3⟩, .inr ⟨h3, h2, h6⟩⟩
set_option maxRecDepth 4000
set_option maxHeartbeats 4000000
theorem lockFalls_walk (v0 v1 : Value) (ls : List A19) (keep : List Int) (torn : Int) (W : World) (h0 : RowI W.hp 4 v0 ls.length (ls.flatMap A19.vals)) (h1 : IntsI W.hp v1 keep) (hn : ls.length ≤ maxLen) (hb : keep.length ≤ maxLen) :
    Calls Try.prog 11 #[v0, v1, .int .i64 torn] W fun e w' => e = .returned (.bool true) ∧ Below W.heap.size W w' := by
  have H0 := Lib.hid h0
  have HB1 := Lib.hid h1
  obtain ⟨A0, c0, rfl, _⟩ := h0
  obtain ⟨A1, c1, rfl, _⟩ := h1
  unfold maxLen at hn hb
  have hn1 : (ls.length : Int) ≤ 9223372036854775807 := by omega
  have hb1 : (keep.length : Int) ≤ 9223372036854775807 := by omega
  by_cases hbig : 60 < ls.length ∨ 20 < keep.length
  · by_cases h40 : 60 < ls.length
    · have hd : decide (60 < (ls.length : Int)) = true := by rw [decide_eq_true_eq]; omega
      clear hbig h40
      go_enter Try.func11, Try.ntmps11
      go_wp2_with fail
      refine (known19_spec W).mono ?_
      rintro e w1 ⟨rfl, hb⟩
      have HB := Lib.hid hb
      clear hb
      go_wp2_with fail
      go_ret
      exact ⟨rfl, HB.out⟩
    · have hd : decide (60 < (ls.length : Int)) = false := by rw [decide_eq_false_iff_not]; omega
      have hd2 : decide (20 < (keep.length : Int)) = true := by rw [decide_eq_true_eq]; omega
      clear hbig h40
      go_enter Try.func11, Try.ntmps11
      go_wp2_with fail
      refine (known19_spec W).mono ?_
      rintro e w1 ⟨rfl, hb⟩
      have HB := Lib.hid hb
      clear hb
      go_wp2_with fail
      go_ret
      exact ⟨rfl, HB.out⟩
  · have hn60 : ls.length ≤ 60 := by omega
    have hk20 : keep.length ≤ 20 := by omega
    have hd : decide (60 < (ls.length : Int)) = false := by rw [decide_eq_false_iff_not]; omega
    have hd2 : decide (20 < (keep.length : Int)) = false := by rw [decide_eq_false_iff_not]; omega
    clear hbig
    go_enter Try.func11, Try.ntmps11
    go_wp2_with fail
    refine (new_spec 1000 (St.init W)).mono ?_
    rintro e w1 ⟨p, rfl, h1⟩
    have H1 := Lib.hid h1
    clear h1
    go_wp2_with fail
    go_loopw [8, 9] (fun a6 a7 wr => ∃ (i : Nat) (o : Int) (S : Str) (I1 : Hp), a7 = .int .i64 i ∧ a6 = .int .i64 o ∧ i ≤ ls.length ∧ LkC S o (1000 - 8 * i) ∧ W.hp.sub I1 ∧ St W I1 wr (storeHP p S :: [])) (fun _ a7 _ => ls.length - (intOf a7).toNat)
    case atStart => exact ⟨0, 0, newS 1000, W.hp, rfl, rfl, Nat.zero_le _, LkC.new _ (by omega), Hp.sub.refl _, H1.out⟩
    case round =>
      obtain ⟨i, o, S, I1, rfl, rfl, hi, hkc, hI1, hst⟩ := hrel
      by_cases hlt : i < ls.length
      · obtain ⟨a, ha⟩ : ∃ a, ls[i]? = some a := ⟨_, List.getElem?_eq_getElem hlt⟩
        obtain ⟨b, off, e1, hc⟩ := rowk_cell (i := i) H0.out hI1 hst (fun _ => rfl) ha
        simp only [Value.slice.injEq, and_true] at e1
        subst e1
        have y0 := hc 0 (by omega)
        have y1 := hc 1 (by omega)
        have y2 := hc 2 (by omega)
        have y3 := hc 3 (by omega)
        simp only [A19.vals, List.getElem?_cons_succ, List.getElem?_cons_zero, Nat.add_zero] at y0 y1 y2 y3
        obtain ⟨q, hq⟩ : ∃ q, a.fuse % 8 = q := ⟨_, rfl⟩
        have hand : bits .and .i64 a.fuse 7 = q := (i64_and7 _).trans hq
        have hsub : IntKind.i64.wrap (q - 3) = q - 3 := by rw [IntKind.wrap_i64]; omega
        obtain ⟨r, hr, hj1, hk1, qo, hc5, hcs⟩ := fall_step (m := 1000 - 8 * i - 4) (hkc.less (by omega)) (q - 3) keep torn (by omega) (by omega) a.what a.n
        have hth := ltheirs_spec o a wr
        obtain ⟨o', e', hT⟩ : ∃ o' e', theirsS o a.what a.n = (o', e') := ⟨_, _, rfl⟩
        rw [hT] at hth hcs
        simp only [A19.val] at hth
        have HTH := Lib.hid hth
        have HI1 := Lib.hid hI1
        have HST := Lib.hid hst
        have HA := Lib.hid ha
        have HR := Lib.hid hr
        have HJ1 := Lib.hid hj1
        have HK1 := Lib.hid hk1
        have HC5 := Lib.hid hc5
        have HCS := Lib.hid hcs
        clear hc hkc hI1 hst ha hth hT hr hj1 hk1 hc5 hcs hq
        go_wp2_with fail
        refine HTH.out.mono ?_
        rintro e w2 ⟨rfl, hb2⟩
        have h2 := HST.out.keep hb2
        obtain ⟨b', off', e1, hc⟩ := rowk_cell (i := i) H0.out HI1.out h2 (fun _ => rfl) HA.out
        simp only [Value.slice.injEq, and_true, Option.some.injEq, Addr.mk.injEq] at e1
        obtain ⟨rfl, rfl⟩ := e1
        have y2 := hc 2 (by omega)
        simp only [A19.vals, List.getElem?_cons_succ, List.getElem?_cons_zero, Nat.add_zero] at y2
        have hfu := fuse_any (q - 3) (.slice A1 keep.length c1) keep torn h2 ((intsIP _ _).mono HI1.out HB1.out) (by omega)
        have HFU := Lib.hid hfu
        clear hb2 hc h2 hfu HTH y0 y1 y3
        go_wp2_with fail
        refine HFU.out.mono ?_
        rintro e w3 ⟨I3, hs3, rfl, h3⟩
        obtain ⟨b', off', e1, hc⟩ := rowk_cell (i := i) H0.out (HI1.out.trans hs3) h3 (fun _ => rfl) HA.out
        simp only [Value.slice.injEq, and_true, Option.some.injEq, Addr.mk.injEq] at e1
        obtain ⟨rfl, rfl⟩ := e1
        have y0 := hc 0 (by omega)
        have y1 := hc 1 (by omega)
        have y2 := hc 2 (by omega)
        have y3 := hc 3 (by omega)
        simp only [A19.vals, List.getElem?_cons_succ, List.getElem?_cons_zero, Nat.add_zero] at y0 y1 y2 y3
        have hou := lours_spec a h3 HK1.out HJ1.out
        rw [HR.out] at hou
        simp only [A19.val] at hou
        have HOU := Lib.hid hou
        have HS3 := Lib.hid (HI1.out.trans hs3)
        clear hc hou h3 hs3 hand hsub HFU
        go_wp2_with fail
        refine HOU.out.mono ?_
        rintro e w4 ⟨I4, hs4, rfl, h4⟩
        obtain ⟨r1, r2⟩ := r
        have hcs := HCS.out
        simp only at hcs
        have H4 := Lib.hid h4
        have HS4 := Lib.hid (HS3.out.trans hs4)
        clear h4 hs4 y0 y1 y2 y3 HOU
        go_wp2_with fail
        refine (on_spec H4.out).mono ?_
        rintro e w5 ⟨rfl, rfl⟩
        go_wp2_with fail
        refine (power_spec H4.out).mono ?_
        rintro e w6 ⟨rfl, h6⟩
        have h6 : St W I4 w6 (storeHP p (powerS r2) :: []) := h6
        have hfu := fuse_any (-1) (.slice none 0 0) [] 0 h6 (ints_nil _) (by decide)
        have HFU := Lib.hid hfu
        clear h6 hfu
        go_wp2_with fail
        refine HFU.out.mono ?_
        rintro e w7 ⟨I7, hs7, rfl, h7⟩
        have h7 : St W I7 w7 (storeHP p (fuseS (powerS r2) (-1) [] 0) :: []) := h7
        have H7 := Lib.hid h7
        have HS7 := Lib.hid (HS4.out.trans hs7)
        clear h7 hs7 HFU
        go_wp2_with fail
        have hwc := who_any H7.out HC5.out.keeps HC5.out.j
        rw [HC5.out.j.who HC5.out.on] at hwc
        have HWC := Lib.hid hwc
        clear hwc
        refine HWC.out.mono ?_
        rintro e w8 ⟨rfl, hb8⟩
        have H8 := Lib.hid (H7.out.keep hb8)
        clear hb8 HWC
        rcases hcs with ⟨hon, rfl, rfl⟩ | ⟨hon, rfl, hq⟩
        · rw [hon]
          clear HCS
          go_wp2_with fail
          go_roundw
          case rel => exact ⟨i + 1, _, _, I7, by go_num, rfl, by omega, HC5.out.less (by omega), HS7.out, H8.out⟩
          case measure => simp [intOf]; omega
        · rw [hon]
          clear HCS
          by_cases hqo : qo = o
          · have hbq : (qo != o) = false := by simpa using hqo
            clear hqo hq
            go_wp2_with fail
            go_roundw
            case rel => exact ⟨i + 1, _, _, I7, by go_num, rfl, by omega, HC5.out.less (by omega), HS7.out, H8.out⟩
            case measure => simp [intOf]; omega
          · have hbq : (qo != o) = true := by simpa using hqo
            have hbq2 : (qo != o') = false := by
              have := hq.resolve_left hqo
              simpa using this
            clear hqo hq
            go_wp2_with fail
            go_roundw
            case rel => exact ⟨i + 1, _, _, I7, by go_num, rfl, by omega, HC5.out.less (by omega), HS7.out, H8.out⟩
            case measure => simp [intOf]; omega
      · obtain rfl : i = ls.length := by omega
        have HST := Lib.hid hst
        clear hst hkc hI1
        go_wp2_with fail
        refine (known19_spec wr).mono ?_
        rintro e w9 ⟨rfl, hb9⟩
        have HB := Lib.hid (HST.out.below.trans (hb9.mono HST.out.below.size))
        clear hb9
        go_wp2_with fail
        go_ret
        exact ⟨rfl, HB.out⟩
end Go.Proofs.Ytnokhjhhadnckaa
