/- The store's scripts: what an act asks for; few; ours. -/
import Derived.Test.YtagljjhfkhadpaaGreatArgs3
set_option linter.unusedSimpArgs false
set_option linter.unusedVariables false
set_option linter.unusedSectionVars false
namespace Go.Proofs.YtagljjhfkhadpaaGreat
open Go.RowKit
def A3.val (a : A3) : Value := .agg #[.int .i64 a.what, .int .i64 a.which, .int .i64 a.off, .int .i64 a.n, .bool a.raw, .int .i64 a.k.kind, .int .i64 a.k.img, .int .i64 a.k.num, .int .i64 a.k.snap, a.pv, .string a.name, a.kv]
def keyW (w : Int) : K4 := ⟨2 + w % 2, w / 2 % 2, w / 4, w % 2⟩
def A3.key (a : A3) : K4 := if a.raw then a.k else keyW (a.which % 8)
def A3.few (a : A3) : Bool := decide (¬ (60 < a.p.length ∨ 20 < a.keep.length ∨ 30 < a.name.size))
def fewA (l : List A3) : Bool := l.all A3.few && decide (l.length ≤ 60)
def A3.ours (a : A3) : A3 := { a with raw := false, what := (a.what % 18446744073709551616) % 7 }
section
variable {W w : World} {I : Hp} {l : List HP}
set_option maxRecDepth 4000
set_option maxHeartbeats 4000000
theorem akey_spec (a : A3) (w : World) : Calls Tryz.prog 13 #[a.val] w fun e w' => e = .returned a.key.val ∧ Below w.heap.size w w' := by
  obtain ⟨a0, a1, a2, a3, a4, ⟨k0, k1, k2, k3⟩, ap, av, an, ak, akv⟩ := a
  unfold A3.val A3.key
  cases a4 with
  | true =>
    go_enter Tryz.func13, Tryz.ntmps13
    go_wp2
    refine bodyPost_ret (v := .agg #[.int .i64 k0, .int .i64 k1, .int .i64 k2, .int .i64 k3]) (by simp [results, Tryz.results13, go_sem]) rfl ?_
    exact ⟨rfl, ((Below.refl _ _).alloc (Nat.le_refl _) _).alloc (by simp) _⟩
  | false =>
    obtain ⟨x, hx⟩ : ∃ x, a1 % 8 = x := ⟨_, rfl⟩
    have hx0 : 0 ≤ x ∧ x < 8 := by omega
    have h7 : bits .and .i64 a1 7 = x := (i64_and7 a1).trans hx
    have h1 : bits .and .i64 x 1 = x % 2 := i64_and1 x
    have h2 : bits .and .i64 (x / 2) 1 = x / 2 % 2 := i64_and1 (x / 2)
    have hw : IntKind.i64.wrap (2 + x % 2) = 2 + x % 2 := by rw [IntKind.wrap_i64]; omega
    have HX := Lib.hid hx
    clear hx
    go_enter Tryz.func13, Tryz.ntmps13
    go_wp2
    refine bodyPost_ret (v := .agg #[.int .i64 (2 + x % 2), .int .i64 (x / 2 % 2), .int .i64 (x / 4), .int .i64 (x % 2)]) (by simp [results, Tryz.results13, go_sem]) rfl ?_
    refine ⟨?_, ((Below.refl _ _).alloc (Nat.le_refl _) _).alloc (by simp) _⟩
    rw [HX.out]
    rfl
theorem few_spec (v : Value) (ls : List A3) (w : World) (h : RowI w.hp 12 v ls.length (ls.flatMap A3.vals)) (hok : ∀ a ∈ ls, a.ok w.hp) (hn : ls.length ≤ maxLen) : Calls Tryz.prog 5 #[v] w fun e w' => e = .returned (.bool (fewA ls)) ∧ w = w' := by
  have H0 := Lib.hid h
  have HOK := Lib.hid hok
  obtain ⟨A0, c0, rfl, _⟩ := h
  unfold maxLen at hn
  have hn1 : (ls.length : Int) ≤ 9223372036854775807 := by omega
  clear hok
  go_enter Tryz.func5, Tryz.ntmps5
  go_wp2_with fail
  go_loopw [3] (fun a3 wr => ∃ (i : Nat), a3 = .int .i64 i ∧ i ≤ ls.length ∧ (ls.take i).all A3.few = true ∧ wr = w) (fun a3 _ => ls.length - (intOf a3).toNat)
  case atStart => exact ⟨0, rfl, Nat.zero_le _, rfl, rfl⟩
  case round =>
    obtain ⟨i, rfl, hi, hall, rfl⟩ := hrel
    by_cases hlt : i < ls.length
    · obtain ⟨a, ha⟩ : ∃ a, ls[i]? = some a := ⟨_, List.getElem?_eq_getElem hlt⟩
      obtain ⟨b, off, e1, hc⟩ := rowk_cell (i := i) H0.out (Hp.sub.refl _) (St.init wr) (fun _ => rfl) ha
      simp only [Value.slice.injEq, and_true] at e1
      subst e1
      have hoka := HOK.out a (List.mem_of_getElem? ha)
      obtain ⟨Ap, cp, hpv, _⟩ := hoka.1
      obtain ⟨Ak, ck, hkv, _⟩ := hoka.2.2.2.1
      have y9 := hc 9 (by omega)
      have y10 := hc 10 (by omega)
      have y11 := hc 11 (by omega)
      simp only [A3.vals, List.getElem?_cons_succ, List.getElem?_cons_zero] at y9 y10 y11
      rw [hpv] at y9
      rw [hkv] at y11
      have hst : (ls.take (i + 1)).all A3.few = a.few := by
        obtain ⟨hil, he⟩ := List.getElem?_eq_some_iff.1 ha
        rw [List.take_succ_eq_append_getElem hil, List.all_append, hall, he]
        simp
      have hfull : a.few = false → fewA ls = false := fun hf => by
        unfold fewA
        have : ls.all A3.few = false := List.all_eq_false.2 ⟨a, List.mem_of_getElem? ha, by simp [hf]⟩
        rw [this]; rfl
      have HST := Lib.hid hst
      have HFULL := Lib.hid hfull
      clear hc hall ha hoka hst hfull hpv hkv
      by_cases h1 : 60 < a.p.length
      · have d1 : decide (60 < (a.p.length : Int)) = true := by rw [decide_eq_true_eq]; omega
        have hf : a.few = false := by simp [A3.few, h1]
        have HF := Lib.hid (HFULL.out hf)
        clear hf
        go_wp2_with fail
        go_ret
        exact ⟨by rw [HF.out]; rfl, rfl⟩
      · have d1 : decide (60 < (a.p.length : Int)) = false := by rw [decide_eq_false_iff_not]; omega
        by_cases h2 : 20 < a.keep.length
        · have d2 : decide (20 < (a.keep.length : Int)) = true := by rw [decide_eq_true_eq]; omega
          have hf : a.few = false := by simp [A3.few, h2]
          have HF := Lib.hid (HFULL.out hf)
          clear hf
          go_wp2_with fail
          go_ret
          exact ⟨by rw [HF.out]; rfl, rfl⟩
        · have d2 : decide (20 < (a.keep.length : Int)) = false := by rw [decide_eq_false_iff_not]; omega
          by_cases h3 : 30 < a.name.size
          · have d3 : decide (30 < (a.name.size : Int)) = true := by rw [decide_eq_true_eq]; omega
            have d3' : decide (30 < a.name.size) = true := by simpa using h3
            have hf : a.few = false := by simp [A3.few, h3]
            have HF := Lib.hid (HFULL.out hf)
            clear hf
            go_wp2_with fail
            go_ret
            exact ⟨by rw [HF.out]; rfl, rfl⟩
          · have d3 : decide (30 < (a.name.size : Int)) = false := by rw [decide_eq_false_iff_not]; omega
            have d3' : decide (30 < a.name.size) = false := by simpa using h3
            have HF := Lib.hid (show a.few = true by simp [A3.few]; omega)
            go_wp2_with fail
            go_roundw
            case rel => exact ⟨i + 1, by go_num, by omega, by rw [HST.out]; exact HF.out, trivial⟩
            case measure => simp [intOf]; omega
    · obtain rfl : i = ls.length := by omega
      rw [List.take_length] at hall
      have HALL := Lib.hid hall
      clear hall
      go_wp2_with fail
      go_ret
      exact ⟨by unfold fewA; rw [HALL.out]; simp; omega, rfl⟩
end
end Go.Proofs.YtagljjhfkhadpaaGreat
