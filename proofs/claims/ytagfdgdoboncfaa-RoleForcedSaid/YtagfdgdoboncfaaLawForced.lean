import Derived.Test.YtagfdgdoboncfaaGrow
import Derived.Test.YtagfdgdoboncfaaTurns
import Derived.Test.YtagfdgdoboncfaaBegins
import Derived.Test.YtagfdgdoboncfaaTurnLaw
namespace Go.Proofs.Ytagfdgdoboncfaa
open Go.RowKit
set_option maxRecDepth 100000 in
set_option maxHeartbeats 8000000 in
theorem roleForced_walk (A : Option Addr) (n c : Nat) (l : List Int) (one two : Int) (w : World) (hl : IntsAt w A n l) :
    Calls Try.prog 6 #[.slice A n c, .int .i64 one, .int .i64 two] w fun e w' => e = .returned (.bool true) ∧ Below w.heap.size w w' := by
  by_cases hn : n ≤ 40
  · have d40 : decide ((40 : Int) < n) = false := by simp; omega
    have p1 := i64_and15 one
    have p2 := i64_and15 two
    have q2 : 0 ≤ one % 16 := by omega
    have q3 : one % 16 ≤ 15 := by omega
    have q4 : 0 ≤ two % 16 := by omega
    have q5 : two % 16 ≤ 15 := by omega
    have hg := grow_Good l (by rw [hl.1]; omega)
    have HGood := Lib.hid hg
    have HL := Lib.hid hl
    clear hl hg
    go_enter Try.func6, Try.ntmps6
    go_wp2_with fail
    refine (grow_any A n c l _ HL.out (by omega)).mono ?_
    rintro e w1 ⟨B, m, d, rfl, ht, hm, hmd, hb1, ha0, ha1⟩
    obtain ⟨ts, hts⟩ : ∃ ts, (grow l).1 = ts := ⟨_, rfl⟩
    obtain ⟨at_, hat⟩ : ∃ a, (grow l).2 = a := ⟨_, rfl⟩
    rw [hts] at ht
    rw [hat] at ha0 ha1 ⊢
    have HGD : Hid (Good ts at_ ∧ ts.length ≤ 20) := by rw [← hts, ← hat]; exact HGood.out
    clear hts hat HGood
    have HT := Lib.hid ht
    clear ht
    obtain ⟨TA, TB, i, j, f1, f2, f3, f4, f5, f6, f7, f8⟩ := forced_facts HGD.out.1 HGD.out.2 (x := one % 16) (y := two % 16) ⟨q2, q3⟩ ⟨q4, q5⟩
    have F1 := Lib.hid f1
    have F2 := Lib.hid f2
    have F3 := Lib.hid f3
    have F4 := Lib.hid f4
    have F5 := Lib.hid f5
    have F6 := Lib.hid f6
    clear f1 f2 f3 f4 f5 f6 HGD
    go_wp2_with fail
    refine (force_any B m d ts 3 1 at_ _ HT.out (by omega) hmd).mono ?_
    rw [F1.out]
    rintro e w2 ⟨A2, n2, c2, rfl, t2, k2, m2, hb⟩
    have hb2 := hb1.trans (hb.mono hb1.size)
    have HT' := Lib.hid (HT.out.below hb (Nat.le_refl _))
    have TA1 := Lib.hid t2
    clear t2 hb1 hb HT
    go_wp2_with fail
    refine (force_any B m d ts 5 2 at_ _ HT'.out (by omega) hmd).mono ?_
    rw [F2.out]
    rintro e w3 ⟨A3, n3, c3, rfl, t3, k3, m3, hb⟩
    have hb3 := hb2.trans (hb.mono hb2.size)
    have TA2 := Lib.hid (TA1.out.below hb (Nat.le_refl _))
    have TB1 := Lib.hid t3
    clear t3 hb2 hb HT' TA1
    go_wp2_with fail
    refine (compare_any A2 A3 n2 c2 n3 c3 TA TB _ _ _ TA2.out TB1.out (by omega) (by omega)).mono ?_
    rw [F3.out]
    rintro e w4 ⟨rfl, hb⟩
    have hb4 := hb3.trans (hb.mono hb3.size)
    have TA1 := Lib.hid (TA2.out.below hb (Nat.le_refl _))
    have TB2 := Lib.hid (TB1.out.below hb (Nat.le_refl _))
    clear hb3 hb TA2 TB1
    have ee : (at_ == at_) = true := by simp
    go_wp2_with fail
    refine (fork_any A2 A3 n2 c2 n3 c3 TA TB _ _ _ TA1.out TB2.out (by omega)).mono ?_
    rw [F4.out]
    rintro e w5 ⟨rfl, hb⟩
    have hb5 := hb4.trans (hb.mono hb4.size)
    have TA2 := Lib.hid (TA1.out.below hb (Nat.le_refl _))
    have TB1 := Lib.hid (TB2.out.below hb (Nat.le_refl _))
    clear hb4 hb TA1 TB2
    go_wp2_with fail
    refine (of_any A2 n2 c2 TA _ _ TA2.out (by omega)).mono ?_
    rw [F5.out]
    rintro e w' ⟨rfl, rfl⟩
    go_wp2_with fail
    refine (of_any A3 n3 c3 TB _ _ TB1.out (by omega)).mono ?_
    rw [F6.out]
    rintro e w' ⟨rfl, rfl⟩
    go_wp2_with fail
    refine (of_any A2 n2 c2 TA _ _ TA2.out (by omega)).mono ?_
    rw [F5.out]
    rintro e w' ⟨rfl, rfl⟩
    go_wp2_with fail
    refine (known_true _).mono ?_
    rintro e w13 ⟨rfl, hb⟩
    have hb13 := hb5.trans (hb.mono hb5.size)
    clear hb hb5
    go_wp2_with fail
    go_ret
    exact ⟨rfl, hb13⟩
  · have d40 : decide ((40 : Int) < n) = true := by simp; omega
    go_enter Try.func6, Try.ntmps6
    go_wp2_with (go_at_call 7; refine (known_true _).mono ?_; rintro e w1 ⟨rfl, hb⟩)
    go_ret
    exact ⟨rfl, hb⟩
end Go.Proofs.Ytagfdgdoboncfaa
