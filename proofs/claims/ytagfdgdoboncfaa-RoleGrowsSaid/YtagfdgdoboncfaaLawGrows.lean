import Derived.Test.YtagfdgdoboncfaaGrow
import Derived.Test.YtagfdgdoboncfaaTurns
namespace Go.Proofs.Ytagfdgdoboncfaa
open Go.RowKit
set_option maxRecDepth 100000 in
set_option maxHeartbeats 4000000 in
theorem roleGrows_walk (A : Option Addr) (n c : Nat) (l : List Int) (phase site more : Int) (w : World) (hl : IntsAt w A n l) :
    Calls Try.prog 3 #[.slice A n c, .int .i64 phase, .int .i64 site, .int .i64 more] w fun e w' => e = .returned (.bool true) ∧ Below w.heap.size w w' := by
  by_cases hn : n ≤ 60
  · have d60 : decide ((60 : Int) < n) = false := by simp; omega
    have p255 := i64_and255 phase
    have p1 := i64_and1 site
    have p3 := i64_and3 more
    have q0 : 0 ≤ phase % 256 := by omega
    have q1 : phase % 256 ≤ 255 := by omega
    have q2 : 0 ≤ site % 2 := by omega
    have q3 : site % 2 ≤ 1 := by omega
    have q4 : 0 ≤ more % 4 := by omega
    have q5 : more % 4 ≤ 3 := by omega
    have HL := Lib.hid hl
    clear hl
    go_enter Try.func3, Try.ntmps3
    go_wp2_with fail
    refine (grow_any A n c l _ HL.out hn).mono ?_
    rintro e w1 ⟨B, m, d, rfl, ht, hm, hmd, hb1, ha0, ha1⟩
    obtain ⟨ts, hts⟩ : ∃ ts, (grow l).1 = ts := ⟨_, rfl⟩
    obtain ⟨at_, hat⟩ : ∃ a, (grow l).2 = a := ⟨_, rfl⟩
    rw [hts] at ht
    rw [hat] at ha0 ha1 ⊢
    clear hts hat
    have HT := Lib.hid ht
    clear ht
    go_wp2_with fail
    obtain ⟨ph, hph⟩ : ∃ a, 1 + phase % 256 % 5 = a := ⟨_, rfl⟩
    obtain ⟨si, hsi⟩ : ∃ a, 1 + site % 2 = a := ⟨_, rfl⟩
    rw [hph, hsi]
    clear hph hsi p255 p1 q0 q1 q2 q3
    refine (is_any B m d ts ph si _ HT.out (by omega)).mono ?_
    rintro e w' ⟨rfl, rfl⟩
    go_wp2_with fail
    refine (refIs_any B m d ts ph si _ HT.out (by omega)).mono ?_
    rintro e w' ⟨rfl, rfl⟩
    have he : (isPhase ph si ts == isPhase ph si ts) = true := by simp
    go_wp2_with fail
    refine (turns_true B m d ts ph si _ _ HT.out (by omega) hmd).mono ?_
    rintro e w2 ⟨rfl, hb⟩
    have hb2 := hb1.trans (hb.mono hb1.size)
    have HT2 := Lib.hid (HT.out.below hb (Nat.le_refl _))
    clear hb hb1 HT
    go_wp2_with fail
    refine (turns_true B m d ts ph si _ _ HT2.out (by omega) hmd).mono ?_
    rintro e w3 ⟨rfl, hb⟩
    have hb3 := hb2.trans (hb.mono hb2.size)
    clear hb hb2 HT2
    go_wp2_with fail
    refine (known_true _).mono ?_
    rintro e w4 ⟨rfl, hb⟩
    have hb4 := hb3.trans (hb.mono hb3.size)
    clear hb hb3
    go_wp2_with fail
    go_ret
    exact ⟨rfl, hb4⟩
  · have d60 : decide ((60 : Int) < n) = true := by simp; omega
    go_enter Try.func3, Try.ntmps3
    go_wp2_with (go_at_call 7; refine (known_true _).mono ?_; rintro e w1 ⟨rfl, hb⟩)
    go_ret
    exact ⟨rfl, hb⟩
end Go.Proofs.Ytagfdgdoboncfaa
