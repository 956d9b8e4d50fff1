import Derived.Test.YtagfdgdoboncfaaGrow
import Derived.Test.YtagfdgdoboncfaaTurns
import Derived.Test.YtagfdgdoboncfaaBegins
import Derived.Test.YtagfdgdoboncfaaTurnLaw
namespace Go.Proofs.Ytagfdgdoboncfaa
open Go.RowKit
set_option maxRecDepth 100000 in
set_option maxHeartbeats 8000000 in
theorem roleTurns_walk (A : Option Addr) (n c : Nat) (l : List Int) (site other : Int) (w : World) (hl : IntsAt w A n l) :
    Calls Try.prog 5 #[.slice A n c, .int .i64 site, .int .i64 other] w fun e w' => e = .returned (.bool true) ∧ Below w.heap.size w w' := by
  by_cases hn : n ≤ 40
  · have d40 : decide ((40 : Int) < n) = false := by simp; omega
    have p1 := i64_and1 site
    have p2 := i64_and65535 other
    have q2 : 0 ≤ site % 2 := by omega
    have q3 : site % 2 ≤ 1 := by omega
    have q4 : 0 ≤ other % 65536 := by omega
    have q5 : other % 65536 ≤ 65535 := by omega
    have hg := grow_Good l (by rw [hl.1]; omega)
    have HGood := Lib.hid hg
    have HL := Lib.hid hl
    clear hl hg
    go_enter Try.func5, Try.ntmps5
    go_wp2_with fail
    refine (grow_any A n c l _ HL.out (by omega)).mono ?_
    rintro e w1 ⟨B, m, d, rfl, ht, hm, hmd, hb1, ha0, ha1⟩
    obtain ⟨ts, hts⟩ : ∃ ts, (grow l).1 = ts := ⟨_, rfl⟩
    obtain ⟨at_, hat⟩ : ∃ a, (grow l).2 = a := ⟨_, rfl⟩
    rw [hts] at ht
    rw [hat] at ha0 ha1 ⊢
    have HGD : Hid (Good ts at_ ∧ ts.length ≤ 20) := by rw [← hts, ← hat]; exact HGood.out
    clear hts hat HGood
    have HT := Lib.hid ht
    clear ht
    go_wp2_with fail
    obtain ⟨TA, TB, TC, f1, f2, f3, f4, f5, f6, f7, f8, f9, f10, f11, f12, f13, f14, f15, f16, f17⟩ := turns_facts HGD.out.1 HGD.out.2 (site := 1 + site % 2) (x := other % 65536) (by omega) ha1 ⟨q4, q5⟩
    obtain ⟨si, hsi⟩ : ∃ a, 1 + site % 2 = a := ⟨_, rfl⟩
    rw [hsi] at f1 f2 f3 f4 f5 f6 f7 f8 f9 f10 f11 f16 f17 ⊢
    have F1 := Lib.hid f1
    have F2 := Lib.hid f2
    have F3 := Lib.hid f3
    have F4 := Lib.hid f4
    have F5 := Lib.hid f5
    have F6 := Lib.hid f6
    have F7 := Lib.hid f7
    have F8 := Lib.hid f8
    have F9 := Lib.hid f9
    have F10 := Lib.hid f10
    have F11 := Lib.hid f11
    have F12 := Lib.hid f12
    have F13 := Lib.hid f13
    have F14 := Lib.hid f14
    have F15 := Lib.hid f15
    have F16 := Lib.hid f16
    have F17 := Lib.hid f17
    clear f1 f2 f3 f4 f5 f6 f7 f8 f9 f10 f11 f12 f13 f14 f15 f16 f17 hsi p1 q2 q3 HGD
    refine (peer_any si _).mono ?_
    rintro e w' ⟨rfl, rfl⟩
    obtain ⟨pe, hpe⟩ : ∃ a, peerOf si = a := ⟨_, rfl⟩
    rw [hpe] at F3 F4 F6 F7 F9 ⊢
    clear hpe
    go_wp2_with fail
    refine (demote_any B m d ts 1 si at_ _ HT.out (by omega) hmd).mono ?_
    rw [F1.out]
    rintro e w2 ⟨A2, n2, c2, rfl, t2, k2, m2, hb⟩
    have hb2 := hb1.trans (hb.mono hb1.size)
    have HT' := Lib.hid (HT.out.below hb (Nat.le_refl _))
    have TA1 := Lib.hid t2
    clear t2 hb1 hb HT
    go_wp2_with fail
    refine (is_any A2 n2 c2 TA 1 si _ TA1.out (by omega)).mono ?_
    rw [F2.out]
    rintro e w' ⟨rfl, rfl⟩
    go_wp2_with fail
    refine (is_any A2 n2 c2 TA 3 pe _ TA1.out (by omega)).mono ?_
    rw [F3.out]
    rintro e w' ⟨rfl, rfl⟩
    go_wp2_with fail
    refine (promote_any A2 n2 c2 TA 3 pe at_ _ TA1.out (by omega) m2).mono ?_
    rw [F4.out]
    rintro e w3 ⟨A3, n3, c3, rfl, t3, k3, m3, hb⟩
    have hb3 := hb2.trans (hb.mono hb2.size)
    have HT := Lib.hid (HT'.out.below hb (Nat.le_refl _))
    have TA2 := Lib.hid (TA1.out.below hb (Nat.le_refl _))
    have TB1 := Lib.hid t3
    clear t3 hb2 hb HT' TA1
    go_wp2_with fail
    refine (promote_any A2 n2 c2 TA 3 si at_ _ TA2.out (by omega) m2).mono ?_
    rw [F5.out]
    rintro e w4 ⟨A4, n4, c4, rfl, _, _, _, hb⟩
    have hb4 := hb3.trans (hb.mono hb3.size)
    have HT' := Lib.hid (HT.out.below hb (Nat.le_refl _))
    have TA1 := Lib.hid (TA2.out.below hb (Nat.le_refl _))
    have TB2 := Lib.hid (TB1.out.below hb (Nat.le_refl _))
    clear hb3 hb HT TA2 TB1
    go_wp2_with fail
    refine (promote_any A2 n2 c2 TA 3 pe (at_ + 1 + other % 65536) _ TA1.out (by omega) m2).mono ?_
    rw [F6.out]
    rintro e w5 ⟨A5, n5, c5, rfl, _, _, _, hb⟩
    have hb5 := hb4.trans (hb.mono hb4.size)
    have HT := Lib.hid (HT'.out.below hb (Nat.le_refl _))
    have TA2 := Lib.hid (TA1.out.below hb (Nat.le_refl _))
    have TB1 := Lib.hid (TB2.out.below hb (Nat.le_refl _))
    clear hb4 hb HT' TA1 TB2
    go_wp2_with fail
    refine (is_any A3 n3 c3 TB 3 pe _ TB1.out (by omega)).mono ?_
    rw [F7.out]
    rintro e w' ⟨rfl, rfl⟩
    go_wp2_with fail
    refine (is_any A3 n3 c3 TB 1 si _ TB1.out (by omega)).mono ?_
    rw [F8.out]
    rintro e w' ⟨rfl, rfl⟩
    go_wp2_with fail
    refine (promote_any A3 n3 c3 TB 3 pe at_ _ TB1.out (by omega) m3).mono ?_
    rw [F9.out]
    rintro e w6 ⟨A6, n6, c6, rfl, _, _, _, hb⟩
    have hb6 := hb5.trans (hb.mono hb5.size)
    have HT' := Lib.hid (HT.out.below hb (Nat.le_refl _))
    have TA1 := Lib.hid (TA2.out.below hb (Nat.le_refl _))
    have TB2 := Lib.hid (TB1.out.below hb (Nat.le_refl _))
    clear hb5 hb HT TA2 TB1
    go_wp2_with fail
    refine (promote_any A3 n3 c3 TB 3 si at_ _ TB2.out (by omega) m3).mono ?_
    rw [F10.out]
    rintro e w7 ⟨A7, n7, c7, rfl, _, _, _, hb⟩
    have hb7 := hb6.trans (hb.mono hb6.size)
    have HT := Lib.hid (HT'.out.below hb (Nat.le_refl _))
    have TA2 := Lib.hid (TA1.out.below hb (Nat.le_refl _))
    have TB1 := Lib.hid (TB2.out.below hb (Nat.le_refl _))
    clear hb6 hb HT' TA1 TB2
    go_wp2_with fail
    refine (force_any A3 n3 c3 TB 3 si at_ _ TB1.out (by omega) m3).mono ?_
    rw [F11.out]
    rintro e w8 ⟨A8, n8, c8, rfl, t8, k8, m8, hb⟩
    have hb8 := hb7.trans (hb.mono hb7.size)
    have HT' := Lib.hid (HT.out.below hb (Nat.le_refl _))
    have TA1 := Lib.hid (TA2.out.below hb (Nat.le_refl _))
    have TB2 := Lib.hid (TB1.out.below hb (Nat.le_refl _))
    have TC1 := Lib.hid t8
    clear t8 hb7 hb HT TA2 TB1
    go_wp2_with fail
    refine (right_any A8 n8 c8 TC _ TC1.out (by omega) m8).mono ?_
    rw [F12.out]
    rintro e w9 ⟨rfl, hb⟩
    have hb9 := hb8.trans (hb.mono hb8.size)
    have HT := Lib.hid (HT'.out.below hb (Nat.le_refl _))
    have TA2 := Lib.hid (TA1.out.below hb (Nat.le_refl _))
    have TB1 := Lib.hid (TB2.out.below hb (Nat.le_refl _))
    have TC2 := Lib.hid (TC1.out.below hb (Nat.le_refl _))
    clear hb8 hb HT' TA1 TB2 TC1
    go_wp2_with fail
    refine (begins_judge B A2 m d n2 c2 ts TA at_ at_ _ HT.out TA2.out (by omega)).mono ?_
    rw [F13.out]
    rintro e w10 ⟨rfl, hb⟩
    have hb10 := hb9.trans (hb.mono hb9.size)
    have TA1 := Lib.hid (TA2.out.below hb (Nat.le_refl _))
    have TB2 := Lib.hid (TB1.out.below hb (Nat.le_refl _))
    have TC1 := Lib.hid (TC2.out.below hb (Nat.le_refl _))
    clear hb9 hb HT TA2 TB1 TC2
    go_wp2_with fail
    refine (begins_judge A2 A3 n2 c2 n3 c3 TA TB at_ at_ _ TA1.out TB2.out (by omega)).mono ?_
    rw [F14.out]
    rintro e w11 ⟨rfl, hb⟩
    have hb11 := hb10.trans (hb.mono hb10.size)
    have TB1 := Lib.hid (TB2.out.below hb (Nat.le_refl _))
    have TC2 := Lib.hid (TC1.out.below hb (Nat.le_refl _))
    clear hb10 hb TA1 TB2 TC1
    go_wp2_with fail
    refine (begins_judge A3 A8 n3 c3 n8 c8 TB TC at_ at_ _ TB1.out TC2.out (by omega)).mono ?_
    rw [F15.out]
    rintro e w12 ⟨rfl, hb⟩
    have hb12 := hb11.trans (hb.mono hb11.size)
    have TC1 := Lib.hid (TC2.out.below hb (Nat.le_refl _))
    clear hb11 hb TB1 TC2
    go_wp2_with fail
    refine (is_any A8 n8 c8 TC 5 si _ TC1.out (by omega)).mono ?_
    rw [F16.out]
    rintro e w' ⟨rfl, rfl⟩
    go_wp2_with fail
    refine (is_any A8 n8 c8 TC 2 si _ TC1.out (by omega)).mono ?_
    rw [F17.out]
    rintro e w' ⟨rfl, rfl⟩
    go_wp2_with fail
    refine (known_true _).mono ?_
    rintro e w13 ⟨rfl, hb⟩
    have hb13 := hb12.trans (hb.mono hb12.size)
    clear hb hb12
    go_wp2_with fail
    go_ret
    exact ⟨rfl, hb13⟩
  · have d40 : decide ((40 : Int) < n) = true := by simp; omega
    go_enter Try.func5, Try.ntmps5
    go_wp2_with (go_at_call 7; refine (known_true _).mono ?_; rintro e w1 ⟨rfl, hb⟩)
    go_ret
    exact ⟨rfl, hb⟩
end Go.Proofs.Ytagfdgdoboncfaa
