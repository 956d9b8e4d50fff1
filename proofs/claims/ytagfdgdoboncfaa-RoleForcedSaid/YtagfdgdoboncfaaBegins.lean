import Derived.Test.YtagfdgdoboncfaaAlike
namespace Go.Proofs.Ytagfdgdoboncfaa
open Go.RowKit
set_option maxHeartbeats 2000000 in
theorem begins_judge (A B : Option Addr) (n c m d : Nat) (l r : List Tag) (ae be : Int) (w : World) (hl : TagsAt w A n l) (hr : TagsAt w B m r) (hn : n ≤ 1000000) :
    Calls Try.prog 22 #[.slice A n c, .int .i64 ae, .slice B m d, .int .i64 be] w fun e w' => e = .returned (.bool (beginsB l ae r be)) ∧ Below w.heap.size w w' := by
  obtain ⟨k, hk⟩ : ∃ k, alikeN l r = k := ⟨_, rfl⟩
  have hle := alikeN_le l r
  rw [hl.1, hr.1, hk] at hle
  obtain ⟨le1, le2⟩ := hle
  have HK := Lib.hid hk
  by_cases h1 : k < n
  · have hv : beginsB l ae r be = false := by rw [beginsB, hk, hl.1, if_pos h1]
    rw [hv]
    have q1' : decide (k < n) = true := by simpa using h1
    clear hk hv
    go_enter Try.func22, Try.ntmps22
    go_wp2_with fail
    refine (alike_any A B n c m d l r _ hl hr hn).mono ?_
    rw [HK.out]
    rintro e w1 ⟨rfl, hb⟩
    go_wp2_with fail
    go_ret
    exact ⟨rfl, hb⟩
  · have q1' : decide (k < n) = false := by simpa using h1
    by_cases h2 : k < m
    · obtain ⟨b, off, x, rfl, hB, hx, c0, c1, c2, c3⟩ := hr.at_ h2
      have hv : beginsB l ae r be = decide (ae ≤ x.at_) := by rw [beginsB, hk, hl.1, if_neg h1, atOf_some hx]
      rw [hv]
      have q2' : decide (k < m) = true := by simpa using h2
      have i0 : (0 : Int) ≤ k := by omega
      have i1 : (k : Int) < m := by omega
      clear hk hv hx
      go_enter Try.func22, Try.ntmps22
      go_wp2_with fail
      refine (alike_any A _ n c m d l r _ hl hr hn).mono ?_
      rw [HK.out]
      rintro e w1 ⟨rfl, hb⟩
      have c3' := (hb.cell (p := ⟨b, off + k * 4 + 3, none⟩) hB).trans c3
      go_wp2_with fail
      go_ret
      exact ⟨rfl, hb⟩
    · have hv : beginsB l ae r be = decide (ae ≤ be) := by rw [beginsB, hk, hl.1, if_neg h1, atOf_none (by rw [hr.1]; omega)]
      rw [hv]
      have q2' : decide (k < m) = false := by simpa using h2
      clear hk hv
      go_enter Try.func22, Try.ntmps22
      go_wp2_with fail
      refine (alike_any A B n c m d l r _ hl hr hn).mono ?_
      rw [HK.out]
      rintro e w1 ⟨rfl, hb⟩
      go_wp2_with fail
      go_ret
      exact ⟨rfl, hb⟩

set_option maxHeartbeats 2000000 in
theorem compare_any (A B : Option Addr) (n c m d : Nat) (l r : List Tag) (ae be : Int) (w : World) (hl : TagsAt w A n l) (hr : TagsAt w B m r) (hn : n ≤ 1000000) (hm : m ≤ 1000000) :
    Calls Try.prog 23 #[.slice A n c, .int .i64 ae, .slice B m d, .int .i64 be] w fun e w' => e = .returned (.int .i64 (compareN l ae r be)) ∧ Below w.heap.size w w' := by
  cases hx : beginsB l ae r be <;> cases hy : beginsB r be l ae
  all_goals
    have hv : ∃ v, compareN l ae r be = v := ⟨_, rfl⟩
    have hv' : compareN l ae r be = compareN l ae r be := rfl
    conv at hv' => rhs; rw [compareN, hx, hy]
    simp only [Bool.and_self, Bool.and_true, Bool.and_false, Bool.false_eq_true, if_true, if_false] at hv'
    rw [hv']
    have HX := Lib.hid hx
    have HY := Lib.hid hy
    clear hx hy hv hv'
    go_enter Try.func23, Try.ntmps23
    go_wp2_with fail
    refine (begins_judge A B n c m d l r ae be _ hl hr hn).mono ?_
    rw [HX.out]
    rintro e w1 ⟨rfl, hb⟩
    go_wp2_with fail
    refine (begins_judge B A m d n c r l be ae _ (hr.below hb (Nat.le_refl _)) (hl.below hb (Nat.le_refl _)) hm).mono ?_
    rw [HY.out]
    rintro e w2 ⟨rfl, hb2⟩
    go_wp2_with fail
    go_ret
    exact ⟨rfl, hb.trans (hb2.mono hb.size)⟩

set_option maxHeartbeats 2000000 in
theorem of_any (A : Option Addr) (n c : Nat) (l : List Tag) (seq : Int) (w : World) (hl : TagsAt w A n l) (hn : n ≤ 1000000) :
    Calls Try.prog 25 #[.slice A n c, .int .i64 seq] w fun e w' => e = .returned (.int .i64 (ofN l seq)) ∧ w = w' := by
  go_enter Try.func25, Try.ntmps25
  go_wp2
  go_loop [5] (fun v5 => ∃ k : Nat, k ≤ n ∧ v5 = .int .i64 ((k : Int) - 1) ∧ ofN l seq = ofUpto l seq k) (fun v5 => (intOf v5 + 1).toNat)
  case atStart => exact ⟨n, Nat.le_refl _, rfl, by rw [ofN, hl.1]⟩
  case round =>
    obtain ⟨k, hk, rfl, ho⟩ := hrel
    have HO := Lib.hid ho
    clear ho
    rcases Nat.eq_zero_or_pos k with h0 | h0
    · subst h0
      go_wp2
      go_ret
      exact ⟨ret_int (by rw [HO.out]; rfl), rfl⟩
    · obtain ⟨j, rfl⟩ : ∃ j, k = j + 1 := ⟨k - 1, by omega⟩
      obtain ⟨b, off, x, rfl, hB, hx, c0, c1, c2, c3⟩ := hl.at_ (k := j) (by omega)
      have HX := Lib.hid hx
      clear hx
      by_cases hlt : x.at_ < seq
      · have HV : Hid (ofN l seq = x.id) := by rw [HO.out, ofUpto, HX.out]; exact if_pos hlt
        go_wp2
        go_ret
        exact ⟨ret_int HV.out.symm, rfl⟩
      · have HV : Hid (ofN l seq = ofUpto l seq j) := by rw [HO.out, ofUpto, HX.out]; exact if_neg hlt
        go_wp2
        go_round
        case rel => exact ⟨j, by omega, rfl, HV.out⟩
        case measure => simp [intOf]

set_option maxHeartbeats 4000000 in
theorem fork_any (A B : Option Addr) (n c m d : Nat) (l r : List Tag) (ae be : Int) (w : World) (hl : TagsAt w A n l) (hr : TagsAt w B m r) (hn : n ≤ 1000000) :
    Calls Try.prog 24 #[.slice A n c, .int .i64 ae, .slice B m d, .int .i64 be] w fun e w' => e = .returned (.int .i64 (forkN l ae r be)) ∧ Below w.heap.size w w' := by
  obtain ⟨k, hk⟩ : ∃ k, alikeN l r = k := ⟨_, rfl⟩
  have hle := alikeN_le l r
  rw [hl.1, hr.1, hk] at hle
  obtain ⟨le1, le2⟩ := hle
  have HK := Lib.hid hk
  have i0 : (0 : Int) ≤ k := by omega
  have hv : forkN l ae r be = max (lowAt r k (lowAt l k (min ae be))) 0 := by rw [forkN_low, hk]
  clear hk
  by_cases h1 : k < n
  · obtain ⟨b, off, x, rfl, hB, hx, _, _, _, c3⟩ := hl.at_ h1
    have q1' : decide (k < n) = true := by simpa using h1
    have i1 : (k : Int) < n := by omega
    rw [lowAt_some hx] at hv
    clear hx
    by_cases h2 : k < m
    · obtain ⟨b', off', y, rfl, hB', hy, _, _, _, d3⟩ := hr.at_ h2
      have q2' : decide (k < m) = true := by simpa using h2
      have i2 : (k : Int) < m := by omega
      rw [lowAt_some hy] at hv
      have HV := Lib.hid hv
      clear hy hv
      go_enter Try.func24, Try.ntmps24
      go_wp2_with fail
      refine (alike_any _ _ n c m d l r _ hl hr hn).mono ?_
      rw [HK.out]
      rintro e w1 ⟨rfl, hb⟩
      have c3' := (hb.cell (p := ⟨b, off + k * 4 + 3, none⟩) hB).trans c3
      have d3' := (hb.cell (p := ⟨b', off' + k * 4 + 3, none⟩) hB').trans d3
      go_wp2_with fail
      all_goals
        go_ret
        exact ⟨ret_int (by rw [HV.out]; omega), hb⟩
    · have q2' : decide (k < m) = false := by simpa using h2
      rw [lowAt_none (by rw [hr.1]; omega)] at hv
      have HV := Lib.hid hv
      clear hv
      go_enter Try.func24, Try.ntmps24
      go_wp2_with fail
      refine (alike_any _ _ n c m d l r _ hl hr hn).mono ?_
      rw [HK.out]
      rintro e w1 ⟨rfl, hb⟩
      have c3' := (hb.cell (p := ⟨b, off + k * 4 + 3, none⟩) hB).trans c3
      go_wp2_with fail
      all_goals
        go_ret
        exact ⟨ret_int (by rw [HV.out]; omega), hb⟩
  · have q1' : decide (k < n) = false := by simpa using h1
    rw [lowAt_none (l := l) (by rw [hl.1]; omega)] at hv
    by_cases h2 : k < m
    · obtain ⟨b', off', y, rfl, hB', hy, _, _, _, d3⟩ := hr.at_ h2
      have q2' : decide (k < m) = true := by simpa using h2
      have i2 : (k : Int) < m := by omega
      rw [lowAt_some hy] at hv
      have HV := Lib.hid hv
      clear hy hv
      go_enter Try.func24, Try.ntmps24
      go_wp2_with fail
      refine (alike_any _ _ n c m d l r _ hl hr hn).mono ?_
      rw [HK.out]
      rintro e w1 ⟨rfl, hb⟩
      have d3' := (hb.cell (p := ⟨b', off' + k * 4 + 3, none⟩) hB').trans d3
      go_wp2_with fail
      all_goals
        go_ret
        exact ⟨ret_int (by rw [HV.out]; omega), hb⟩
    · have q2' : decide (k < m) = false := by simpa using h2
      rw [lowAt_none (by rw [hr.1]; omega)] at hv
      have HV := Lib.hid hv
      clear hv
      go_enter Try.func24, Try.ntmps24
      go_wp2_with fail
      refine (alike_any _ _ n c m d l r _ hl hr hn).mono ?_
      rw [HK.out]
      rintro e w1 ⟨rfl, hb⟩
      go_wp2_with fail
      all_goals
        go_ret
        exact ⟨ret_int (by rw [HV.out]; omega), hb⟩
end Go.Proofs.Ytagfdgdoboncfaa
