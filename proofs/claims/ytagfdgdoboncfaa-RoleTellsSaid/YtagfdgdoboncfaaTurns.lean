import Derived.Test.YtagfdgdoboncfaaRefTurn
import Derived.Test.YtagfdgdoboncfaaKnown
import Derived.Test.YtagfdgdoboncfaaIs
namespace Go.Proofs.Ytagfdgdoboncfaa
open Go.RowKit
theorem sameB_self : ∀ l : List Tag, sameB l l = true
  | [] => rfl
  | a :: l => by simp [sameB, Tag.same, sameB_self l]
set_option maxRecDepth 100000 in
set_option maxHeartbeats 4000000 in
theorem turns_true (A : Option Addr) (n c : Nat) (l : List Tag) (phase site to : Int) (w : World) (hl : TagsAt w A n l) (hn : n ≤ 1000000) (hc : n ≤ c) :
    Calls Try.prog 11 #[.int .i64 phase, .int .i64 site, .slice A n c, .int .i64 to] w fun e w' => e = .returned (.bool true) ∧ Below w.heap.size w w' := by
  obtain ⟨rp, hrp⟩ : ∃ r, promoteTags phase site l to = r := ⟨_, rfl⟩
  obtain ⟨rf, hrf⟩ : ∃ r, forceTags phase site l to = r := ⟨_, rfl⟩
  obtain ⟨rd, hrd⟩ : ∃ r, demoteTags phase site l to = r := ⟨_, rfl⟩
  have HRP := Lib.hid hrp
  have HRF := Lib.hid hrf
  have HRD := Lib.hid hrd
  have HL := Lib.hid hl
  clear hrp hrf hrd hl
  go_enter Try.func11, Try.ntmps11
  go_wp2_with fail
  refine (promote_any A n c l phase site to _ HL.out hn hc).mono ?_
  rw [HRP.out]
  rintro e w1 ⟨A1, n1, c1, rfl, t1, k1, m1, hb1⟩
  have T1 := Lib.hid t1
  clear t1
  go_wp2_with fail
  refine (refPromote_any A n c l phase site to _ (HL.out.below hb1 (Nat.le_refl _)) hn).mono ?_
  rw [HRP.out]
  rintro e w2 ⟨A2, n2, c2, rfl, t2, k2, m2, hb⟩
  have hb2 := hb1.trans (hb.mono hb1.size)
  have T1' := Lib.hid (T1.out.below hb (Nat.le_refl _))
  have T2 := Lib.hid t2
  clear t2 hb1 hb T1
  go_wp2_with fail
  refine (force_any A n c l phase site to _ (HL.out.below hb2 (Nat.le_refl _)) hn hc).mono ?_
  rw [HRF.out]
  rintro e w3 ⟨A3, n3, c3, rfl, t3, k3, m3, hb⟩
  have hb3 := hb2.trans (hb.mono hb2.size)
  have T1 := Lib.hid (T1'.out.below hb (Nat.le_refl _))
  have T2' := Lib.hid (T2.out.below hb (Nat.le_refl _))
  have T3 := Lib.hid t3
  clear t3 hb2 hb T1' T2
  go_wp2_with fail
  refine (refForce_any A n c l phase site to _ (HL.out.below hb3 (Nat.le_refl _)) hn).mono ?_
  rw [HRF.out]
  rintro e w4 ⟨A4, n4, c4, rfl, t4, k4, m4, hb⟩
  have hb4 := hb3.trans (hb.mono hb3.size)
  have T1' := Lib.hid (T1.out.below hb (Nat.le_refl _))
  have T2 := Lib.hid (T2'.out.below hb (Nat.le_refl _))
  have T3' := Lib.hid (T3.out.below hb (Nat.le_refl _))
  have T4 := Lib.hid t4
  clear t4 hb3 hb T1 T2' T3
  go_wp2_with fail
  refine (demote_any A n c l phase site to _ (HL.out.below hb4 (Nat.le_refl _)) hn hc).mono ?_
  rw [HRD.out]
  rintro e w5 ⟨A5, n5, c5, rfl, t5, k5, m5, hb⟩
  have hb5 := hb4.trans (hb.mono hb4.size)
  have T1 := Lib.hid (T1'.out.below hb (Nat.le_refl _))
  have T2' := Lib.hid (T2.out.below hb (Nat.le_refl _))
  have T3 := Lib.hid (T3'.out.below hb (Nat.le_refl _))
  have T4' := Lib.hid (T4.out.below hb (Nat.le_refl _))
  have T5 := Lib.hid t5
  clear t5 hb4 hb T1' T2 T3' T4
  go_wp2_with fail
  refine (refDemote_any A n c l phase site to _ (HL.out.below hb5 (Nat.le_refl _)) hn).mono ?_
  rw [HRD.out]
  rintro e w6 ⟨A6, n6, c6, rfl, t6, k6, m6, hb⟩
  have hb6 := hb5.trans (hb.mono hb5.size)
  have T1' := Lib.hid (T1.out.below hb (Nat.le_refl _))
  have T2 := Lib.hid (T2'.out.below hb (Nat.le_refl _))
  have T3' := Lib.hid (T3.out.below hb (Nat.le_refl _))
  have T4 := Lib.hid (T4'.out.below hb (Nat.le_refl _))
  have T5' := Lib.hid (T5.out.below hb (Nat.le_refl _))
  have T6 := Lib.hid t6
  clear t6 hb5 hb T1 T2' T3 T4' T5
  have se1 : (rp.2 == rp.2) = true := by simp
  have se2 : (rf.2 == rf.2) = true := by simp
  have se3 : (rd.2 == rd.2) = true := by simp
  go_wp2_with fail
  refine (sameTags_any A1 A2 n1 c1 n2 c2 rp.1 rp.1 _ T1'.out T2.out (by omega) (by omega)).mono ?_
  rw [sameB_self]
  rintro e w7 ⟨rfl, hb⟩
  have hb7 := hb6.trans (hb.mono hb6.size)
  have T3 := Lib.hid (T3'.out.below hb (Nat.le_refl _))
  have T4' := Lib.hid (T4.out.below hb (Nat.le_refl _))
  have T5 := Lib.hid (T5'.out.below hb (Nat.le_refl _))
  have T6' := Lib.hid (T6.out.below hb (Nat.le_refl _))
  clear hb hb6 T3' T4 T5' T6
  go_wp2_with fail
  refine (sameTags_any A3 A4 n3 c3 n4 c4 rf.1 rf.1 _ T3.out T4'.out (by omega) (by omega)).mono ?_
  rw [sameB_self]
  rintro e w8 ⟨rfl, hb⟩
  have hb8 := hb7.trans (hb.mono hb7.size)
  have T5' := Lib.hid (T5.out.below hb (Nat.le_refl _))
  have T6 := Lib.hid (T6'.out.below hb (Nat.le_refl _))
  clear hb hb7 T5 T6'
  go_wp2_with fail
  refine (sameTags_any A5 A6 n5 c5 n6 c6 rd.1 rd.1 _ T5'.out T6.out (by omega) (by omega)).mono ?_
  rw [sameB_self]
  rintro e w9 ⟨rfl, hb⟩
  have hb9 := hb8.trans (hb.mono hb8.size)
  go_wp2_with fail
  go_ret
  exact ⟨rfl, hb9⟩
end Go.Proofs.Ytagfdgdoboncfaa
