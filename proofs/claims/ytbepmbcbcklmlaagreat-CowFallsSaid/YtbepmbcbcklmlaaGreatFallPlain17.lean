/- CowFalls: the plain law of one act that may fall. -/
import Derived.Test.YtbepmbcbcklmlaaGreatCowFell
import Derived.Test.YtbepmbcbcklmlaaGreatCowStart
set_option linter.unusedSimpArgs false
set_option linter.unusedVariables false
set_option linter.unusedSectionVars false
namespace Go.Proofs.YtbepmbcbcklmlaaGreat
open Go.RowKit
/-- An act that is done: the power is on. -/
structure UpA (S : Str) (R : List RO) (a : A17) : Prop where
  live : Live U17 S
  calm : S.armed = false
  sim : Sim S (theirR R a)
/-- An act that fell: the power is off. -/
structure DnA (S : Str) (R : List RO) (a : A17) : Prop where
  off : S.on = false
  calm : S.armed = false
  still : Still S
  inv : CInv U17 S
  half : Half S R a
theorem fuse_off (S : Str) : fuseS S (-1) [] 0 = { S with armed := false, fuse := 0, keep := [], torn := 0 } := by
  unfold fuseS
  rw [if_neg (by omega)]
theorem fuse_seen (S : Str) (n : Int) (keep : List Int) (torn : Int) : (fuseS S n keep torn).seen = S.seen ∧ (fuseS S n keep torn).dry = S.dry ∧ (fuseS S n keep torn).late = S.late ∧ (fuseS S n keep torn).on = S.on := by
  unfold fuseS
  split <;> exact ⟨rfl, rfl, rfl, rfl⟩
theorem ours_or {S : Str} {R : List RO} {a : A17} (h : Live U17 S) (hst : Still S) (hr : Right0 R) (hh : Half S R a) (ha : Fine U17 0 a) (hn : 0 ≤ a.num ∧ a.num ≤ 3) :
    ((oursS S 0 a).1 = 0 ∧ (oursS S 0 a).2.on = true ∧ UpA (fuseS (oursS S 0 a).2 (-1) [] 0) R a) ∨
    ((oursS S 0 a).1 = 7 ∧ (oursS S 0 a).2.on = false ∧ DnA (fuseS (oursS S 0 a).2 (-1) [] 0) R a) := by
  by_cases e : (oursS S 0 a).1 = 0
  · obtain ⟨q1, q2⟩ := half_ok h hr hh (.inr ha) hn e
    refine .inl ⟨e, q1.on, q1.fuse _ _ _, by rw [fuse_off], ?_⟩
    refine ⟨q2.len, fun i o ho => ?_⟩
    have := q2.obj i o ho
    have e2 : cview (fuseS (oursS S 0 a).2 (-1) [] 0) 0 = cview (oursS S 0 a).2 0 := by unfold cview; rw [(fuse_seen _ _ _ _).1]
    rw [e2]
    exact this
  · obtain ⟨q1, q2, q3, q4, q5⟩ := half_fall h hst hr hh (.inr ha) hn e
    obtain ⟨f1, f2, f3, f4⟩ := fuse_seen (oursS S 0 a).2 (-1) [] 0
    exact .inr ⟨q1, q2, f4.trans q2, by rw [fuse_off], q3.of f2 f3 f1, q4.fuse _ _ _, half_of q5 f1⟩
theorem DnA.power {S : Str} {R : List RO} {a : A17} (h : DnA S R a) : Live U17 (powerS S) ∧ Still (powerS S) ∧ Half (powerS S) R a ∧ (powerS S).armed = false :=
  ⟨⟨h.inv.power, rfl⟩, h.still.of rfl rfl rfl, half_of h.half rfl, h.calm⟩
theorem fuse_all {S : Str} {R : List RO} {a : A17} (h : Live U17 S ∧ Still S ∧ Half S R a) (n : Int) (keep : List Int) (torn : Int) : Live U17 (fuseS S n keep torn) ∧ Still (fuseS S n keep torn) ∧ Half (fuseS S n keep torn) R a := by
  obtain ⟨f1, f2, f3, f4⟩ := fuse_seen S n keep torn
  exact ⟨h.1.fuse _ _ _, h.2.1.of f2 f3 f1, half_of h.2.2 f1⟩
theorem calm_burn {S : Str} (hon : S.on = true) (hc : S.armed = false) : (burnsS S).1 = false := by
  unfold burnsS
  simp [hon, hc]
theorem up_bar {S : Str} {R : List RO} {a : A17} (h : UpA S R a) : (barrierS S).1 = 0 ∧ Live U17 (barrierS S).2 ∧ (barrierS S).2.armed = false ∧ Still (barrierS S).2 ∧ Sim (barrierS S).2 (theirR R a) := by
  obtain ⟨b1, b2⟩ := barrier_dried h.live.on h.live.inv.coh (calm_burn h.live.on h.calm)
  have hin : stepIn U17 .bar := trivial
  obtain ⟨q1, q2, _⟩ := step_ok h.live U17_ok hin b1
  refine ⟨b1, q1, b2.armed.trans h.calm, Still.bar b2, h.sim.len, fun i o ho => ?_⟩
  have e2 : cview (barrierS S).2 0 = cview S 0 := by unfold cview; rw [b2.seen]
  rw [e2]
  exact h.sim.obj i o ho
theorem still_new (room : Int) : Still (newS room) := fun k => ⟨rfl, rfl, rfl⟩
theorem mild_num (a : A17) : 0 ≤ a.mild.num ∧ a.mild.num ≤ 3 := by
  show 0 ≤ a.num % 4 ∧ a.num % 4 ≤ 3
  omega
theorem sim_fuse {S : Str} {R : List RO} (h : Sim S R) (n : Int) (keep : List Int) (torn : Int) : Sim (fuseS S n keep torn) R := ⟨h.len, fun i o ho => by
  have e2 : cview (fuseS S n keep torn) 0 = cview S 0 := by unfold cview; rw [(fuse_seen _ _ _ _).1]
  rw [e2]
  exact h.obj i o ho⟩
end Go.Proofs.YtbepmbcbcklmlaaGreat
