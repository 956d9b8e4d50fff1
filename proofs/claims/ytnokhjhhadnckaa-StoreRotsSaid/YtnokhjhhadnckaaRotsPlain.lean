/- A byte that is turned. No program in sight. -/
import Derived.Test.YtnokhjhhadnckaaRot
import Derived.Test.YtnokhjhhadnckaaView
import Derived.Test.YtnokhjhhadnckaaKeepsPlain
set_option linter.unusedSimpArgs false
set_option linter.unusedVariables false
set_option linter.unusedSectionVars false
namespace Go.Proofs.Ytnokhjhhadnckaa
open Go.RowKit
def r2K : K4 := ⟨2, 0, 0, 0⟩
def r3K : K4 := ⟨3, 0, 0, 0⟩
structure RI (S : Str) (b : List Int) : Prop where
  on : S.on = true
  wet : S.wet = 0
  seen : get r2K S.seen = some ⟨b, []⟩
  dry : get r2K S.dry = some ⟨b, []⟩
  none3 : get r3K S.seen = none
def rot0 : Str := (makeS (newS 1000) r2K).2
theorem rot0_make : (makeS (newS 1000) r2K).1 = 0 := by kernel_rfl
theorem rot0_seen : rot0.seen = [(r2K, ⟨[], []⟩)] := by kernel_rfl
theorem rot0_on : rot0.on = true := by kernel_rfl
theorem rot0_armed : rot0.armed = false := by kernel_rfl
theorem rot0_room : roomS rot0 = 1000 := by kernel_rfl
theorem rot0_dry : rot0.dry = [] := by kernel_rfl
theorem rot0_late : rot0.late = [(r2K, [madeD])] := by kernel_rfl
theorem rot0_coh : Coh rot0 := fun k => by
  unfold lateAt
  rw [rot0_seen, rot0_late, rot0_dry]
  by_cases h : k = r2K
  · subst h; rfl
  · simp [get, h]
theorem layB_zero (p : List Int) : layB [] 0 p = p := by
  have := layB_end [] p
  simpa using this
theorem rot_ready (p : List Int) (h : p.length ≤ 200) : ∃ S1 S2, appendS rot0 r2K p = (0, S1) ∧ barrierS S1 = (0, S2) ∧ RI S2 p := by
  have hg : get r2K rot0.seen = some ⟨[], []⟩ := by rw [rot0_seen]; rfl
  have hm : mayS rot0 r2K = 0 := by simp [mayS, rot0_on]; decide
  have hw : whyS rot0 r2K = 0 := by simp [whyS, hm, hg]
  have hww : writeWhy rot0 ⟨[], []⟩ 0 p = 0 := by
    unfold writeWhy
    rw [if_neg (by omega), if_neg (by rw [rot0_room]; simp only [List.length_nil]; omega)]
  have ha : appendS rot0 r2K p = writeS rot0 r2K 0 p := by simp [appendS, hg]
  have hb : (burnsS rot0).1 = false := by simp [burnsS, rot0_armed]
  obtain ⟨h1, hd⟩ := do_done (k := r2K) (d := wroteD 0 p) hb
  have hc := hd.coh rot0_coh
  have hon : (doS rot0 r2K (wroteD 0 p)).2.on = true := by rw [hd.on, rot0_on]
  have har : (doS rot0 r2K (wroteD 0 p)).2.armed = false := by rw [hd.armed, rot0_armed]
  have hb2 : (burnsS (doS rot0 r2K (wroteD 0 p)).2).1 = false := by simp [burnsS, har]
  obtain ⟨h2, hr⟩ := barrier_dried hon hc hb2
  refine ⟨(doS rot0 r2K (wroteD 0 p)).2, (barrierS (doS rot0 r2K (wroteD 0 p)).2).2, by rw [ha, writeS_ok hw hg hww, h1]; rfl, Prod.ext h2 rfl, ?_⟩
  have hs : get r2K (doS rot0 r2K (wroteD 0 p)).2.seen = some ⟨p, []⟩ := by
    rw [hd.seen, if_pos rfl, hg]
    show some (⟨layB [] 0 p, []⟩ : TS) = _
    rw [layB_zero]
  refine ⟨by rw [hr.on, hon], hr.wet, by rw [hr.seen, hs], by rw [hr.dry, hs], ?_⟩
  rw [hr.seen, hd.seen, if_neg (by decide), rot0_seen]
  decide
theorem xorAt_length (b : List Int) (i : Nat) (x : Int) : (xorAt b i x).length = b.length := by simp [xorAt]
theorem RI.rot {S : Str} {b : List Int} (h : RI S b) (i : Nat) (x : Int) (hi : i < b.length) : ∃ S', rotS S r2K i x = (true, S') ∧ RI S' (xorAt b i x) := by
  refine ⟨_, by
    unfold rotS
    rw [if_neg (by simp [h.on]), h.seen, h.dry]
    simp only
    rw [if_neg (by omega), if_pos (by omega)], ?_⟩
  exact ⟨h.on, h.wet, by simp [get_put_same], by simp [get_put_same], by
    show get r3K (put r2K _ S.seen) = none
    rw [get_put_ne (by decide)]; exact h.none3⟩
theorem xorB_bits (a x : Int) : xorB a x = ((BitVec.ofInt 8 a ^^^ BitVec.ofInt 8 x).toNat : Nat) := by
  show IntKind.u8.wrap ((BitVec.ofInt 8 a ^^^ BitVec.ofInt 8 x).toNat : Nat) = _
  have h := (BitVec.ofInt 8 a ^^^ BitVec.ofInt 8 x).isLt
  rw [IntKind.wrap_u8]
  omega
theorem xor_twice {a x : Int} (h0 : 0 ≤ a) (h1 : a < 256) : xorB (xorB a x) x = a := by
  rw [xorB_bits (xorB a x) x, xorB_bits a x]
  have e : BitVec.ofInt 8 (((BitVec.ofInt 8 a ^^^ BitVec.ofInt 8 x).toNat : Nat) : Int) = BitVec.ofInt 8 a ^^^ BitVec.ofInt 8 x := by
    rw [BitVec.ofInt_natCast, BitVec.ofNat_toNat, BitVec.setWidth_eq]
  rw [e, BitVec.xor_assoc, BitVec.xor_self, BitVec.xor_zero, BitVec.toNat_ofInt]
  omega
theorem xorAt_twice {b : List Int} {i : Nat} {x : Int} (hb : ∀ a ∈ b, 0 ≤ a ∧ a < 256) : xorAt (xorAt b i x) i x = b := by
  unfold xorAt
  by_cases hi : i < b.length
  · have h1 : (b.set i (xorB (b.getD i 0) x)).getD i 0 = xorB (b.getD i 0) x := by simp [List.getD, hi]
    have h2 : b.getD i 0 = b[i] := by simp [List.getD, hi]
    have h3 := hb _ (List.getElem_mem hi)
    rw [h1, List.set_set, h2, xor_twice h3.1 h3.2, List.set_getElem_self]
  · rw [List.set_eq_of_length_le (by simp; omega), List.set_eq_of_length_le (by omega)]
theorem xorAt_get (b : List Int) (i j : Nat) (x : Int) (hj : j < b.length) : (xorAt b i x).getD j 0 = if j = i then xorB (b.getD j 0) x else b.getD j 0 := by
  unfold xorAt
  by_cases e : j = i
  · subst e; simp [List.getD, hj]
  · rw [if_neg e]
    simp [List.getD, List.getElem?_set, Ne.symm e]
theorem RI.rot_not {S : Str} {b : List Int} (h : RI S b) (i x : Int) (hi : i < 0 ∨ (b.length : Int) ≤ i) : rotS S r2K i x = (false, S) := by
  unfold rotS
  rw [if_neg (by simp [h.on]), h.seen]
  exact if_pos hi
theorem RI.rot3 {S : Str} {b : List Int} (h : RI S b) (i x : Int) : rotS S r3K i x = (false, S) := by
  unfold rotS
  rw [if_neg (by simp [h.on]), h.none3]
theorem RI.read {S : Str} {b : List Int} (h : RI S b) (hb : b.length ≤ 1000) : readS S r2K 0 1000 = (b, 0) :=
  read_all (t := ⟨b, []⟩) h.on (by decide) h.seen (by simp only; omega)
end Go.Proofs.Ytnokhjhhadnckaa
