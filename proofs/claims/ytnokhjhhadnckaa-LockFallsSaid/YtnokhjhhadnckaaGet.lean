/- bits.Get. -/
import Derived.Test.YtnokhjhhadnckaaPut
import Derived.Test.YtnokhjhhadnckaaArgs
import Derived.Test.YtnokhjhhadnckaaSame10
set_option linter.unusedSimpArgs false
set_option linter.unusedVariables false
set_option linter.unusedSectionVars false
namespace Go.Proofs.Ytnokhjhhadnckaa
open Go.RowKit
/-- Is there a number of so many bytes, and which. -/
def getAt (b : List Int) (at' k : Int) : Int × Bool :=
  if k < 1 ∨ 8 < k ∨ at' < 0 ∨ (b.length : Int) < at' ∨ (b.length : Int) - at' < k then (0, false) else (getB ((b.drop at'.toNat).take k.toNat), true)
theorem getB_lt : ∀ {l : List Int}, (∀ x ∈ l, isByte x) → 0 ≤ getB l ∧ getB l < 2 ^ (8 * l.length)
  | [], _ => by simp [getB]
  | x :: l, h => by
    have h1 := getB_lt (l := l) fun y hy => h y (List.mem_cons_of_mem _ hy)
    have h2 := h x (List.mem_cons_self ..)
    unfold isByte at h2
    have e : (2 : Int) ^ (8 * (x :: l).length) = 256 * 2 ^ (8 * l.length) := by
      rw [List.length_cons, show 8 * (l.length + 1) = 8 + 8 * l.length by omega, Int.pow_add]
      rfl
    rw [e, getB]
    omega
theorem getB_snoc : ∀ (l : List Int) (x : Int), getB (l ++ [x]) = getB l + x * 2 ^ (8 * l.length)
  | [], x => by simp [getB]
  | y :: l, x => by
    rw [List.cons_append, getB, getB_snoc, getB, List.length_cons, show 8 * (l.length + 1) = 8 + 8 * l.length by omega, Int.pow_add]
    rw [show (2 : Int) ^ 8 = 256 by rfl, Int.mul_add, Int.mul_comm x (256 * 2 ^ (8 * l.length)), Int.mul_assoc, Int.mul_comm x]
    omega
theorem or_add {n x : Int} {i : Nat} (h0 : 0 ≤ n) (h1 : n < 2 ^ (8 * i)) (hx0 : 0 ≤ x) (hx1 : x < 256) (hi : i < 8) : bits .or .u64 n (IntKind.u64.wrap (x * 2 ^ (8 * i))) = n + x * 2 ^ (8 * i) := by
  obtain ⟨N, rfl⟩ : ∃ N : Nat, n = N := ⟨n.toNat, by omega⟩
  obtain ⟨X, rfl⟩ : ∃ X : Nat, x = X := ⟨x.toNat, by omega⟩
  have hN : N < 2 ^ (8 * i) := by exact_mod_cast h1
  have hX : X < 256 := by omega
  have hp : X * 2 ^ (8 * i) + 2 ^ (8 * i) ≤ 2 ^ 64 := by
    have h2 : 2 ^ (8 * i) * 256 ≤ 2 ^ 64 := by
      rw [show (256 : Nat) = 2 ^ 8 by rfl, ← Nat.pow_add]
      exact Nat.pow_le_pow_right (by decide) (by omega)
    have h3 : (X + 1) * 2 ^ (8 * i) ≤ 256 * 2 ^ (8 * i) := Nat.mul_le_mul_right _ (by omega)
    rw [Nat.add_mul, Nat.one_mul] at h3
    omega
  have e1 : (X : Int) * 2 ^ (8 * i) = ((X * 2 ^ (8 * i) : Nat) : Int) := by push_cast; rfl
  rw [e1, IntKind.wrap_u64]
  have e2 : ((X * 2 ^ (8 * i) : Nat) : Int) % 18446744073709551616 = ((X * 2 ^ (8 * i) : Nat) : Int) := by omega
  rw [e2]
  show IntKind.u64.wrap ((BitVec.ofInt 64 (N : Int) ||| BitVec.ofInt 64 ((X * 2 ^ (8 * i) : Nat) : Int)).toNat : Nat) = _
  rw [BitVec.toNat_or, BitVec.ofInt_natCast, BitVec.ofInt_natCast, BitVec.toNat_ofNat, BitVec.toNat_ofNat, Nat.mod_eq_of_lt (by omega), Nat.mod_eq_of_lt (by omega), Nat.or_comm, Nat.mul_comm, ← Nat.two_pow_add_eq_or_of_lt hN, IntKind.wrap_u64, Nat.mul_comm]
  omega
section
variable {W w : World} {I : Hp} {l : List HP}
set_option maxRecDepth 4000
set_option maxHeartbeats 4000000
theorem get_ok (v : Value) (b : List Int) (at' k : Nat) (w : World) (hs : SliceSrc w 1 v b.length (b.map byteV)) (hb : ∀ x ∈ b, isByte x) (hk1 : 1 ≤ k) (hk8 : k ≤ 8) (hl : at' + k ≤ b.length) (hbl : b.length ≤ 1000000) :
    Calls Try.prog 81 #[v, .int .i64 at', .int .i64 k] w fun e w' => e = .returned (.tuple #[.int .u64 (getB ((b.drop at').take k)), .bool true]) ∧ w = w' := by
  obtain ⟨A, c, rfl, hsrc, _⟩ := hs
  obtain ⟨g, o, rfl, hlt0, hc⟩ := src_at hsrc (by omega)
  have hk1' : (1 : Int) ≤ (k : Int) := by omega
  have hk8' : (k : Int) ≤ 8 := by omega
  have h1 : decide ((at' : Int) < 0) = false := by rw [decide_eq_false_iff_not]; omega
  have h2 : decide (b.length < at') = false := by rw [decide_eq_false_iff_not]; omega
  have h3 : IntKind.i64.wrap ((b.length : Int) - (at' : Int)) = ((b.length - at' : Nat) : Int) := by rw [IntKind.wrap_i64]; omega
  have h4 : decide (b.length - at' < k) = false := by rw [decide_eq_false_iff_not]; omega
  have HC := Lib.hid hc
  clear hc hsrc
  go_enter Try.func81, Try.ntmps81
  go_wp2_with fail
  go_loop [8, 35] (fun a8 a35 => ∃ i : Nat, i ≤ k ∧ a35 = .int .i64 i ∧ a8 = .int .u64 (getB ((b.drop at').take i))) (fun _ a35 => k - (intOf a35).toNat)
  case atStart => exact ⟨0, Nat.zero_le _, rfl, by simp [getB]⟩
  case round =>
    obtain ⟨i, hi, rfl, rfl⟩ := hrel
    by_cases hlt : i < k
    · obtain ⟨x, hx⟩ : ∃ x, b[at' + i]? = some x := ⟨_, List.getElem?_eq_getElem (by omega)⟩
      have hxb := hb x (List.mem_of_getElem? hx)
      unfold isByte at hxb
      have y1 : w.cell? ⟨g, o + (at' + i), none⟩ = some (.int .u8 x) := HC.out (at' + i) _ (by rw [List.getElem?_map, hx]; rfl)
      have hx0 := hxb.1
      have hx1 := hxb.2
      have hi8 : (i : Int) < 8 := by omega
      have hx' := hx
      have hlt8 : i < 8 := by omega
      clear hx hxb
      have hgb := getB_lt (l := (b.drop at').take i) fun y hy => hb y (List.mem_of_mem_drop (List.mem_of_mem_take hy))
      have hli : ((b.drop at').take i).length = i := by rw [List.length_take, List.length_drop]; omega
      rw [hli] at hgb
      have hor := or_add (i := i) hgb.1 hgb.2 hx0 hx1 hlt8
      have htk : (b.drop at').take (i + 1) = (b.drop at').take i ++ [x] := by
        rw [List.take_add_one, List.getElem?_drop, hx']
        rfl
      have hnew : getB ((b.drop at').take (i + 1)) = getB ((b.drop at').take i) + x * 2 ^ (8 * i) := by rw [htk, getB_snoc, hli]
      have HOR := Lib.hid (hor.trans hnew.symm)
      clear hgb hli hor htk hnew hx'
      go_wp2_with fail
      go_round
      case rel => exact ⟨i + 1, by omega, by go_num, by rw [HOR.out]⟩
      case measure => simp [intOf]; omega
    · obtain rfl : i = k := by omega
      go_wp2_with fail
      go_ret2
      exact ⟨rfl, rfl⟩
end
end Go.Proofs.Ytnokhjhhadnckaa
