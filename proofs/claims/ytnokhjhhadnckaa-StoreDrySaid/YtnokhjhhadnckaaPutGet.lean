/- bits.Put and bits.Get: the lowest bytes of a number. bits.Get. -/
import Derived.Test.YtnokhjhhadnckaaStr3
import Derived.Test.YtnokhjhhadnckaaArgs
import Derived.Test.YtnokhjhhadnckaaSame10
/- bits.Put and bits.Get: the lowest bytes of a number. -/
set_option linter.unusedSimpArgs false
set_option linter.unusedVariables false
set_option linter.unusedSectionVars false
namespace Go.Proofs.Ytnokhjhhadnckaa
open Go.RowKit
/-- The lowest k bytes of a number. -/
def putB (n : Int) (k : Nat) : List Int := (List.range k).map fun i => n / 2 ^ (8 * i) % 256
theorem putB_succ (n : Int) (k : Nat) : putB n (k + 1) = putB n k ++ [n / 2 ^ (8 * k) % 256] := by
  unfold putB
  rw [List.range_succ, List.map_append]
  rfl
theorem putB_length (n : Int) (k : Nat) : (putB n k).length = k := by simp [putB]
/-- A number of the first k bytes. -/
def getB : List Int → Int
  | [] => 0
  | x :: l => x + 256 * getB l
section
variable {W w : World} {I : Hp} {l : List HP}
/-- What is owned is newer than all that there was. -/
theorem St.pt_new {b : Nat} {o : Obj} (h : St W I w (HP.pt b o :: l)) : W.heap.size ≤ b := by
  obtain ⟨k, a, d, h1, h2, _, a', _, p, _⟩ := h.own
  rcases Nat.lt_or_ge b W.heap.size with hlt | hge
  · have e : W.hp b = some W.heap[b] := Array.getElem?_eq_getElem hlt
    have h3 := h.base _ _ e
    rcases d b with q | q
    · rw [h3] at q; cases q
    · rw [a' _ _ (show h1 b = some o from p)] at q; cases q
  · exact hge
theorem St.row_new {e : TypeId} {size : Nat} {v : Value} {n : Nat} {xs : List Value} (h : St W I w (HP.row e size v n xs :: l)) : w.ownsRow W.heap.size e size v n xs := by
  obtain ⟨hl, ⟨p1, p2, _⟩ | ⟨g, cap, cur, p1, p3, p4, p5, p6, s⟩⟩ := h.row_open
  · exact ⟨hl, .inl ⟨p1, p2⟩⟩
  · exact ⟨hl, .inr ⟨g, cap, cur, p1, s.pt_new, s.heap, p3, p4, p5, p6⟩⟩
theorem byte_src (w : World) (x : Int) : SliceSrc (w.alloc (.cells #[.int .u8 x] 5)) 1 (.slice (some ⟨w.heap.size, 0, none⟩) 1 1) 1 [.int .u8 x] := by
  refine ⟨_, _, rfl, ⟨rfl, fun _ => ⟨_, rfl, fun j u hu => ?_⟩, fun u hu => by (rw [List.mem_singleton.1 hu]; rfl)⟩, fun e => by cases e⟩
  rw [add_plain, Nat.zero_add, cells_of (heap_alloc_new _ _) j, ← hu]
  simp
set_option maxRecDepth 4000
set_option maxHeartbeats 4000000
theorem put_spec (v : Value) (b : List Int) (n : Int) (k : Nat) (w : World) (hs : SliceSrc w 1 v b.length (b.map byteV)) (hn0 : 0 ≤ n) (hn : n < 18446744073709551616) (hk1 : 1 ≤ k) (hk8 : k ≤ 8) (hbl : b.length ≤ 1000000) :
    Calls Try.prog 78 #[v, .int .u64 n, .int .i64 k] w fun e w' => ∃ v', e = .returned v' ∧ Below w.heap.size w w' ∧ w'.ownsRow w.heap.size 5 1 v' (b ++ putB n k).length ((b ++ putB n k).map byteV) := by
  have hk1' : (1 : Int) ≤ (k : Int) := by omega
  have hk8' : (k : Int) ≤ 8 := by omega
  go_enter Try.func78, Try.ntmps78
  go_wp2_with fail
  refine (cloneB_spec v b.length (b.map byteV) w hs hbl).mono ?_
  rintro e w1 ⟨v1, rfl, ho1, hb1⟩
  have h1 : St w w.hp w1 (HP.row 5 1 v1 b.length (b.map byteV) :: []) := (St.init w).row_fresh hb1 ho1
  obtain ⟨A1, c1, rfl⟩ := is_slice ho1
  have H1 := Lib.hid h1
  clear h1 ho1 hb1
  go_wp2_with fail
  go_loopw [7, 19] (fun a7 a19 wr => ∃ (i : Nat) (A : Option Addr) (c : Nat), a19 = .int .i64 i ∧ a7 = .slice A (b ++ putB n i).length c ∧ i ≤ k ∧ St w w.hp wr (HP.row 5 1 (.slice A (b ++ putB n i).length c) (b ++ putB n i).length ((b ++ putB n i).map byteV) :: [])) (fun _ a19 _ => k - (intOf a19).toNat)
  case atStart => exact ⟨0, A1, c1, rfl, by simp [putB], Nat.zero_le _, by simpa [putB] using H1.out⟩
  case round =>
    obtain ⟨i, A, c, rfl, rfl, hi, hst⟩ := hrel
    by_cases hlt : i < k
    · have hp := putB_succ n i
      have hst2 := hst.keep (below_alloc wr (.cells #[.int .u8 (n / 2 ^ (8 * i) % 256)] 5))
      have hle : (b ++ putB n i).length + 1 ≤ 1000000000 := by rw [List.length_append, putB_length]; omega
      obtain ⟨v', w', hr, h2⟩ := St.bytes_append 31 hst2 (byte_src wr (n / 2 ^ (8 * i) % 256)) hle
      obtain ⟨A', c', rfl⟩ := is_slice h2.row_owns
      have e2 : (b ++ putB n i).length + 1 = (b ++ putB n (i + 1)).length := by rw [hp]; simp [Nat.add_assoc]
      have e3 : (b ++ putB n i).map byteV ++ [.int .u8 (n / 2 ^ (8 * i) % 256)] = (b ++ putB n (i + 1)).map byteV := by rw [hp, ← List.append_assoc, List.map_append (l₂ := [n / 2 ^ (8 * i) % 256])]; rfl
      rw [e3, e2] at h2
      rw [e2] at hr
      have HR := Lib.hid hr
      have H2 := Lib.hid h2
      clear hst hst2 hr h2 hp e2 e3 hle
      go_wp2_with (at_builtin; refine Lib.wpList_append_run _ rfl (.tmp 22) (.tmp 28) 31 31 rfl _ _ rfl rfl _ _ HR.out ?_)
      go_roundw
      case rel => exact ⟨i + 1, A', c', by go_num, by rw [List.length_append], by omega, H2.out⟩
      case measure => simp [intOf]; omega
    · obtain rfl : i = k := by omega
      have HST := Lib.hid hst
      clear hst
      go_wp2_with fail
      go_ret
      refine ⟨_, rfl, HST.out.below, ?_⟩
      exact HST.out.row_new
end
end Go.Proofs.Ytnokhjhhadnckaa
/- bits.Get. -/
namespace Go.Proofs.Ytnokhjhhadnckaa
open Go.RowKit
/-- Is there a number of so many bytes, and which. -/
def getAt (b : List Int) (at' k : Int) : Int × Bool :=
  if k < 1 ∨ 8 < k ∨ at' < 0 ∨ (b.length : Int) < at' ∨ (b.length : Int) - at' < k then (0, false) else (getB ((b.drop at'.toNat).take k.toNat), true)
theorem getB_lt : ∀ {l : List Int}, (∀ x ∈ l, isByte x) → 0 ≤ getB l ∧ getB l < 2 ^ (8 * l.length)
  | [], _ => by simp [getB]
  | x :: l, h => by
    have h1 := getB_lt (l := l) fun y hy => h y (List.mem_cons_of_mem _ hy)
    have h2 := h x (List.mem_cons_self ..)
    unfold isByte at h2
    have e : (2 : Int) ^ (8 * (x :: l).length) = 256 * 2 ^ (8 * l.length) := by
      rw [List.length_cons, show 8 * (l.length + 1) = 8 + 8 * l.length by omega, Int.pow_add]
      rfl
    rw [e, getB]
    omega
theorem getB_snoc : ∀ (l : List Int) (x : Int), getB (l ++ [x]) = getB l + x * 2 ^ (8 * l.length)
  | [], x => by simp [getB]
  | y :: l, x => by
    rw [List.cons_append, getB, getB_snoc, getB, List.length_cons, show 8 * (l.length + 1) = 8 + 8 * l.length by omega, Int.pow_add]
    rw [show (2 : Int) ^ 8 = 256 by rfl, Int.mul_add, Int.mul_comm x (256 * 2 ^ (8 * l.length)), Int.mul_assoc, Int.mul_comm x]
    omega
theorem or_add {n x : Int} {i : Nat} (h0 : 0 ≤ n) (h1 : n < 2 ^ (8 * i)) (hx0 : 0 ≤ x) (hx1 : x < 256) (hi : i < 8) : bits .or .u64 n (IntKind.u64.wrap (x * 2 ^ (8 * i))) = n + x * 2 ^ (8 * i) := by
  obtain ⟨N, rfl⟩ : ∃ N : Nat, n = N := ⟨n.toNat, by omega⟩
  obtain ⟨X, rfl⟩ : ∃ X : Nat, x = X := ⟨x.toNat, by omega⟩
  have hN : N < 2 ^ (8 * i) := by exact_mod_cast h1
  have hX : X < 256 := by omega
  have hp : X * 2 ^ (8 * i) + 2 ^ (8 * i) ≤ 2 ^ 64 := by
    have h2 : 2 ^ (8 * i) * 256 ≤ 2 ^ 64 := by
      rw [show (256 : Nat) = 2 ^ 8 by rfl, ← Nat.pow_add]
      exact Nat.pow_le_pow_right (by decide) (by omega)
    have h3 : (X + 1) * 2 ^ (8 * i) ≤ 256 * 2 ^ (8 * i) := Nat.mul_le_mul_right _ (by omega)
    rw [Nat.add_mul, Nat.one_mul] at h3
    omega
  have e1 : (X : Int) * 2 ^ (8 * i) = ((X * 2 ^ (8 * i) : Nat) : Int) := by push_cast; rfl
  rw [e1, IntKind.wrap_u64]
  have e2 : ((X * 2 ^ (8 * i) : Nat) : Int) % 18446744073709551616 = ((X * 2 ^ (8 * i) : Nat) : Int) := by omega
  rw [e2]
  show IntKind.u64.wrap ((BitVec.ofInt 64 (N : Int) ||| BitVec.ofInt 64 ((X * 2 ^ (8 * i) : Nat) : Int)).toNat : Nat) = _
  rw [BitVec.toNat_or, BitVec.ofInt_natCast, BitVec.ofInt_natCast, BitVec.toNat_ofNat, BitVec.toNat_ofNat, Nat.mod_eq_of_lt (by omega), Nat.mod_eq_of_lt (by omega), Nat.or_comm, Nat.mul_comm, ← Nat.two_pow_add_eq_or_of_lt hN, IntKind.wrap_u64, Nat.mul_comm]
  omega
section
variable {W w : World} {I : Hp} {l : List HP}
set_option maxRecDepth 4000
set_option maxHeartbeats 4000000
theorem get_ok (v : Value) (b : List Int) (at' k : Nat) (w : World) (hs : SliceSrc w 1 v b.length (b.map byteV)) (hb : ∀ x ∈ b, isByte x) (hk1 : 1 ≤ k) (hk8 : k ≤ 8) (hl : at' + k ≤ b.length) (hbl : b.length ≤ 1000000) :
    Calls Try.prog 81 #[v, .int .i64 at', .int .i64 k] w fun e w' => e = .returned (.tuple #[.int .u64 (getB ((b.drop at').take k)), .bool true]) ∧ w = w' := by
  obtain ⟨A, c, rfl, hsrc, _⟩ := hs
  obtain ⟨g, o, rfl, hlt0, hc⟩ := src_at hsrc (by omega)
  have hk1' : (1 : Int) ≤ (k : Int) := by omega
  have hk8' : (k : Int) ≤ 8 := by omega
  have h1 : decide ((at' : Int) < 0) = false := by rw [decide_eq_false_iff_not]; omega
  have h2 : decide (b.length < at') = false := by rw [decide_eq_false_iff_not]; omega
  have h3 : IntKind.i64.wrap ((b.length : Int) - (at' : Int)) = ((b.length - at' : Nat) : Int) := by rw [IntKind.wrap_i64]; omega
  have h4 : decide (b.length - at' < k) = false := by rw [decide_eq_false_iff_not]; omega
  have HC := Lib.hid hc
  clear hc hsrc
  go_enter Try.func81, Try.ntmps81
  go_wp2_with fail
  go_loop [8, 35] (fun a8 a35 => ∃ i : Nat, i ≤ k ∧ a35 = .int .i64 i ∧ a8 = .int .u64 (getB ((b.drop at').take i))) (fun _ a35 => k - (intOf a35).toNat)
  case atStart => exact ⟨0, Nat.zero_le _, rfl, by simp [getB]⟩
  case round =>
    obtain ⟨i, hi, rfl, rfl⟩ := hrel
    by_cases hlt : i < k
    · obtain ⟨x, hx⟩ : ∃ x, b[at' + i]? = some x := ⟨_, List.getElem?_eq_getElem (by omega)⟩
      have hxb := hb x (List.mem_of_getElem? hx)
      unfold isByte at hxb
      have y1 : w.cell? ⟨g, o + (at' + i), none⟩ = some (.int .u8 x) := HC.out (at' + i) _ (by rw [List.getElem?_map, hx]; rfl)
      have hx0 := hxb.1
      have hx1 := hxb.2
      have hi8 : (i : Int) < 8 := by omega
      have hx' := hx
      have hlt8 : i < 8 := by omega
      clear hx hxb
      have hgb := getB_lt (l := (b.drop at').take i) fun y hy => hb y (List.mem_of_mem_drop (List.mem_of_mem_take hy))
      have hli : ((b.drop at').take i).length = i := by rw [List.length_take, List.length_drop]; omega
      rw [hli] at hgb
      have hor := or_add (i := i) hgb.1 hgb.2 hx0 hx1 hlt8
      have htk : (b.drop at').take (i + 1) = (b.drop at').take i ++ [x] := by
        rw [List.take_add_one, List.getElem?_drop, hx']
        rfl
      have hnew : getB ((b.drop at').take (i + 1)) = getB ((b.drop at').take i) + x * 2 ^ (8 * i) := by rw [htk, getB_snoc, hli]
      have HOR := Lib.hid (hor.trans hnew.symm)
      clear hgb hli hor htk hnew hx'
      go_wp2_with fail
      go_round
      case rel => exact ⟨i + 1, by omega, by go_num, by rw [HOR.out]⟩
      case measure => simp [intOf]; omega
    · obtain rfl : i = k := by omega
      go_wp2_with fail
      go_ret2
      exact ⟨rfl, rfl⟩
end
end Go.Proofs.Ytnokhjhhadnckaa
