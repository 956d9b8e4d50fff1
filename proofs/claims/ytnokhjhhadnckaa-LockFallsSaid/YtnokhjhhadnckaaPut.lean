/- bits.Put and bits.Get: the lowest bytes of a number. -/
import Derived.Test.YtnokhjhhadnckaaStr3
set_option linter.unusedSimpArgs false
set_option linter.unusedVariables false
set_option linter.unusedSectionVars false
namespace Go.Proofs.Ytnokhjhhadnckaa
open Go.RowKit
/-- The lowest k bytes of a number. -/
def putB (n : Int) (k : Nat) : List Int := (List.range k).map fun i => n / 2 ^ (8 * i) % 256
theorem putB_succ (n : Int) (k : Nat) : putB n (k + 1) = putB n k ++ [n / 2 ^ (8 * k) % 256] := by
  unfold putB
  rw [List.range_succ, List.map_append]
  rfl
theorem putB_length (n : Int) (k : Nat) : (putB n k).length = k := by simp [putB]
/-- A number of the first k bytes. -/
def getB : List Int → Int
  | [] => 0
  | x :: l => x + 256 * getB l
section
variable {W w : World} {I : Hp} {l : List HP}
/-- What is owned is newer than all that there was. -/
theorem St.pt_new {b : Nat} {o : Obj} (h : St W I w (HP.pt b o :: l)) : W.heap.size ≤ b := by
  obtain ⟨k, a, d, h1, h2, _, a', _, p, _⟩ := h.own
  rcases Nat.lt_or_ge b W.heap.size with hlt | hge
  · have e : W.hp b = some W.heap[b] := Array.getElem?_eq_getElem hlt
    have h3 := h.base _ _ e
    rcases d b with q | q
    · rw [h3] at q; cases q
    · rw [a' _ _ (show h1 b = some o from p)] at q; cases q
  · exact hge
theorem St.row_new {e : TypeId} {size : Nat} {v : Value} {n : Nat} {xs : List Value} (h : St W I w (HP.row e size v n xs :: l)) : w.ownsRow W.heap.size e size v n xs := by
  obtain ⟨hl, ⟨p1, p2, _⟩ | ⟨g, cap, cur, p1, p3, p4, p5, p6, s⟩⟩ := h.row_open
  · exact ⟨hl, .inl ⟨p1, p2⟩⟩
  · exact ⟨hl, .inr ⟨g, cap, cur, p1, s.pt_new, s.heap, p3, p4, p5, p6⟩⟩
theorem byte_src (w : World) (x : Int) : SliceSrc (w.alloc (.cells #[.int .u8 x] 5)) 1 (.slice (some ⟨w.heap.size, 0, none⟩) 1 1) 1 [.int .u8 x] := by
  refine ⟨_, _, rfl, ⟨rfl, fun _ => ⟨_, rfl, fun j u hu => ?_⟩, fun u hu => by (rw [List.mem_singleton.1 hu]; rfl)⟩, fun e => by cases e⟩
  rw [add_plain, Nat.zero_add, cells_of (heap_alloc_new _ _) j, ← hu]
  simp
set_option maxRecDepth 4000
set_option maxHeartbeats 4000000
theorem put_spec (v : Value) (b : List Int) (n : Int) (k : Nat) (w : World) (hs : SliceSrc w 1 v b.length (b.map byteV)) (hn0 : 0 ≤ n) (hn : n < 18446744073709551616) (hk1 : 1 ≤ k) (hk8 : k ≤ 8) (hbl : b.length ≤ 1000000) :
    Calls Try.prog 78 #[v, .int .u64 n, .int .i64 k] w fun e w' => ∃ v', e = .returned v' ∧ Below w.heap.size w w' ∧ w'.ownsRow w.heap.size 5 1 v' (b ++ putB n k).length ((b ++ putB n k).map byteV) := by
  have hk1' : (1 : Int) ≤ (k : Int) := by omega
  have hk8' : (k : Int) ≤ 8 := by omega
  go_enter Try.func78, Try.ntmps78
  go_wp2_with fail
  refine (cloneB_spec v b.length (b.map byteV) w hs hbl).mono ?_
  rintro e w1 ⟨v1, rfl, ho1, hb1⟩
  have h1 : St w w.hp w1 (HP.row 5 1 v1 b.length (b.map byteV) :: []) := (St.init w).row_fresh hb1 ho1
  obtain ⟨A1, c1, rfl⟩ := is_slice ho1
  have H1 := Lib.hid h1
  clear h1 ho1 hb1
  go_wp2_with fail
  go_loopw [7, 19] (fun a7 a19 wr => ∃ (i : Nat) (A : Option Addr) (c : Nat), a19 = .int .i64 i ∧ a7 = .slice A (b ++ putB n i).length c ∧ i ≤ k ∧ St w w.hp wr (HP.row 5 1 (.slice A (b ++ putB n i).length c) (b ++ putB n i).length ((b ++ putB n i).map byteV) :: [])) (fun _ a19 _ => k - (intOf a19).toNat)
  case atStart => exact ⟨0, A1, c1, rfl, by simp [putB], Nat.zero_le _, by simpa [putB] using H1.out⟩
  case round =>
    obtain ⟨i, A, c, rfl, rfl, hi, hst⟩ := hrel
    by_cases hlt : i < k
    · have hp := putB_succ n i
      have hst2 := hst.keep (below_alloc wr (.cells #[.int .u8 (n / 2 ^ (8 * i) % 256)] 5))
      have hle : (b ++ putB n i).length + 1 ≤ 1000000000 := by rw [List.length_append, putB_length]; omega
      obtain ⟨v', w', hr, h2⟩ := St.bytes_append 31 hst2 (byte_src wr (n / 2 ^ (8 * i) % 256)) hle
      obtain ⟨A', c', rfl⟩ := is_slice h2.row_owns
      have e2 : (b ++ putB n i).length + 1 = (b ++ putB n (i + 1)).length := by rw [hp]; simp [Nat.add_assoc]
      have e3 : (b ++ putB n i).map byteV ++ [.int .u8 (n / 2 ^ (8 * i) % 256)] = (b ++ putB n (i + 1)).map byteV := by rw [hp, ← List.append_assoc, List.map_append (l₂ := [n / 2 ^ (8 * i) % 256])]; rfl
      rw [e3, e2] at h2
      rw [e2] at hr
      have HR := Lib.hid hr
      have H2 := Lib.hid h2
      clear hst hst2 hr h2 hp e2 e3 hle
      go_wp2_with (at_builtin; refine Lib.wpList_append_run _ rfl (.tmp 22) (.tmp 28) 31 31 rfl _ _ rfl rfl _ _ HR.out ?_)
      go_roundw
      case rel => exact ⟨i + 1, A', c', by go_num, by rw [List.length_append], by omega, H2.out⟩
      case measure => simp [intOf]; omega
    · obtain rfl : i = k := by omega
      have HST := Lib.hid hst
      clear hst
      go_wp2_with fail
      go_ret
      refine ⟨_, rfl, HST.out.below, ?_⟩
      exact HST.out.row_new
end
end Go.Proofs.Ytnokhjhhadnckaa
