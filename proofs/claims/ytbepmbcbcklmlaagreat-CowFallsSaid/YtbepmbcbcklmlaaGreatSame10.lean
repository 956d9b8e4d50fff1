/- hectographref10.Same of two rows that read alike. -/
import Derived.Test.YtbepmbcbcklmlaaGreatStr3
set_option linter.unusedSimpArgs false
set_option linter.unusedVariables false
set_option linter.unusedSectionVars false
namespace Go.Proofs.YtbepmbcbcklmlaaGreat
open Go.RowKit
theorem src_at {w : World} {A : Option Addr} {n : Nat} {xs : List Value} (h : SrcAt w 1 A n xs) (hn : 0 < n) : ∃ b off, A = some ⟨b, off, none⟩ ∧ b < w.heap.size ∧ ∀ j u, xs[j]? = some u → w.cell? ⟨b, off + j, none⟩ = some u := by
  obtain ⟨ad, rfl, hc⟩ := h.cells hn
  have hl := h.len
  obtain ⟨u0, hu0⟩ : ∃ u, xs[0]? = some u := ⟨_, List.getElem?_eq_getElem (by omega)⟩
  have h0 := hc 0 u0 hu0
  obtain ⟨b, off, spot⟩ := ad
  have hspot : spot = none := by simpa [Addr.add] using World.cell?_spot h0
  subst hspot
  refine ⟨b, off, rfl, ?_, fun j u hu => ?_⟩
  · rw [add_plain] at h0
    exact World.block_lt_of_cell? w _ h0
  · have := hc j u hu
    rwa [add_plain] at this
section
set_option maxRecDepth 4000
set_option maxHeartbeats 2000000
theorem same_true (va vb : Value) (xs : List Int) (w : World) (ha : SliceSrc w 1 va xs.length (xs.map intV)) (hb : SliceSrc w 1 vb xs.length (xs.map intV)) (hn : xs.length ≤ 1000000000) :
    Calls Tryz.prog 38 #[va, vb] w fun e w' => e = .returned (.bool true) ∧ Below w.heap.size w w' := by
  obtain ⟨A, ca, rfl, hsa, _⟩ := ha
  obtain ⟨B, cb, rfl, hsb, _⟩ := hb
  have HA := Lib.hid hsa
  have HB := Lib.hid hsb
  clear hsa hsb
  have hn1 : (xs.length : Int) ≤ 1000000000 := by omega
  go_enter Tryz.func38, Tryz.ntmps38
  go_wp2_with fail
  go_loopw [5] (fun i wr => ∃ k : Nat, k ≤ xs.length ∧ i = .int .i64 k ∧ Below w.heap.size w wr) (fun i _ => xs.length - (intOf i).toNat)
  case atStart => exact ⟨0, Nat.zero_le _, rfl, Below.refl _ _⟩
  case round =>
    obtain ⟨k, hk, rfl, hbw⟩ := hrel
    by_cases hlt : k < xs.length
    · obtain ⟨b1, o1, rfl, hl1, hc1⟩ := src_at HA.out (by omega)
      obtain ⟨b2, o2, rfl, hl2, hc2⟩ := src_at HB.out (by omega)
      have hx : (xs.map intV)[k]? = some (intV xs[k]) := by rw [List.getElem?_map, List.getElem?_eq_getElem hlt]; rfl
      have y1 : wr.cell? ⟨b1, o1 + k, none⟩ = some (.int .i64 xs[k]) := (hbw.cell (p := ⟨b1, o1 + k, none⟩) hl1).trans (hc1 k _ hx)
      have y2 : wr.cell? ⟨b2, o2 + k, none⟩ = some (.int .i64 xs[k]) := (hbw.cell (p := ⟨b2, o2 + k, none⟩) hl2).trans (hc2 k _ hx)
      have HBW := Lib.hid hbw
      clear hc1 hc2 hx hbw
      go_wp2_with fail
      go_quiet (fail)
      go_wp2_with fail
      go_roundw
      case rel => exact ⟨k + 1, by omega, by go_num, below_drewN HBW.out _⟩
      case measure => simp [intOf]; omega
    · have HBW := Lib.hid hbw
      clear hbw
      go_wp2_with fail
      go_ret
      exact ⟨rfl, HBW.out⟩
end
end Go.Proofs.YtbepmbcbcklmlaaGreat
