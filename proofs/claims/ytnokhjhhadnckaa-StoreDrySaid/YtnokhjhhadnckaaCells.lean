/- copy at elements of several cells. No program in sight. -/
import Derived.Test.YtnokhjhhadnckaaLay
set_option linter.unusedSimpArgs false
set_option linter.unusedVariables false
set_option linter.unusedSectionVars false
namespace Go.Proofs.Ytnokhjhhadnckaa
open Go.RowKit
section
variable {P : Program}
theorem run_copy_cells (w : World) (dT sT ty elem : TypeId) (size : Nat) (g o dLen dCap : Nat) (a : Addr) (n sCap : Nat) (cur : Array Value) (t : TypeId) (cs : List Value)
    (hu : P.underlying dT = some (.slice elem)) (hs : (P.info? elem).map (·.size) = some size)
    (hg : w.heap[g]? = some (.cells cur t (0, 0))) (hn : n ≤ dLen) (hcl : cs.length = n * size)
    (hsrc : ∀ j v, cs[j]? = some v → w.cell? (a.add j) = some v) (hfit : o + cs.length ≤ cur.size) (h1 : ∀ v ∈ cs, v.oneCell' = true) :
    (Builtin.copy_ #[dT, sT] ty #[.slice (some ⟨g, o, none⟩) dLen dCap, .slice (some a) n sCap]).run P w =
      .ok (goInt n) (w.setRow g (cur.toList.take o ++ cs ++ cur.toList.drop (o + cs.length)).toArray) := by
  have hl := run_firstCells_some (P := P) w size n a n sCap cs hcl hsrc
  have hst := run_storeCells_at P g o t cs 0 cur w hg (by simpa using hfit) h1
  have hmin : Nat.min n dLen = n := Nat.min_eq_left hn
  cases hq : P.info? elem with
  | none => simp [hq] at hs
  | some i =>
    have hi : i.size = size := by simpa [hq] using hs
    simp [Builtin.copy_, run_underlying hu, Builtin.lenOf, sizeOf, typeInfo, hq, hi, hmin, hl, hst]
variable {W w : World} {I : Hp} {l : List HP} {v : Value}
/-- A copy into a row that is owned; elements of 'size' cells. -/
theorem row_copy_cells {e : TypeId} {size g n cap off m : Nat} {xs cs : List Value} (h : St W I w (HP.row e size (.slice (some ⟨g, 0, none⟩) n cap) n xs :: l)) (hsz : 0 < size) (hoff : off + m ≤ n)
    {dT sT ty : TypeId} (hu : P.underlying dT = some (.slice e)) (hs : (P.info? e).map (·.size) = some size) (hsrc : SliceSrc w size v m cs) (hm : 0 < m) (dLen dCap : Nat) (hd : m ≤ dLen) :
    ∃ w', (Builtin.copy_ #[dT, sT] ty #[.slice (some ⟨g, off * size, none⟩) dLen dCap, v]).run P w = .ok (goInt m) w' ∧ w'.heap.size = w.heap.size ∧
      St W I w' (HP.row e size (.slice (some ⟨g, 0, none⟩) n cap) n (xs.take (off * size) ++ (cs ++ xs.drop (off * size + cs.length))) :: l) := by
  obtain ⟨A, k, rfl, hsrc, _⟩ := hsrc
  obtain ⟨hl, p⟩ := h.row_open
  have hfit : off * size + m * size ≤ n * size := by rw [← Nat.add_mul]; exact Nat.mul_le_mul_right _ hoff
  rcases p with ⟨e1, _⟩ | ⟨g', cap', cur, e1, p3, p4, p5, p6, s⟩
  · cases e1
  · simp only [Value.slice.injEq, Option.some.injEq, Addr.mk.injEq, and_true, true_and] at e1
    obtain ⟨rfl, rfl⟩ := e1
    have hcl : cur.toList.length = cap * size := by simpa using p5
    have hcap : n * size ≤ cap * size := Nat.mul_le_mul_right _ p3
    have hlen := hsrc.len
    obtain ⟨ad, rfl, hc⟩ := hsrc.cells hm
    have hr := run_copy_cells (P := P) w dT sT ty e size g (off * size) dLen dCap ad m k cur e cs hu hs s.heap hd hlen hc (by rw [p5, hlen]; omega) hsrc.one
    rw [List.append_assoc] at hr
    refine ⟨_, hr, by simp [World.setRow], (setRow_is s).row_shut ?_ p3 p4 ?_ ?_⟩
    · rw [← p6]
      simp only [List.length_append, List.length_take, List.length_drop]
      omega
    · simp only [List.size_toArray, List.length_append, List.length_take, List.length_drop]
      omega
    · rcases take_over (cur := cur.toList) (n := n * size) (off := off * size) (cs := cs) (by omega) with h1 | h1
      · rw [h1, p6]
      · omega
/-- An append whose run is known, as one step of a region that draws. -/
theorem step_append_run {ops : Array Oper} {o : Oper} {a : Act} {K : Act → World → Prop} {Q : Exit → Act → World → Prop} {E : Prop} (hgd : o.guard = none) (s x : Operand) (t tn : TypeId)
    (ho : o.op = .call { callee := .builtin .append, args := #[s, x], argTypes := #[t, tn] }) (vs vx : Value) (hs : a.eval s = vs) (hx : a.eval x = vx) (v' : Value) (w' : World)
    (hr : (Builtin.append_ #[t, tn] o.type #[vs, vx]).run P w = .ok v' w') (h : K (a.put o.dst v') w') : if Region.wanted o (yielded ops a.tmps) = true then Oper.wp P o a w K Q else E := by
  rw [if_pos (by simp [Region.wanted, hgd])]
  exact Lib.wp_append_run w s x t tn ho vs vx hs hx v' w' hr h
end
end Go.Proofs.Ytnokhjhhadnckaa
