/- Small words that every walk of this seat uses. -/
import Derived.Test.YtagfdgdoboncfaaChainFns
import Derived.Test.YtagfdgdoboncfaaBits
import Derived.Test.YtagfdgdoboncfaaProg
import Derived.WalkKit
import Derived.WalkSpells
import Derived.WalkLawsBesides
import Derived.Deep.RegionWith
import Derived.Deep.RegionHeld3
import Derived.BigQuiet
namespace Go.Proofs.Ytagfdgdoboncfaa
open Go.RowKit
theorem ret_bool {a b : Bool} (h : a = b) : Ending.returned (.bool a) = .returned (.bool b) := by rw [h]
theorem ret_int {k : IntKind} {a b : Int} (h : a = b) : Ending.returned (.int k a) = .returned (.int k b) := by rw [h]
theorem heap_alloc_old {w : World} {i : Nat} (h : i < w.heap.size) (o : Obj) : (w.alloc o).heap[i]? = w.heap[i]? := Below.heap_alloc w o i h
theorem heap_new_at {w : World} {i : Nat} (h : i = w.heap.size) (o : Obj) : (w.alloc o).heap[i]? = some o := by rw [h]; exact heap_alloc_new w o
theorem block_behind {w w1 : World} {o : Obj} (hb : Below (w.alloc o).heap.size (w.alloc o) w1) : w1.heap[w.heap.size]? = some o := (hb.block _ (by simp)).trans (heap_alloc_new _ _)
theorem frozen_of_row {w : World} {g : Nat} {cs : Array Value} {t : TypeId} (h : w.heap[g]? = some (.cells cs t (0, 0))) (i : Nat) : w.frozen? ⟨g, i, none⟩ = false := by simp [World.frozen?, h]
theorem tag_guard : Try.prog.eqGuardType Try.prog.depth 50 = false := by kernel_rfl
theorem tag_stood : Try.prog.stoodInHeld 50 = false := by kernel_rfl
theorem tag_under : Try.prog.underlying 50 = some (.struct (Try.prog.fieldsOf 50)) := by kernel_rfl
theorem tag_fields : (Try.prog.fieldsOf 50).toList.map (fun f => (f.name == "_", f.type, f.offset)) = [(false, 3, 0), (false, 3, 1), (false, 3, 2), (false, 3, 3)] := by kernel_rfl
theorem tag_eqGuard (op : BinOp) (x y : Operand) (xs ys : Array Value) (w : World) : (eqGuard op 50 x y (.agg xs) (.agg ys)).run Try.prog w = .ok () w := run_eqGuard_agg _ _ _ _ _ _ _ tag_guard
theorem tag_eqIn (x y : Tag) (w : World) :
    (Op.equalIn 10000 50 (.agg #[.int .i64 x.id, .int .i64 x.own, .int .i64 x.heir, .int .i64 x.at_]) (.agg #[.int .i64 y.id, .int .i64 y.own, .int .i64 y.heir, .int .i64 y.at_])).run Try.prog w = .ok (x.same y) w := by
  rw [run_equalIn_struct w 9999 _ _ _ tag_under tag_stood]
  obtain ⟨fs, hfs⟩ : ∃ fs, (Try.prog.fieldsOf 50).toList = fs := ⟨_, rfl⟩
  have h := tag_fields
  rw [hfs] at h ⊢
  match fs, h with
  | [f0, f1, f2, f3], h =>
    simp only [List.map_cons, List.map_nil, List.cons.injEq, Prod.mk.injEq, beq_eq_false_iff_ne, and_true] at h
    obtain ⟨⟨n0, t0, o0⟩, ⟨n1, t1, o1⟩, ⟨n2, t2, o2⟩, ⟨n3, t3, o3⟩⟩ := h
    simp only [Op.eqFields, n0, n1, n2, n3, t0, t1, t2, t3, o0, o1, o2, o3, ne_eq, not_false_eq_true, if_true]
    simp [go_sem, Tag.same]
    by_cases e0 : x.id = y.id <;> by_cases e1 : x.own = y.own <;> by_cases e2 : x.heir = y.heir <;> by_cases e3 : x.at_ = y.at_ <;> simp [e0, e1, e2, e3]
end Go.Proofs.Ytagfdgdoboncfaa
