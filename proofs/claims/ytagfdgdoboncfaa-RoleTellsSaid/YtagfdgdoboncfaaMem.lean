/- Words on memory for this seat's walks: a slice of tags that reads as a list of tags. No program in sight. -/
import Derived.Below
import Derived.Laws.OwnMore
import Derived.Deep.AppendLies
import Derived.Deep.Draws
import Derived.Lib.Hide
namespace Go.Proofs.Ytagfdgdoboncfaa
open Go.RowKit

structure Tag where
  id : Int
  own : Int
  heir : Int
  at_ : Int

def Tag.val (t : Tag) : Value := .agg #[.int .i64 t.id, .int .i64 t.own, .int .i64 t.heir, .int .i64 t.at_]
def Tag.vals (t : Tag) : List Value := [.int .i64 t.id, .int .i64 t.own, .int .i64 t.heir, .int .i64 t.at_]

/-- The slice value '.slice A n c' reads as the list l of tags, and lies in the world's heap. -/
def TagsAt (w : World) (A : Option Addr) (n : Nat) (l : List Tag) : Prop :=
  l.length = n ∧ (0 < n → ∃ b off, A = some ⟨b, off, none⟩ ∧ b < w.heap.size ∧ ∀ i t, l[i]? = some t →
    w.cell? ⟨b, off + i * 4, none⟩ = some (.int .i64 t.id) ∧ w.cell? ⟨b, off + i * 4 + 1, none⟩ = some (.int .i64 t.own) ∧
    w.cell? ⟨b, off + i * 4 + 2, none⟩ = some (.int .i64 t.heir) ∧ w.cell? ⟨b, off + i * 4 + 3, none⟩ = some (.int .i64 t.at_))

theorem TagsAt.nil (w : World) : TagsAt w none 0 [] := ⟨rfl, fun h => absurd h (by omega)⟩
theorem TagsAt.zero (w : World) (A : Option Addr) : TagsAt w A 0 [] := ⟨rfl, fun h => absurd h (by omega)⟩
theorem TagsAt.len {w : World} {A : Option Addr} {n : Nat} {l : List Tag} (h : TagsAt w A n l) : l.length = n := h.1

theorem TagsAt.below {w w' : World} {A : Option Addr} {n : Nat} {l : List Tag} {B : Nat} (h : TagsAt w A n l) (hb : Below B w w') (hB : w.heap.size ≤ B) : TagsAt w' A n l :=
  ⟨h.1, fun hn => by
    obtain ⟨b, off, e, hlt, hc⟩ := h.2 hn
    refine ⟨b, off, e, Nat.lt_of_lt_of_le hlt hb.size, fun i t hi => ?_⟩
    obtain ⟨c0, c1, c2, c3⟩ := hc i t hi
    have k : ∀ o, w'.cell? ⟨b, o, none⟩ = w.cell? ⟨b, o, none⟩ := fun o => hb.cell (p := ⟨b, o, none⟩) (by simp; omega)
    exact ⟨(k _).trans c0, (k _).trans c1, (k _).trans c2, (k _).trans c3⟩⟩

theorem TagsAt.take {w : World} {A : Option Addr} {n : Nat} {l : List Tag} (h : TagsAt w A n l) {k : Nat} (hk : k ≤ n) : TagsAt w A k (l.take k) :=
  ⟨by rw [List.length_take, h.1]; omega, fun hn => by
    obtain ⟨b, off, e, hlt, hc⟩ := h.2 (by omega)
    refine ⟨b, off, e, hlt, fun i t hi => hc i t ?_⟩
    rw [List.getElem?_take] at hi
    split at hi
    · exact hi
    · cases hi⟩
/-- At an index: the address and the four cells. -/
theorem TagsAt.at_ {w : World} {A : Option Addr} {n : Nat} {l : List Tag} (h : TagsAt w A n l) {k : Nat} (hk : k < n) :
    ∃ b off t, A = some ⟨b, off, none⟩ ∧ b < w.heap.size ∧ l[k]? = some t ∧
    w.cell? ⟨b, off + k * 4, none⟩ = some (.int .i64 t.id) ∧ w.cell? ⟨b, off + k * 4 + 1, none⟩ = some (.int .i64 t.own) ∧
    w.cell? ⟨b, off + k * 4 + 2, none⟩ = some (.int .i64 t.heir) ∧ w.cell? ⟨b, off + k * 4 + 3, none⟩ = some (.int .i64 t.at_) := by
  obtain ⟨b, off, e, hlt, hc⟩ := h.2 (by omega)
  have hl : k < l.length := by have := h.1; omega
  exact ⟨b, off, l[k], e, hlt, List.getElem?_eq_getElem hl, hc k _ (List.getElem?_eq_getElem hl)⟩

end Go.Proofs.Ytagfdgdoboncfaa
