/- What (*Store).do does to the maps. -/
import Derived.Test.YtnokhjhhadnckaaBurns
import Derived.Test.YtnokhjhhadnckaaEntry
import Derived.Test.YtnokhjhhadnckaaRegions
set_option linter.unusedSimpArgs false
set_option linter.unusedVariables false
set_option linter.unusedSectionVars false
namespace Go.Proofs.Ytnokhjhhadnckaa
open Go.RowKit
section
variable {W w : World} {I : Hp} {l : List HP} {p : Nat} {S : Str}
theorem St.look_spot {b : Nat} {L : List (K4 × TS)} (h : St W I w (HP.mapOf keyKT thingHP b L :: l)) (a : K4) :
    ∃ v H, (∀ w2, Below w.heap.size w w2 → (Instr.lookup 85 (.map (some b)) (keyKT.kv a) false).run Try.prog w2 = .ok v w2) ∧ St W I w (optHP v (get a L) :: H :: l) ∧ Spot a b L H := by
  rcases h.mapOf_look Try.underlying85 (z := .pointer none) (fun w => by kernel_rfl) a with ⟨hg, hl⟩ | ⟨v, x, hg, hl, h1⟩
  · exact ⟨.pointer none, HP.mapOf keyKT thingHP b L, fun w2 hw => hl w2 hw false, by rw [hg]; exact St.pure_shut rfl h, spot_seen a b L⟩
  · exact ⟨v, HP.hole keyKT thingHP b a v (del a L), fun w2 hw => hl w2 hw false, by rw [hg]; exact h1, spot_hole a b v L⟩
theorem late_entry {B : SB} (k : K4) (h : St W I w (lateHP B S :: l)) :
    ∃ st v w', (Instr.mapEntry 86 (.map (some B.m3)) (keyKT.kv k)).run Try.prog w = .ok (.tuple #[v, goInt (st : Nat)]) w' ∧ w'.heap.size = w.heap.size ∧
      St W I w' (deedsHP v (lateAt S k) :: HP.held keyKT deedsHP B.m3 k v st (del k S.late) :: l) := by
  obtain ⟨st, v, w', hr, hs, h1 | ⟨x, hg, h1⟩⟩ := St.mapOf_entry h Try.underlying86 (z := .slice none 0 0) (fun w => by kernel_rfl) k
  · obtain ⟨hg, rfl, h2⟩ := h1
    refine ⟨st, _, w', hr, hs, ?_⟩
    rw [show lateAt S k = [] by simp [lateAt, hg]]
    exact deeds_nil _ _ _ h2
  · refine ⟨st, v, w', hr, hs, ?_⟩
    rw [show lateAt S k = x by simp [lateAt, hg]]
    exact h1
theorem dcells_len : ∀ (ds : List Dd) (ps : List Value), ps.length = ds.length → (dcells ds ps).length = ds.length * 4
  | [], [], _ => rfl
  | d :: ds, q :: ps, h => by
    have := dcells_len ds ps (by simpa using h)
    simp only [dcells, List.length_cons, this]
    omega
theorem dcells_app : ∀ (ds : List Dd) (ps : List Value) (d : Dd) (q : Value), ps.length = ds.length → dcells (ds ++ [d]) (ps ++ [q]) = dcells ds ps ++ [intV d.kind, intV d.n, q, .string d.name]
  | [], [], _, _, _ => rfl
  | d' :: ds, q' :: ps, d, q, h => by
    have := dcells_app ds ps d q (by simpa using h)
    simp only [List.cons_append, dcells, this]
theorem deed_info : (Try.prog.info? 95).map (fun i => (i.zero, i.size, i.bytes)) = some (some (.agg #[.int .i64 0, .int .i64 0, .slice none 0 0, .string ⟨#[]⟩]), 4, 56) := by kernel_rfl
theorem deeds_append {v : Value} {ds : List Dd} {g : Nat} (d : Dd) (pv : Value) {f : Nat × Nat} (ty : TypeId) (h : St W I w (deedsHP v ds :: HP.pt g (.cells #[intV d.kind, intV d.n, pv, .string d.name] 95 f) :: l)) (hp : BytesI I pv d.p) (hn : ds.length ≤ 1000000) (hone : pv.oneCell' = true) :
    ∃ v' w', (Builtin.append_ #[105, 105] ty #[v, .slice (some ⟨g, 0, none⟩) 1 1]).run Try.prog w = .ok v' w' ∧
      St W I w' (deedsHP v' (ds ++ [d]) :: HP.pt g (.cells #[intV d.kind, intV d.n, pv, .string d.name] 95 f) :: l) := by
  obtain ⟨ps, hps, h1⟩ := h.deeds_open
  have hc := cells_of (h1.pull 1 _ rfl).heap
  have hsrc : SrcAt w 4 (some ⟨g, 0, none⟩) 1 [intV d.kind, intV d.n, pv, .string d.name] := ⟨rfl, fun _ => ⟨_, rfl, fun j u hu => by
    rw [add_plain, Nat.zero_add, hc j]
    simpa using hu⟩, fun u hu => by
      simp only [List.mem_cons, List.mem_nil_iff, or_false] at hu
      rcases hu with rfl | rfl | rfl | rfl
      · rfl
      · rfl
      · exact hone
      · rfl⟩
  obtain ⟨i0, hi0, hz0, hz1, hz2⟩ := info_parts deed_info
  have hown := h1.row_owns
  obtain ⟨v', w', hr, ho', hgr, hv'⟩ := run_append_src (P := Try.prog) w 0 105 ty 95 i0 _ 4 56 Try.underlying105 hi0 hz0 hz1 hz2 rfl (by decide) v ds.length _ hown (some ⟨g, 0, none⟩) 1 1 _ hsrc (by intro h; cases h) (by unfold maxLen; omega) (by omega) (Nat.zero_le _)
  refine ⟨v', w', hr, St.deeds_shut (ps := ps ++ [pv]) ?_ ?_⟩
  · obtain ⟨e1, e2⟩ := hps
    refine ⟨by simp [e1], fun i d' q h1 h2 => ?_⟩
    rw [List.getElem?_append] at h1 h2
    by_cases hi : i < ds.length
    · rw [if_pos hi] at h1
      rw [if_pos (by omega)] at h2
      exact e2 i d' q h1 h2
    · rw [if_neg hi] at h1
      rw [if_neg (by omega)] at h2
      have hi' := (List.getElem?_eq_some_iff.1 h1).1
      simp only [List.length_cons, List.length_nil] at hi'
      have e3 : i = ds.length := by omega
      subst e3
      simp only [Nat.sub_self, List.getElem?_cons_zero, Option.some.injEq] at h1
      rw [e1] at h2
      simp only [Nat.sub_self, List.getElem?_cons_zero, Option.some.injEq] at h2
      subst h1
      subst h2
      exact hp
  · rw [dcells_app ds ps d pv hps.1, show (ds ++ [d]).length = ds.length + 1 by simp]
    exact h1.row_grown ho' hgr hv'
end
end Go.Proofs.Ytnokhjhhadnckaa
