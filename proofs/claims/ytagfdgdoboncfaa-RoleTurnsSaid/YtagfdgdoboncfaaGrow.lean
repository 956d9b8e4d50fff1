import Derived.Test.YtagfdgdoboncfaaGrowFns
import Derived.Test.YtagfdgdoboncfaaNextID
import Derived.Test.YtagfdgdoboncfaaKnown
namespace Go.Proofs.Ytagfdgdoboncfaa
open Go.RowKit
/-- The slice value '.slice A n c' reads as the list l of ints. -/
def IntsAt (w : World) (A : Option Addr) (n : Nat) (l : List Int) : Prop :=
  l.length = n ∧ (0 < n → ∃ b off, A = some ⟨b, off, none⟩ ∧ b < w.heap.size ∧ ∀ i x, l[i]? = some x → w.cell? ⟨b, off + i, none⟩ = some (.int .i64 x))
theorem IntsAt.at_ {w : World} {A : Option Addr} {n : Nat} {l : List Int} (h : IntsAt w A n l) {k : Nat} (hk : k < n) :
    ∃ b off x, A = some ⟨b, off, none⟩ ∧ b < w.heap.size ∧ l[k]? = some x ∧ w.cell? ⟨b, off + k, none⟩ = some (.int .i64 x) := by
  obtain ⟨b, off, e, hlt, hc⟩ := h.2 (by omega)
  have hl : k < l.length := by have := h.1; omega
  exact ⟨b, off, l[k], e, hlt, List.getElem?_eq_getElem hl, hc k _ (List.getElem?_eq_getElem hl)⟩
theorem owns_one (w : World) (t : Tag) {g : Nat} (hgz : g = w.heap.size) : (w.alloc (.cells #[.int .i64 t.id, .int .i64 t.own, .int .i64 t.heir, .int .i64 t.at_] 50)).ownsRow w.heap.size 50 4 (.slice (some ⟨g, 0, none⟩) 1 1) 1 (flat [t]) := by
  subst hgz
  exact ⟨rfl, .inr ⟨w.heap.size, 1, _, rfl, Nat.le_refl _, heap_alloc_new w _, Nat.le_refl _, by simp [maxLen], rfl, by simp [flat, Tag.vals]⟩⟩
theorem own_more {w' : World} {base e m : Nat} {v : Value} {ts : List Tag} (t : Tag) (hown : w'.ownsRow base e 4 v (m + 1) (flat ts ++ t.vals)) :
    ∃ B d, v = .slice B (m + 1) d ∧ m + 1 ≤ d ∧ w'.ownsRow base e 4 (.slice B (m + 1) d) (m + 1) (flat (ts ++ [t])) := by
  have hf : flat ts ++ t.vals = flat (ts ++ [t]) := by simp [flat]
  rw [hf] at hown
  rcases hown.2 with ⟨_, h⟩ | ⟨g, cap, cur, hv, _, _, hc, _, _, _⟩
  · omega
  · subst hv
    exact ⟨_, _, rfl, hc, hown⟩
set_option maxRecDepth 100000 in
set_option maxHeartbeats 4000000 in
theorem grow_any (A : Option Addr) (n c : Nat) (l : List Int) (w : World) (hl : IntsAt w A n l) (hn : n ≤ 60) :
    Calls Try.prog 8 #[.slice A n c] w fun e w' => ∃ B m d, e = .returned (.tuple #[.slice B m d, .int .i64 (grow l).2]) ∧ TagsAt w' B m (grow l).1 ∧ m ≤ 20 ∧ m ≤ d ∧ Below w.heap.size w w' ∧ 0 ≤ (grow l).2 ∧ (grow l).2 ≤ 180 := by
  obtain ⟨i0, hi0, hz0, hz1, hz2⟩ := info_parts tag_info
  go_enter Try.func8, Try.ntmps8
  go_wp2
  go_loopw [4, 5, 6] (fun v4 v5 v6 wr => ∃ (k : Nat) (B : Option Addr) (m d : Nat) (at_ : Int) (ts : List Tag), k ≤ n ∧ v6 = .int .i64 k ∧ v4 = .slice B m d ∧ v5 = .int .i64 at_ ∧ (ts, at_) = grow (l.take k) ∧
      wr.ownsRow w.heap.size 50 4 (.slice B m d) m (flat ts) ∧ 1 ≤ m ∧ m ≤ 20 ∧ m ≤ d ∧ 0 ≤ at_ ∧ at_ ≤ 3 * k ∧ Below w.heap.size w wr) (fun _ _ v6 _ => n - (intOf v6).toNat)
  case atStart => exact ⟨0, _, 1, 1, 0, [⟨1, 1, 0, 0⟩], Nat.zero_le _, rfl, rfl, rfl, rfl, owns_one w ⟨1, 1, 0, 0⟩ rfl, by omega, by omega, by omega, by omega, by omega, (Below.refl _ _).alloc (Nat.le_refl _) _⟩
  case round =>
    obtain ⟨k, B, m, d, at_, ts, hk, rfl, rfl, rfl, hg, hown, hm1, hm, hmd, ha0, ha1, hb⟩ := hrel
    have HG := Lib.hid hg
    have HO := Lib.hid hown
    have hbz := hb.size
    clear hg hown
    by_cases hlt : k < n
    · by_cases h20 : m < 20
      · obtain ⟨b, off, x, rfl, hB, hx, c0⟩ := hl.at_ hlt
        have c0' := (hb.cell (p := ⟨b, off + k, none⟩) hB).trans c0
        have HX := Lib.hid hx
        have hBr : b < wr.heap.size := by omega
        have e3 := i64_and3 x
        have e4 := i64_bit4 x
        have e16 := i64_bit16 x
        have e1 := i64_and1 (x / 8)
        have b3 : 0 ≤ x % 4 := by omega
        have b3' : x % 4 ≤ 3 := by omega
        have b1 : 0 ≤ x / 8 % 2 := by omega
        have b1' : x / 8 % 2 ≤ 1 := by omega
        clear hx c0
        by_cases h4 : x / 4 % 2 = 0
        · have t4 : (x / 4 % 2 * 4 == 0) = true := by rw [h4]; rfl
          have HZ4 := Lib.hid h4
          clear h4
          have HS : Hid (growStep (ts, at_) x = (ts, at_ + x % 4)) := by
            have hts : ts.length = m := (TagsAt.of_own HO.out).1
            rw [growStep, if_neg (by show ¬ 20 ≤ ts.length; omega), if_pos HZ4.out]
            exact rfl
          go_wp2
          go_roundw
          case rel => exact ⟨k + 1, _, m, d, at_ + x % 4, ts, by omega, by go_num, rfl, rfl, by rw [grow_more HX.out, ← HG.out, HS.out], HO.out, hm1, hm, hmd, by omega, by omega, hb⟩
          case measure => simp [intOf]; omega
        · have t4 : (x / 4 % 2 * 4 == 0) = false := by rw [beq_eq_false_iff_ne]; omega
          have HZ4 := Lib.hid h4
          clear h4
          by_cases h16 : x / 16 % 2 = 0
          · have t16 : (x / 16 % 2 * 16 != 0) = false := by rw [h16]; rfl
            have HS : Hid (growStep (ts, at_) x = (ts ++ [⟨nextId ts (1 + x / 8 % 2), 1 + x / 8 % 2, 0, at_ + x % 4⟩], at_ + x % 4)) := by
              have hts : ts.length = m := (TagsAt.of_own HO.out).1
              rw [growStep, if_neg (by show ¬ 20 ≤ ts.length; omega), if_neg HZ4.out, if_pos h16]
              exact rfl
            clear h16
            go_wp2_with fail
            refine (nextID_any B m d ts (1 + x / 8 % 2) _ (TagsAt.of_own HO.out) (by omega)).mono ?_
            rintro e w' ⟨rfl, rfl⟩
            obtain ⟨id, hid⟩ : ∃ id, nextId ts (1 + x / 8 % 2) = id := ⟨_, rfl⟩
            rw [hid] at HS ⊢
            clear hid
            go_wp2_with (at_builtin
                         refine wpList_append_src _ rfl (.tmp 58) (.tmp 60) 24 rfl w.heap.size 50 i0 _ 4 32 Try.underlying24 hi0 hz0 hz1 hz2 rfl (by omega) (.slice B m d) m (flat ts) rfl ((HO.out.alloc _).alloc _) (some ⟨wr.heap.size + 1, 0, none⟩) 1 1 [.int .i64 id, .int .i64 (1 + x / 8 % 2), .int .i64 0, .int .i64 (at_ + x % 4)] rfl ⟨rfl, fun _ => ⟨_, rfl, World.news_of_block (heap_new_at (by simp) _)⟩, ?one⟩ (fun h => by cases h) (by simp only [maxLen]; omega) (by omega) (by simp; omega) ?_
                         rotate_left
                         intro v1 w1 hown1 hg1 hat1)
            · go_roundw
              case rel =>
                obtain ⟨B1, d1, hv1, hd1, ho1⟩ := own_more ⟨id, 1 + x / 8 % 2, 0, at_ + x % 4⟩ hown1
                refine ⟨k + 1, B1, m + 1, d1, at_ + x % 4, ts ++ [⟨id, 1 + x / 8 % 2, 0, at_ + x % 4⟩], by omega, by go_num, hv1, rfl, by rw [grow_more HX.out, ← HG.out, HS.out], ho1, by omega, by omega, hd1, by omega, by omega, ?_⟩
                refine Below.grown ((hb.alloc hbz _).alloc (by simp; omega) _) hg1 (by simp; omega) (fun q hq => ?_)
                have := HO.out.lt _ hq
                omega
              case measure => simp [intOf]; omega
            · intro u hu
              simp only [List.mem_cons, List.not_mem_nil, or_false] at hu
              rcases hu with rfl | rfl | rfl | rfl <;> rfl
          · have t16 : (x / 16 % 2 * 16 != 0) = true := by rw [bne_iff_ne]; omega
            have HS : Hid (growStep (ts, at_) x = (ts ++ [⟨nextId ts (1 + x / 8 % 2), 0, 3 - (1 + x / 8 % 2), at_ + x % 4⟩], at_ + x % 4)) := by
              have hts : ts.length = m := (TagsAt.of_own HO.out).1
              rw [growStep, if_neg (by show ¬ 20 ≤ ts.length; omega), if_neg HZ4.out, if_neg h16]
              exact rfl
            clear h16
            go_wp2_with fail
            refine (nextID_any B m d ts (1 + x / 8 % 2) _ (TagsAt.of_own HO.out) (by omega)).mono ?_
            rintro e w' ⟨rfl, rfl⟩
            obtain ⟨id, hid⟩ : ∃ id, nextId ts (1 + x / 8 % 2) = id := ⟨_, rfl⟩
            rw [hid] at HS ⊢
            clear hid
            go_wp2_with (at_builtin
                         refine wpList_append_src _ rfl (.tmp 58) (.tmp 60) 24 rfl w.heap.size 50 i0 _ 4 32 Try.underlying24 hi0 hz0 hz1 hz2 rfl (by omega) (.slice B m d) m (flat ts) rfl ((HO.out.alloc _).alloc _) (some ⟨wr.heap.size + 1, 0, none⟩) 1 1 [.int .i64 id, .int .i64 0, .int .i64 (3 - (1 + x / 8 % 2)), .int .i64 (at_ + x % 4)] rfl ⟨rfl, fun _ => ⟨_, rfl, World.news_of_block (heap_new_at (by simp) _)⟩, ?two⟩ (fun h => by cases h) (by simp only [maxLen]; omega) (by omega) (by simp; omega) ?_
                         rotate_left
                         intro v1 w1 hown1 hg1 hat1)
            · go_roundw
              case rel =>
                obtain ⟨B1, d1, hv1, hd1, ho1⟩ := own_more ⟨id, 0, 3 - (1 + x / 8 % 2), at_ + x % 4⟩ hown1
                refine ⟨k + 1, B1, m + 1, d1, at_ + x % 4, ts ++ [⟨id, 0, 3 - (1 + x / 8 % 2), at_ + x % 4⟩], by omega, by go_num, hv1, rfl, by rw [grow_more HX.out, ← HG.out, HS.out], ho1, by omega, by omega, hd1, by omega, by omega, ?_⟩
                refine Below.grown ((hb.alloc hbz _).alloc (by simp; omega) _) hg1 (by simp; omega) (fun q hq => ?_)
                have := HO.out.lt _ hq
                omega
              case measure => simp [intOf]; omega
            · intro u hu
              simp only [List.mem_cons, List.not_mem_nil, or_false] at hu
              rcases hu with rfl | rfl | rfl | rfl <;> rfl
      · have HF : Hid (grow l = (ts, at_)) := by
          have hts : ts.length = m := (TagsAt.of_own HO.out).1
          exact (grow_full (l := l) (k := k) (by rw [← HG.out]; show 20 ≤ ts.length; omega)).trans HG.out.symm
        go_wp2
        go_ret2
        exact ⟨B, m, d, by rw [HF.out]; rfl, by rw [HF.out]; exact TagsAt.of_own HO.out, hm, hmd, hb, by rw [HF.out]; exact ha0, by rw [HF.out]; show at_ ≤ 180; omega⟩
    · have HF : Hid (grow l = (ts, at_)) := by
        have h := HG.out
        rw [List.take_of_length_le (by have := hl.1; omega)] at h
        exact h.symm
      go_wp2
      go_ret2
      exact ⟨B, m, d, by rw [HF.out]; rfl, by rw [HF.out]; exact TagsAt.of_own HO.out, hm, hmd, hb, by rw [HF.out]; exact ha0, by rw [HF.out]; show at_ ≤ 180; omega⟩
end Go.Proofs.Ytagfdgdoboncfaa
