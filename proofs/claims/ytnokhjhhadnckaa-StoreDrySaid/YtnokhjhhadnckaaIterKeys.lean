/- maps.Keys of a map of keys that are structs, and slices.Collect over it. -/
import Derived.Test.YtnokhjhhadnckaaDelete
import Derived.RangeFuncNested
import Derived.RangeFuncBound
import Derived.RangeFuncCalls
import Derived.RangeFuncLeaves
import Derived.RangeFuncKeeps
import Derived.Shelf.Abstract
import Derived.Shelf.RegionOpen
import Derived.WalkKit
import Derived.OwnWalkIn
import Derived.TacticsInMore
import Derived.LoopNIn
import Derived.LoopIn
set_option linter.unusedSimpArgs false
set_option linter.unusedVariables false
set_option linter.unusedSectionVars false
namespace Go.Proofs.Ytnokhjhhadnckaa
open Go.RowKit Go.Shelf
attribute [local go_sem] Oper.semAt_some
section
theorem iter_left' {w : World} {m r : Nat} {L left : List (K4 × Value)} (h : (HP.iter keyKT m r L left).p Hp.nil w.hp) : w.rangeLeft m r = left.length := (iter_at h).iter_left
theorem iter_walks {w w' : World} {m r : Nat} {L left : List (K4 × Value)} (h : (HP.iter keyKT m r L left).p Hp.nil w.hp) (hk : KeepsWalks w w') : (HP.iter keyKT m r L left).p Hp.nil w'.hp := by
  obtain ⟨es, clock, L', since, seen, c0, h1, h2, h3, h4, h5⟩ := h
  exact ⟨es, clock, L', since, seen, c0, hk.same _ _ h1 rfl, h2, h3, hk.same _ _ h4 rfl, h5⟩
theorem iter_grown {w w' : World} {m r : Nat} {L left : List (K4 × Value)} (h : (HP.iter keyKT m r L left).p Hp.nil w.hp) (hg : w.grownBy w' none) : (HP.iter keyKT m r L left).p Hp.nil w'.hp := by
  obtain ⟨es, clock, L', since, seen, c0, h1, h2, h3, h4, h5⟩ := h
  have old : ∀ {b o}, w.hp b = some o → w'.hp b = some o := fun {b o} e => (hg.block b (Array.getElem?_eq_some_iff.1 (show w.heap[b]? = some o from e)).1 (by simp)).trans e
  exact ⟨es, clock, L', since, seen, c0, old h1, h2, h3, old h4, h5⟩
theorem iter_is {w : World} {m r : Nat} {L left : List (K4 × Value)} (h : (HP.iter keyKT m r L left).p Hp.nil w.hp) : ∃ o : Obj, w.heap[r]? = some o ∧ o.isWalk = true := by
  obtain ⟨es, clock, L', since, seen, c0, h1, h2, h3, h4, h5⟩ := h
  exact ⟨_, h4, rfl⟩
theorem iter_start {w : World} {m : Nat} {L : List (K4 × Value)} (h : (HP.map keyKT m L).p Hp.nil w.hp) : ∃ w', (Instr.range 86 (.map (some m))).run Try.prog w = .ok (.pointer (some ⟨w.heap.size, 0, none⟩)) w' ∧ (HP.iter keyKT m w.heap.size L L).p Hp.nil w'.hp ∧ w.grownBy w' none := by
  obtain ⟨es, clock, L1, hb, q, p⟩ := h
  have hrun := run_range_map (P := Try.prog) w _ _ _ m es clock Try.underlying86 hb
  have s : St { w with heap := #[] } Hp.nil w [HP.map keyKT m L] := ⟨rfl, rfl, rfl, fun c o e => by simp [World.hp] at e, Hp.nil_sub _, w.hp, Hp.sub.refl _, (Hp.disj_nil _).symm, w.hp, Hp.nil, Hp.disj_nil _, Hp.sub.refl _, Hp.nil_sub _, ⟨es, clock, L1, hb, q, p⟩, trivial⟩
  obtain ⟨w2, hr2, _, s2⟩ := s.range (P := Try.prog) Try.underlying86
  rw [hrun] at hr2
  cases hr2
  exact ⟨_, hrun, s2.iter_out, World.grownBy_alloc _ _ _⟩
set_option maxRecDepth 100000 in
set_option maxHeartbeats 2000000 in
theorem keys1_in (F : Fence) (n : Nat) (hF : F.fn 93) (hro : F.round = none) (hn : 1 ≤ n) (Bm m : Nat) (L : List (K4 × Value)) (w : World) (hBm : Bm < w.heap.size) (hmlt : m < w.heap.size)
    (hm : w.cell? ⟨Bm, 0, none⟩ = some (.map (some m))) (hL : (HP.map keyKT m L).p Hp.nil w.hp) :
    SeqStopsK F n Try.prog 93 #[.pointer (some ⟨Bm, 0, none⟩)] (fun k : K4 => #[k.val]) KeepsWalks (fun xs => xs.Perm (L.map (·.1))) (fun _ => True) L.length w := fun l J Jx W hW hJ hJx hY h0 => by
  have hm' := (hW.cell (p := ⟨Bm, 0, none⟩) hBm).trans hm
  have hL' : (HP.map keyKT m L).p Hp.nil W.hp := by
    obtain ⟨es, clock, L1, hb, q, p⟩ := hL
    exact ⟨es, clock, L1, (hW.block m hmlt).trans hb, q, p⟩
  obtain ⟨w0, hrun0, hit0, hg0⟩ := iter_start hL'
  refine callsIn_of_wp Try.func93 rfl hF ?_ hro
  simp only [Try.ntmps93, List.size_toArray, List.length_cons, List.length_nil, Nat.reduceAdd, Nat.reduceSub, Array.replicate_succ, Array.replicate_zero, List.push_toArray, List.append_toArray, List.nil_append, List.cons_append]
  have HJ := Lib.hid hJ
  have HY := Lib.hid hY
  have HIT0 := Lib.hid hit0
  have HJ0 := Lib.hid (hJ [] W w0 none h0 hg0 (fun r e => by cases e))
  clear hJ hY hit0 hJx hL' hL hW hm
  gi_wp2
  gi_loopw [3] (fun _ wr => ∃ (left : List (K4 × Value)) (done : List K4), (left.map (·.1) ++ done).Perm (L.map (·.1)) ∧ (HP.iter keyKT m W.heap.size L left).p Hp.nil wr.hp ∧ J done wr) (fun _ wr => wr.rangeLeft m W.heap.size)
  case atStart => exact ⟨L, [], by simp, HIT0.out, HJ0.out⟩
  case round =>
    obtain ⟨left, done, hp, hit, hJs⟩ := hrel
    have hlen : left.length + done.length = L.length := by have := hp.length_eq; simpa using this
    rcases next_plain (P := Try.prog) hit 0 with ⟨rfl, hrun⟩ | ⟨a, v, left', w2, hpl, hrun, hent, hit2, hg2⟩
    · have HP' := Lib.hid hp
      have HJS := Lib.hid hJs
      clear hp hJs hit hlen
      gi_wp2
      go_end0
      exact ⟨⟨_, rfl⟩, .inl ⟨done, by simpa using HP'.out, HJS.out⟩⟩
    · have hJ2 : J done w2 := HJ.out done wr w2 (some W.heap.size) hJs hg2 (fun r e => by cases e; exact ⟨Nat.le_refl _, iter_is hit⟩)
      obtain ⟨a0, a1, a2, a3⟩ := a
      simp only [keyKT, K4.val] at hrun hent
      have hg4 : w2.grownBy (w2.alloc (.cells #[.int .i64 a0, .int .i64 a1, .int .i64 a2, .int .i64 a3] 27)) none := World.grownBy_alloc _ _ _
      have hJ4 := HJ.out done w2 _ none hJ2 hg4 (fun r e => by cases e)
      have hit4 := iter_grown hit2 hg4
      have hlt : done.length < L.length := by have := hpl.length_eq; simp at this; omega
      obtain ⟨fn, tmps, assign, body, hy, hR⟩ := HY.out done ⟨a0, a1, a2, a3⟩ _ hJ4 hlt
      simp only [K4.val] at hy
      have HP' := Lib.hid hp
      have HPL := Lib.hid hpl
      have HIT := Lib.hid hit
      have HIT4 := Lib.hid hit4
      have HR := Lib.hid hR
      clear hp hpl hit hit4 hit2 hJ2 hJ4 hJs hg2 hg4 hlen hlt hR
      gi_wp2
      refine HR.out.mono ?_
      rintro e W3 (⟨rfl, hJ3, hk3⟩ | ⟨rfl, hJx3⟩)
      · have hit5 := iter_walks HIT4.out hk3
        have HIT5 := Lib.hid hit5
        clear hit5 hk3
        gi_wp2
        go_roundw
        case rel =>
          refine ⟨left', done ++ [⟨a0, a1, a2, a3⟩], ?_, HIT5.out, hJ3⟩
          refine List.Perm.trans ?_ HP'.out
          have h1 := (HPL.out.map (·.1)).append_right done
          refine List.Perm.trans ?_ h1.symm
          simp only [List.map_cons, List.cons_append]
          rw [← List.append_assoc]
          exact List.perm_append_comm (l₂ := [_])
        case measure =>
          rw [iter_left' HIT5.out, iter_left' HIT.out]
          have := HPL.out.length_eq
          simp at this
          omega
      · gi_wp2
        (try simp only [Exit.inBlock, Exit.then])
        refine bodyPost_ret (results_none rfl _ _ _) rfl ?_
        exact ⟨⟨_, rfl⟩, .inr ⟨_, trivial, hJx3⟩⟩
theorem block_own {β : Type} (B : Nat) (cs : Array Value) (t : TypeId) (f : Nat × Nat) : Own (fun (_ : β) W => W.heap[B]? = some (.cells cs t f)) := fun s X Y row hs hg hrow => by
  refine (hg.block B (Array.getElem?_eq_some_iff.1 hs).1 (fun e' => ?_)).trans hs
  obtain ⟨o, ho, hc⟩ := hrow B e'.symm
  rw [hs] at ho
  cases ho
  cases hc
set_option maxRecDepth 100000 in
set_option maxHeartbeats 2000000 in
theorem appendSeq_in (F : Fence) (n : Nat) (hF : F.fn 113) (hro : F.round = none) (hn : 2 ≤ n) (g : Nat) (lb : Array Value) (hFg : F.fn g) (eg : ∀ args w, (callFunc g args).run Try.prog w = .ok (.enter g args) w)
    (S Sp : List K4 → Prop) (N : Nat) (hN : N ≤ 1000000) (w : World) (hseq : SeqStopsK F (n - 1) Try.prog g lb (fun k : K4 => #[k.val]) KeepsWalks S Sp N w) :
    CallsIn F n Try.prog 113 #[.slice none 0 0, .func (.func g) #[] lb] w fun e w' => ∃ (v : Value) (ss : List K4), e = .returned v ∧ S ss ∧ w'.ownsRow w.heap.size 27 4 v ss.length (kflat ss) ∧ Below w.heap.size w w' := by
  have h1 : 1 ≤ n := by omega
  obtain ⟨i0, hi0, hz0, hz1, hz2⟩ := info_parts cloneK_info
  refine callsIn_of_wp_marks Try.func113 rfl hF ?_ hro
  simp only [Try.ntmps113, List.size_toArray, List.length_cons, List.length_nil, Nat.reduceAdd, Nat.reduceSub, Array.replicate_succ, Array.replicate_zero, List.push_toArray, List.append_toArray, List.nil_append, List.cons_append]
  gi_wp2
  refine wpIn_rangeFunc_ownH hro h1 (gf := g) (lb := lb) rfl hFg eg hseq walksK_t walksK_b ((Below.refl _ _).alloc (Nat.le_refl _) _) (fun _ => rfl)
    (fun pre W => (∃ v, Boxed W w.heap.size 40 v ∧ W.ownsRow w.heap.size 27 4 v pre.length (kflat pre) ∧ True) ∧ Below w.heap.size w W)
    (fun _ _ _ => False)
    (OwnFrom.and (Own.from (holdsRow_own w.heap.size w.heap.size 40 27 4 (fun pre : List K4 => pre.length) kflat (fun _ _ => True)) _) (ownFrom_below (Nat.le_refl _) (by simp)))
    (fun _ _ _ _ _ hs _ _ => hs) ⟨⟨_, Boxed.new w _ _, ⟨rfl, .inl ⟨rfl, rfl⟩⟩, trivial⟩, (Below.refl _ _).alloc (Nat.le_refl _) _⟩
    (fun x a' W => ∃ Bx, w.heap.size < Bx ∧ W.heap[Bx]? = some (.cells #[.int .i64 x.kind, .int .i64 x.img, .int .i64 x.num, .int .i64 x.snap] 27 (0, 0)) ∧ a' = { tmps := #[.slice none 0 0, .func (.func g) #[] lb, .pointer (some ⟨w.heap.size, 0, none⟩), undef, .slice none 0 0, .pointer (some ⟨Bx, 0, none⟩), .func (.func g) #[] lb, x.val, undef, undef, undef, undef, undef], defers := [] })
    (fun x a' => by
      rintro s X Y row ⟨Bx, h1, h2, h3⟩ hg hr
      exact ⟨Bx, h1, block_own (β := Unit) _ _ _ _ s X Y row h2 hg (fun r e => (hr r e).2), h3⟩) ?assign ?body ?done ?stop
  case assign =>
    rintro l pre ⟨x0, x1, x2, x3⟩ W K ⟨⟨v, hv, hr, _⟩, hB⟩ hK
    simp only [K4.val]
    have HK := Lib.hid hK
    clear hK
    have hlt := hv.lt
    gi_wp2
    exact HK.out _ _ ((KeepsOthers.alloc _ _).from _) (KeepsWalks.alloc _ _) ⟨⟨v, hv.alloc _, hr.alloc _, trivial⟩, (hB.trans ((Below.refl _ _).alloc hB.size _))⟩ ⟨W.heap.size, hlt, World.alloc_heap_new W _, rfl⟩
  case body =>
    rintro l pre ⟨x0, x1, x2, x3⟩ a' W hl ⟨rc, hrc⟩ ⟨⟨v, hv, hrow, _⟩, hB⟩ ⟨Bx, hBx, hx, rfl⟩ hlen
    simp only [K4.val]
    have hc := hv.cell
    have hf := hv.frozen
    have y0 : W.cell? ⟨Bx, 0, none⟩ = some (.int .i64 x0) := cells_of hx 0
    have y1 : W.cell? ⟨Bx, 1, none⟩ = some (.int .i64 x1) := cells_of hx 1
    have y2 : W.cell? ⟨Bx, 2, none⟩ = some (.int .i64 x2) := cells_of hx 2
    have y3 : W.cell? ⟨Bx, 3, none⟩ = some (.int .i64 x3) := cells_of hx 3
    have hnew : ∀ j u, [(.int .i64 x0 : Value), .int .i64 x1, .int .i64 x2, .int .i64 x3][j]? = some u → (W.alloc (.cells #[.int .i64 x0, .int .i64 x1, .int .i64 x2, .int .i64 x3] 27)).cell? ((⟨W.heap.size, 0, none⟩ : Addr).add j) = some u := fun j u hu => by
      rw [add_plain, Nat.zero_add]
      rw [cells_of (World.alloc_heap_new W _) j]
      simpa using hu
    have hpl : pre.length ≤ 1000000 := by omega
    clear hx hrc
    gi_wp2_with (gi_at_builtin; refine wpListIn_append_own _ rfl _ _ 40 rfl w.heap.size 27 i0 _ 4 32 Try.underlying40 hi0 hz0 hz1 hz2 rfl (by decide) _ _ _ rfl (hrow.alloc _) ⟨W.heap.size, 0, none⟩ 1 1 [.int .i64 x0, .int .i64 x1, .int .i64 x2, .int .i64 x3] rfl rfl hnew (by simp [Value.oneCell']) (by unfold maxLen; omega) (by omega) (by have := hB.size; simp; omega) ?_; intro v' w1 hown' hgrow _; obtain ⟨g', cap', rfl⟩ := ownsRow_succ hown'; obtain ⟨hv1, hv2, hr2, hk2, hb2⟩ := hv.appended (by decide) hrow hB.size (Nat.le_refl _) hown' hgrow; have hc1 := hv1.cell; have hf1 := hv1.frozen)
    have e1 : (pre ++ [(⟨x0, x1, x2, x3⟩ : K4)]).length = pre.length + 1 := by simp
    have e2 : kflat (pre ++ [(⟨x0, x1, x2, x3⟩ : K4)]) = kflat pre ++ [.int .i64 x0, .int .i64 x1, .int .i64 x2, .int .i64 x3] := kflat_append _ _
    refine ⟨hk2.from _, ⟨hk2.size, fun k o h hw => hk2.same k o h (Obj.not_cells_of_walk hw)⟩, ⟨_, hv2, ?_, trivial⟩, hB.trans hb2⟩
    rw [e1, e2]
    exact hr2
  case done =>
    rintro D ys W hD hS ⟨⟨v, hv, hr, _⟩, hB⟩ hK
    have hc := hv.cell
    have HS := Lib.hid hS
    have HR := Lib.hid hr
    have HB := Lib.hid hB
    have HK := Lib.hid hK
    clear hS hr hB hK
    gi_wp2
    refine ⟨by simp, .inl ⟨_, _, rfl, run_takeDeferred HK.out, ?_⟩⟩
    exact ⟨_, results_tmp rfl _ _ _, v, ys, rfl, HS.out, ownsRow_putObj HR.out _ HK.out rfl, HB.out.trans (belowK_b (w := w) (Nat.le_refl _) W D _ _ (by simp at hD; omega) HK.out rfl rfl)⟩
  case stop =>
    rintro D c pre W _ _ h _
    exact h.elim
set_option maxHeartbeats 1000000 in
theorem collect_in (F : Fence) (n : Nat) (hF : F.fn 91) (hF2 : F.fn 113) (hro : F.round = none) (hn : 3 ≤ n) (g : Nat) (lb : Array Value) (hFg : F.fn g) (eg : ∀ args w, (callFunc g args).run Try.prog w = .ok (.enter g args) w)
    (S Sp : List K4 → Prop) (N : Nat) (hN : N ≤ 1000000) (w : World) (hseq : SeqStopsK F (n - 1 - 1) Try.prog g lb (fun k : K4 => #[k.val]) KeepsWalks S Sp N w) :
    CallsIn F n Try.prog 91 #[.func (.func g) #[] lb] w fun e w' => ∃ (v : Value) (ss : List K4), e = .returned v ∧ S ss ∧ w'.ownsRow w.heap.size 27 4 v ss.length (kflat ss) ∧ Below w.heap.size w w' := by
  have h1 : 1 ≤ n := by omega
  refine callsIn_of_wp Try.func91 rfl hF ?_ hro
  simp only [Try.ntmps91, List.size_toArray, List.length_cons, List.length_nil, Nat.reduceAdd, Nat.reduceSub, Array.replicate_succ, Array.replicate_zero, List.push_toArray, List.append_toArray, List.nil_append, List.cons_append]
  gi_wp2_with (gi_at_call 113; refine (appendSeq_in F (n - 1) hF2 hro (by omega) g lb hFg eg S Sp N hN _ hseq).mono ?_; rintro e w' ⟨v, ss, rfl, hS, hrow, hb⟩)
  go_ret
  exact ⟨v, ss, rfl, hS, hrow, hb⟩
/-- slices.Collect(maps.Keys(m)): the keys, in some order. -/
theorem collect_keys (Bm m : Nat) (L : List (K4 × Value)) (w : World) (hBm : Bm < w.heap.size) (hmlt : m < w.heap.size) (hm : w.cell? ⟨Bm, 0, none⟩ = some (.map (some m))) (hL : (HP.map keyKT m L).p Hp.nil w.hp) (hN : L.length ≤ 1000000) :
    Calls Try.prog 91 #[.func (.func 93) #[] #[.pointer (some ⟨Bm, 0, none⟩)]] w fun e w' => ∃ (v : Value) (ss : List K4), e = .returned v ∧ ss.Perm (L.map (·.1)) ∧ w'.ownsRow w.heap.size 27 4 v ss.length (kflat ss) ∧ Below w.heap.size w w' :=
  (callsIn_wide (n := 5)).1 (collect_in Fence.wide 5 trivial trivial rfl (by omega) _ _ trivial (enters_of Try.func93 (by kernel_rfl) rfl) _ _ L.length hN w (keys1_in Fence.wide 3 trivial rfl (by omega) Bm m L w hBm hmlt hm hL))
end
end Go.Proofs.Ytnokhjhhadnckaa
