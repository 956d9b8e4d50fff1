/- hectographref17: an object and its copies, how they lie in memory; Read, At, change. -/
import Derived.Test.YtbepmbcbcklmlaaGreatCowTell
import Derived.Test.YtbepmbcbcklmlaaGreatCowSim
set_option linter.unusedSimpArgs false
set_option linter.unusedVariables false
set_option linter.unusedSectionVars false
namespace Go.Proofs.YtbepmbcbcklmlaaGreat
open Go.RowKit
/-- A body, and where its bytes lie. -/
structure B17 where
  o : Option (List Int)
  v : Value
def B17.vals (b : B17) : List Value := [.bool b.o.isSome, b.v]
def B17.val (b : B17) : Value := .agg #[.bool b.o.isSome, b.v]
def B17.ok (I : Hp) (b : B17) : Prop := BytesI I b.v (b.o.getD [])
structure C17 where
  n : Int
  b : B17
def C17.vals (c : C17) : List Value := [.int .i64 c.n, .bool c.b.o.isSome, c.b.v]
def C17.r (c : C17) : Int × Option (List Int) := (c.n, c.b.o)
structure O17 where
  h : B17
  cs : List C17
  cv : Value
def O17.vals (o : O17) : List Value := [.bool o.h.o.isSome, o.h.v, o.cv]
def O17.r (o : O17) : RO := ⟨o.h.o, o.cs.map C17.r⟩
def CopiesI (I : Hp) (v : Value) (cs : List C17) : Prop := RowI I 3 v cs.length (cs.flatMap C17.vals) ∧ ∀ c ∈ cs, c.b.ok I
def O17.ok (I : Hp) (o : O17) : Prop := o.h.ok I ∧ CopiesI I o.cv o.cs
theorem B17.ok.mono {I I' : Hp} {b : B17} (h : b.ok I) (s : I.sub I') : b.ok I' := (bytesIP _ _).mono s h
theorem CopiesI.mono {I I' : Hp} {v : Value} {cs : List C17} (h : CopiesI I v cs) (s : I.sub I') : CopiesI I' v cs := ⟨RowI.mono s h.1, fun c hc => (h.2 c hc).mono s⟩
theorem O17.ok.mono {I I' : Hp} {o : O17} (h : o.ok I) (s : I.sub I') : o.ok I' := ⟨h.1.mono s, h.2.mono s⟩
theorem B17.slice {I : Hp} {b : B17} (h : b.ok I) : ∃ A c, b.v = .slice A (b.o.getD []).length c := by
  obtain ⟨A, c, e, _⟩ := h
  exact ⟨A, c, e⟩
theorem c17s_one {I : Hp} {cs : List C17} (h : ∀ c ∈ cs, c.b.ok I) : ∀ u ∈ cs.flatMap C17.vals, u.oneCell' = true := fun u hu => by
  obtain ⟨z, hz, hu⟩ := List.mem_flatMap.1 hu
  obtain ⟨A, c, e⟩ := B17.slice (h z hz)
  simp only [C17.vals, List.mem_cons, List.mem_nil_iff, or_false] at hu
  rcases hu with rfl | rfl | rfl
  · rfl
  · rfl
  · rw [e]; rfl
/-- A row grows by another. -/
theorem rowk_append {P : Program} {W w : World} {I : Hp} {l : List HP} {e sl : TypeId} {k b : Nat} {zv : Value} (hu : P.underlying sl = some (.slice e)) (hi : (P.info? e).map (fun i => (i.zero, i.size, i.bytes)) = some (some zv, k, b)) (hzv : zv.cells.size = k) (hk : 0 < k) (hb : b ≤ 200)
    {v v2 : Value} {n m : Nat} {xs ys : List Value} (h : St W I w (HP.row e k v n xs :: l)) (hs : SliceSrc w k v2 m ys) (hn : n + m ≤ 1000000) :
    ∃ A' c' w', (Builtin.append_ #[sl, sl] sl #[v, v2]).run P w = .ok (.slice A' (n + m) c') w' ∧ St W I w' (HP.row e k (.slice A' (n + m) c') (n + m) (xs ++ ys) :: l) := by
  obtain ⟨A, c, rfl, hsrc, hA⟩ := hs
  obtain ⟨i0, hi0, hz0, hz1, hz2⟩ := info_parts hi
  have hlb : (n + m) * b ≤ 140737488355328 := Nat.le_trans (Nat.mul_le_mul hn hb) (by decide)
  obtain ⟨v', w', hr, ho', hgr, hv'⟩ := run_append_src (P := P) (w := w) 0 sl sl e i0 zv k b hu hi0 hz0 hz1 hz2 hzv hk v n xs h.row_owns A m c ys hsrc hA (by unfold maxLen; omega) hlb (Nat.zero_le _)
  obtain ⟨A', c', rfl⟩ := is_slice ho'
  exact ⟨A', c', w', hr, h.row_grown ho' hgr hv'⟩
section
variable {W w : World} {I : Hp} {l : List HP}
theorem pt_src {g k : Nat} {cs : Array Value} {e : TypeId} (h : St W I w (HP.pt g (.cells cs e) :: l)) (hl : cs.size = k) (h1 : ∀ u ∈ cs.toList, u.oneCell' = true) : SliceSrc w k (.slice (some ⟨g, 0, none⟩) 1 1) 1 cs.toList := by
  refine ⟨_, _, rfl, ⟨by rw [Array.length_toList, hl, Nat.one_mul], fun _ => ⟨_, rfl, fun j u hu => ?_⟩, h1⟩, fun e => by cases e⟩
  rw [add_plain, Nat.zero_add, cells_of h.heap j, ← hu]
  simp
theorem St.row_src {e : TypeId} {k : Nat} {v : Value} {n : Nat} {xs : List Value} (h : St W I w (HP.row e k v n xs :: l)) (h1 : ∀ u ∈ xs, u.oneCell' = true) : SliceSrc w k v n xs := SliceSrc.of_owns h.row_owns h1
theorem St.empty_row (h : St W I w l) (e : TypeId) (k : Nat) : St W I (w.alloc (.cells #[] e)) (HP.row e k (.slice (some ⟨w.heap.size, 0, none⟩) 0 0) 0 [] :: l) := (h.alloc (.cells #[] e)).row_shut (by simp) (Nat.le_refl _) (by unfold maxLen; omega) (by simp) (by simp)
theorem St.cells3 {g : Nat} {c0 c1 c2 : Value} {t : TypeId} (h : St W I w (HP.pt g (.cells #[c0, c1, c2] t) :: l)) : w.cell? ⟨g, 0, none⟩ = some c0 ∧ w.cell? ⟨g, 1, none⟩ = some c1 ∧ w.cell? ⟨g, 2, none⟩ = some c2 := by
  have y := cells_of h.heap
  have y0 := y 0
  have y1 := y 1
  have y2 := y 2
  simp at y0 y1 y2
  exact ⟨y0, y1, y2⟩
theorem bytesI_cell {v : Value} {q : List Int} {j : Nat} {x : Int} (h : St W I w l) (hv : BytesI I v q) (hj : q[j]? = some x) : ∃ b off, v = .slice (some ⟨b, off, none⟩) q.length (match v with | .slice _ _ c => c | _ => 0) ∧ w.cell? ⟨b, off + j, none⟩ = some (.int .u8 x) := by
  obtain ⟨A, c', rfl, h2, h3, h4, h5, h6⟩ := hv
  have hjl := (List.getElem?_eq_some_iff.1 hj).1
  obtain ⟨b, off, cs, t, f, rfl, e2, e3⟩ := h6 (by omega)
  refine ⟨b, off, rfl, ?_⟩
  rw [cells_of (h.imm_heap e2)]
  exact e3 j _ (by simp [hj, byteV])
theorem copy_info : (Tryz.prog.info? 76).map (fun i => (i.zero, i.size, i.bytes)) = some (some (.agg #[.int .i64 0, .bool false, .slice none 0 0]), 3, 40) := by kernel_rfl
theorem object_info : (Tryz.prog.info? 47).map (fun i => (i.zero, i.size, i.bytes)) = some (some (.agg #[.bool false, .slice none 0 0, .slice none 0 0]), 3, 56) := by kernel_rfl
theorem copies_append {v v2 : Value} {n m : Nat} {xs ys : List Value} (h : St W I w (HP.row 76 3 v n xs :: l)) (hs : SliceSrc w 3 v2 m ys) (hn : n + m ≤ 1000000) :
    ∃ A' c' w', (Builtin.append_ #[45, 45] 45 #[v, v2]).run Tryz.prog w = .ok (.slice A' (n + m) c') w' ∧ St W I w' (HP.row 76 3 (.slice A' (n + m) c') (n + m) (xs ++ ys) :: l) :=
  rowk_append Tryz.underlying45 copy_info rfl (by decide) (by decide) h hs hn
/-- What is filled in so far. -/
def fillP (P : List Int) (i : Nat) : List Int := P.take i ++ List.replicate (P.length - i) 0
theorem fill_start (P : List Int) : fillP P 0 = List.replicate P.length 0 := by simp [fillP]
theorem fill_full (P : List Int) : fillP P P.length = P := by simp [fillP]
theorem fill_get (P : List Int) {i : Nat} {x : Int} (h : P[i]? = some x) : (fillP P i).set i x = fillP P (i + 1) := by
  obtain ⟨hi, e⟩ := List.getElem?_eq_some_iff.1 h
  unfold fillP
  have e2 : P.length - i = (P.length - (i + 1)) + 1 := by omega
  rw [e2, List.replicate_succ, List.set_append_right _ _ (by rw [List.length_take]; omega), List.length_take, show i - min i P.length = 0 by omega, List.set_cons_zero, List.take_add_one, h]
  simp
theorem fill_zero (P : List Int) {i : Nat} (h : P[i]? = some 0) : fillP P (i + 1) = fillP P i := by
  obtain ⟨hi, e⟩ := List.getElem?_eq_some_iff.1 h
  unfold fillP
  have e2 : P.length - i = (P.length - (i + 1)) + 1 := by omega
  rw [e2, List.replicate_succ, List.take_add_one, h]
  simp
theorem fill_at (P : List Int) {i : Nat} (h : i < P.length) : (fillP P i)[i]? = some 0 := by
  unfold fillP
  rw [List.getElem?_append_right (by rw [List.length_take]; omega), List.getElem?_replicate, if_pos (by rw [List.length_take]; omega)]
theorem cell_lt {b i : Nat} {v : Value} (h : w.cell? ⟨b, i, none⟩ = some v) : b < w.heap.size := by
  by_cases hb : b < w.heap.size
  · exact hb
  · exfalso
    unfold World.cell? at h
    simp [Array.getElem?_eq_none (by omega : w.heap.size ≤ b)] at h
theorem pad_get (b : List Int) (off n i : Nat) (h : i < n) : (padB b off n)[i]? = some (b.getD (off + i) 0) := by
  unfold padB
  rw [List.getElem?_append]
  have hl : ((b.drop off).take n).length = min n (b.length - off) := by rw [List.length_take, List.length_drop]
  by_cases hi : off + i < b.length
  · rw [if_pos (by rw [hl]; omega), List.getElem?_take, if_pos h, List.getElem?_drop, List.getD_eq_getElem?_getD, List.getElem?_eq_getElem hi]
    rfl
  · rw [if_neg (by rw [hl]; omega), hl, List.getElem?_replicate, if_pos (by omega), List.getD_eq_getElem?_getD, List.getElem?_eq_none (by omega)]
    rfl
theorem fillV_set (P : List Int) {i : Nat} {x : Int} (h : P[i]? = some x) : ((fillP P i).map byteV).toArray.setIfInBounds i (.int .u8 x) = ((fillP P (i + 1)).map byteV).toArray := by
  rw [← fill_get P h, List.setIfInBounds_toArray, List.map_set]
  rfl
theorem fillV_start (N : Nat) (P : List Int) (h : P.length = N) : zeroA N = ((fillP P 0).map byteV).toArray := by
  rw [fill_start, h]
  simp [zeroA, byteV, List.map_replicate]
set_option maxRecDepth 4000
set_option maxHeartbeats 8000000
theorem read17_spec (o : Option (List Int)) (v : Value) (off N : Nat) (h : St W I w l) (hb : BytesI I v (o.getD [])) (ho : off ≤ 1000) (hN : N ≤ 1000) (hl : (o.getD []).length ≤ 1000) :
    Calls Tryz.prog 16 #[.agg #[.bool o.isSome, v], .int .i64 off, .int .i64 N] w fun e w' => ∃ g, e = .returned (.slice (some ⟨g, 0, none⟩) N N) ∧ St W I w' (HP.pt g (.cells ((padB (o.getD []) off N).map byteV).toArray 5) :: l) := by
  obtain ⟨b, hbo⟩ : ∃ b, o.getD [] = b := ⟨_, rfl⟩
  rw [hbo] at hb hl ⊢
  have HBO := Lib.hid hbo
  have HB := Lib.hid hb
  obtain ⟨A, c, rfl, _⟩ := hb
  obtain ⟨t, ht⟩ : ∃ t, o.isSome = t := ⟨_, rfl⟩
  rw [ht]
  have HTB := Lib.hid (show t = false → b = [] from fun e => by
    rw [← HBO.out]
    cases o with
    | none => rfl
    | some d => rw [← ht] at e; cases e)
  obtain ⟨P, hP⟩ : ∃ P, padB b off N = P := ⟨_, rfl⟩
  have HG := Lib.hid (show ∀ i, i < N → P[i]? = some (b.getD (off + i) 0) from fun i hi => by rw [← hP]; exact pad_get b off N i hi)
  have HPL := Lib.hid (show P.length = N by rw [← hP]; exact padB_len _ _ _)
  rw [hP]
  have h1 := h.alloc (.cells #[.bool t, .slice A b.length c] 44)
  have mk := make_zero N hN (w.alloc (.cells #[.bool t, .slice A b.length c] 44))
  have h2 := h1.alloc (.cells (zeroA N) 5)
  rw [fillV_start N P HPL.out] at h2 mk
  obtain ⟨g, hg⟩ : ∃ x, (w.alloc (.cells #[.bool t, .slice A b.length c] 44)).heap.size = x := ⟨_, rfl⟩
  rw [hg] at h2 mk
  obtain ⟨w2, hw2⟩ : ∃ x, (w.alloc (.cells #[.bool t, .slice A b.length c] 44)).alloc (.cells ((fillP P 0).map byteV).toArray 5) = x := ⟨_, rfl⟩
  rw [hw2] at h2 mk
  have H2 := Lib.hid h2
  clear h h1 h2 hbo ht hP hg hw2
  have hn0 : (N : Int) ≤ 1000 := by omega
  go_enter Tryz.func16, Tryz.ntmps16
  go_wp2_with fail
  go_loopw [8] (fun a8 wr => ∃ i : Nat, a8 = .int .i64 i ∧ i ≤ N ∧ St W I wr (HP.pt g (.cells ((fillP P i).map byteV).toArray 5) :: HP.pt w.heap.size (.cells #[.bool t, .slice A b.length c] 44) :: l)) (fun a8 _ => N - (intOf a8).toNat)
  case atStart => exact ⟨0, rfl, Nat.zero_le _, H2.out⟩
  case round =>
    obtain ⟨i, rfl, hi, hst⟩ := hrel
    have x := cells_of (hst.pull 1 _ rfl).heap
    have x0 := x 0
    have x1 := x 1
    simp at x0 x1
    clear x
    by_cases hlt : i < N
    · have d0 : decide ((i : Int) < (N : Int)) = true := by rw [decide_eq_true_eq]; omega
      have hp := HG.out i hlt
      obtain ⟨j, hj⟩ : ∃ j, off + i = j := ⟨_, rfl⟩
      have hwr : IntKind.i64.wrap ((off : Int) + (i : Int)) = (j : Int) := by rw [IntKind.wrap_i64]; omega
      rw [hj] at hp
      cases t with
      | false =>
        rw [HTB.out rfl] at hp
        have h3 := hst
        rw [← fill_zero P hp] at h3
        have H3 := Lib.hid h3
        clear hp h3 hst
        go_wp2_with fail
        go_roundw
        case rel => exact ⟨i + 1, by go_num, by omega, H3.out⟩
        case measure => simp [intOf]; omega
      | true =>
        by_cases hjl : j < b.length
        · have d1 : decide ((j : Int) < (b.length : Int)) = true := by rw [decide_eq_true_eq]; omega
          obtain ⟨y, hy⟩ : ∃ y, b[j]? = some y := ⟨_, List.getElem?_eq_getElem hjl⟩
          rw [List.getD_eq_getElem?_getD, hy, Option.getD_some] at hp
          obtain ⟨bb, ob, e1, hc⟩ := bytesI_cell hst HB.out hy
          simp only [Value.slice.injEq, and_true] at e1
          subst e1
          have ct : wr.cell? ⟨g, i, none⟩ = some (.int .u8 0) := (cells_of hst.heap i).trans (by
            rw [List.getElem?_toArray, List.getElem?_map, fill_at P (by rw [HPL.out]; exact hlt)]
            rfl)
          have ft := frozen_of_row hst.heap i
          have lt := hst.lt
          have h3 := hst.setCell i (.int .u8 y)
          rw [fillV_set P hp] at h3
          have H3 := Lib.hid h3
          clear hp h3 hst hy
          go_wp2_with fail
          go_roundw
          case rel => exact ⟨i + 1, by go_num, by omega, H3.out⟩
          case measure => simp [intOf]; omega
        · have d1 : decide ((j : Int) < (b.length : Int)) = false := by rw [decide_eq_false_iff_not]; omega
          rw [List.getD_eq_getElem?_getD, List.getElem?_eq_none (show b.length ≤ j by omega), Option.getD_none] at hp
          have h3 := hst
          rw [← fill_zero P hp] at h3
          have H3 := Lib.hid h3
          clear hp h3 hst
          go_wp2_with fail
          go_roundw
          case rel => exact ⟨i + 1, by go_num, by omega, H3.out⟩
          case measure => simp [intOf]; omega
    · obtain rfl : i = N := by omega
      have d0 : decide ((i : Int) < (i : Int)) = false := by rw [decide_eq_false_iff_not]; omega
      have e := HPL.out
      have h3 := hst
      rw [← e, fill_full] at h3
      have H3 := Lib.hid (h3.pull 1 _ rfl).drop
      clear h3 hst e
      go_wp2_with fail
      go_ret
      exact ⟨g, rfl, H3.out⟩
theorem find_take {α : Type} {p : α → Bool} {l : List α} {i : Nat} {a : α} (ha : l[i]? = some a) (h : (l.take i).find? p = none) : (p a = true → l.find? p = some a) ∧ (p a = false → (l.take (i + 1)).find? p = none) := by
  obtain ⟨hi, e⟩ := List.getElem?_eq_some_iff.1 ha
  have e1 : l.take (i + 1) = l.take i ++ [a] := by rw [List.take_add_one, ha]; rfl
  have e2 : (l.take (i + 1)).find? p = [a].find? p := by rw [e1, List.find?_append, h]; rfl
  refine ⟨fun hp => ?_, fun hp => ?_⟩
  · rw [← List.take_append_drop (i + 1) l, List.find?_append, e2]
    simp [hp]
  · rw [e2]
    simp [hp]
theorem at17_spec {g off : Nat} (o : O17) (snap : Int) (h : St W I w l) (hok : o.ok I) (c0 : w.cell? ⟨g, off, none⟩ = some (.bool o.h.o.isSome)) (c1 : w.cell? ⟨g, off + 1, none⟩ = some o.h.v) (c2 : w.cell? ⟨g, off + 2, none⟩ = some o.cv) (hg : g < w.heap.size) (hl : o.cs.length ≤ 1000000) :
    Calls Tryz.prog 17 #[.pointer (some ⟨g, off, none⟩), .int .i64 snap] w fun e w' => ∃ b : B17, e = .returned b.val ∧ b.ok I ∧ b.o = ratR o.r snap ∧ Below w.heap.size w w' := by
  obtain ⟨⟨hb, hv⟩, cs, cv⟩ := o
  obtain ⟨hh, hrow, hcs⟩ := hok
  simp only at c0 c1 c2 hl hrow hcs
  have HH := Lib.hid hh
  have HCS := Lib.hid hcs
  have HROW := Lib.hid hrow
  have H := Lib.hid h
  obtain ⟨Ac, cc, rfl, _⟩ := hrow
  obtain ⟨Ah, ch, e, _⟩ := hh
  simp only at e
  subst e
  have hcl : (cs.length : Int) ≤ 1000000 := by omega
  have HBL := Lib.hid (fun x0 x1 : Value => (Below.refl w.heap.size w).alloc (Nat.le_refl _) (.cells #[x0, x1] 44))
  clear h hcs
  go_enter Tryz.func17, Tryz.ntmps17
  go_wp2_with fail
  go_loopw [5] (fun a5 wr => ∃ i : Nat, a5 = .int .i64 i ∧ i ≤ cs.length ∧ (cs.take i).find? (fun c => decide (snap ≤ c.n)) = none ∧ wr = w.alloc (.cells #[.bool false, .slice none 0 0] 44)) (fun a5 _ => cs.length - (intOf a5).toNat)
  case atStart => exact ⟨0, rfl, Nat.zero_le _, rfl, rfl⟩
  case round =>
    obtain ⟨i, rfl, hi, hf, rfl⟩ := hrel
    by_cases hlt : i < cs.length
    · have d0 : decide ((i : Int) < (cs.length : Int)) = true := by rw [decide_eq_true_eq]; omega
      by_cases hs : 0 < snap
      · have d1 : decide (0 < snap) = true := decide_eq_true hs
        obtain ⟨c, hc⟩ : ∃ c, cs[i]? = some c := ⟨_, List.getElem?_eq_getElem hlt⟩
        obtain ⟨bb, ob, e1, hce⟩ := rowk_cell (mk := C17.vals) HROW.out (Hp.sub.refl _) H.out (fun _ => rfl) hc
        simp only [Value.slice.injEq, and_true] at e1
        subst e1
        have y0 := hce 0 (by omega)
        have y1 := hce 1 (by omega)
        have y2 := hce 2 (by omega)
        obtain ⟨hf1, hf2⟩ := find_take hc hf
        have hcok := HCS.out c (List.mem_of_getElem? hc)
        obtain ⟨n, ⟨co, cvv⟩⟩ := c
        have HCOK := Lib.hid hcok
        obtain ⟨A5, c5, e, _⟩ := hcok
        simp only at e
        subst e
        simp only [C17.vals, List.getElem?_cons_succ, List.getElem?_cons_zero, Nat.add_zero] at y0 y1 y2
        have hbl : bb < w.heap.size := cell_lt y0
        by_cases hn : snap ≤ n
        · have d2 : decide (snap ≤ n) = true := decide_eq_true hn
          have HF := Lib.hid (hf1 d2)
          clear hf1 hf2 hf hc hce
          go_wp2_with fail
          refine bodyPost_ret (v := .agg #[.bool co.isSome, .slice A5 (co.getD []).length c5]) (by simp [results, Tryz.results17, go_sem]) rfl ?_
          refine ⟨⟨co, .slice A5 (co.getD []).length c5⟩, rfl, HCOK.out, ?_, HBL.out _ _⟩
          unfold ratR O17.r
          rw [if_pos hs, List.find?_map]
          show co = (match (cs.find? fun c => decide (snap ≤ c.n)).map C17.r with | some c => c.2 | none => _)
          rw [HF.out]
          rfl
        · have d2 : decide (snap ≤ n) = false := decide_eq_false hn
          have HF := Lib.hid (hf2 d2)
          clear hf1 hf2 hf hc hce
          go_wp2_with fail
          go_roundw
          case rel => exact ⟨i + 1, by go_num, by omega, HF.out, trivial⟩
          case measure => simp [intOf]; omega
      · have d1 : decide (0 < snap) = false := decide_eq_false hs
        clear hf
        go_wp2_with fail
        refine bodyPost_ret (v := .agg #[.bool hb.isSome, .slice Ah (hb.getD []).length ch]) (by simp [results, Tryz.results17, go_sem]) rfl ?_
        refine ⟨⟨hb, .slice Ah (hb.getD []).length ch⟩, rfl, HH.out, ?_, HBL.out _ _⟩
        unfold ratR
        rw [if_neg (by omega)]
        rfl
    · obtain rfl : i = cs.length := by omega
      have d0 : decide ((cs.length : Int) < (cs.length : Int)) = false := by rw [decide_eq_false_iff_not]; omega
      rw [List.take_length] at hf
      have HF := Lib.hid hf
      clear hf
      go_wp2_with fail
      refine bodyPost_ret (v := .agg #[.bool hb.isSome, .slice Ah (hb.getD []).length ch]) (by simp [results, Tryz.results17, go_sem]) rfl ?_
      refine ⟨⟨hb, .slice Ah (hb.getD []).length ch⟩, rfl, HH.out, ?_, HBL.out _ _⟩
      unfold ratR O17.r
      split
      · rw [List.find?_map]
        show hb = (match (cs.find? fun c => decide (snap ≤ c.n)).map C17.r with | some c => c.2 | none => _)
        rw [HF.out]
        rfl
      · rfl
end
section
variable {W w : World} {I : Hp} {l : List HP}
set_option maxRecDepth 4000
set_option maxHeartbeats 8000000
/-- Region 2: a copy. -/
theorem change_push {C : Code} {Q : Exit → Act → World → Prop} (hC : (Tryz.f53).body.bind (fromR 2) = some C) {x2 x3 x4 x5 x6 x7 x8 x9 x10 x11 x12 x13 x14 x15 x16 x17 x18 x19 x20 x21 x22 x23 x24 x25 x26 x27 x28 x29 x30 x31 x32 x33 x34 x35 x36 x37 x38 x39 x40 x41 x42 x43 x44 x45 x46 x47 x48 x49 x50 x51 x52 x53 : Value} {g : Nat} {Ah Ac : Option Addr} {ch cc : Nat} {hb : Option (List Int)} {cs : List C17} {newest : Int}
    (h : St W I w (HP.pt g (.cells #[.bool hb.isSome, .slice Ah (hb.getD []).length ch, .slice Ac cs.length cc] 47) :: l)) (hbo : B17.ok I ⟨hb, .slice Ah (hb.getD []).length ch⟩) (hcp : CopiesI I (.slice Ac cs.length cc) cs) (hl : cs.length ≤ 100000)
    (hQ : ∀ (y33 y34 y35 y36 y37 y38 y39 y40 y41 y42 y43 y44 y45 y46 y47 y48 y49 : Value) (v : Value) (I' : Hp) (w' : World), I.sub I' → CopiesI I' v (cs ++ [⟨newest, ⟨hb, .slice Ah (hb.getD []).length ch⟩⟩]) → St W I' w' (HP.pt g (.cells #[.bool hb.isSome, .slice Ah (hb.getD []).length ch, v] 47) :: l) →
      Q .normal ⟨#[.pointer (some ⟨g, 0, none⟩), .int .i64 newest, x2, x3, x4, x5, x6, x7, x8, x9, x10, x11, x12, x13, x14, x15, x16, x17, x18, x19, x20, x21, x22, x23, x24, x25, x26, x27, x28, x29, x30, x31, x32, y33, y34, y35, y36, y37, y38, y39, y40, y41, y42, y43, y44, y45, y46, y47, y48, y49, x50, x51, x52, x53], []⟩ w') :
    C.wp Tryz.prog Q ⟨#[.pointer (some ⟨g, 0, none⟩), .int .i64 newest, x2, x3, x4, x5, x6, x7, x8, x9, x10, x11, x12, x13, x14, x15, x16, x17, x18, x19, x20, x21, x22, x23, x24, x25, x26, x27, x28, x29, x30, x31, x32, x33, x34, x35, x36, x37, x38, x39, x40, x41, x42, x43, x44, x45, x46, x47, x48, x49, x50, x51, x52, x53], []⟩ w := by
  injection hC with hC
  subst hC
  have HQ := Lib.hid hQ
  have HB := Lib.hid hbo
  have HCP := Lib.hid hcp
  have HL := Lib.hid h.drew
  clear hQ hbo hcp h
  obtain ⟨y0, y1, y2⟩ := HL.out.cells3
  refine wp_region_tree (fun w' => w'.cell? ⟨g, 0, none⟩ = some (.bool hb.isSome) ∧ w'.cell? ⟨g, 1, none⟩ = some (.slice Ah (hb.getD []).length ch) ∧ w'.cell? ⟨g, 2, none⟩ = some (.slice Ac cs.length cc)) [0, 2, 3, 4, 5, 7, 8, 9, 10, 11, 12] [1, 6, 13, 14] (Tr.two 1 (Tr.two 6 (Tr.one 13 (Tr.one 14 Tr.leaf)) 13 (Tr.one 6 (Tr.one 14 Tr.leaf))) 13 (Tr.one 1 (Tr.one 6 (Tr.one 14 Tr.leaf)))) [15, 16, 17] (by kernel_rfl) (by kernel_rfl) (by (exact ⟨y0, y1, y2⟩)) ?_
  simp only [pickL, List.getElem?_cons_zero, List.getElem?_cons_succ]
  repeat (first | (refine wpFirst_step _ (Or.inl ⟨by rfl, by (intro w hSw; (try dsimp only at hSw); go_simp; try with_reducible rfl)⟩) ?_; (try simp only [Act.put, List.setIfInBounds_toArray, List.set_cons_zero, List.set_cons_succ])) | (refine wpFirst_step _ (Or.inr ⟨by rfl, rfl⟩) ?_; (try simp only [Act.put, List.setIfInBounds_toArray, List.set_cons_zero, List.set_cons_succ])) | fail)
  refine wpFirst_nil ?_
  unfold wpTr
  simp only [pickL, List.getElem?_cons_zero, List.getElem?_cons_succ]
  clear y0 y1 y2
  obtain ⟨w0, hw0⟩ : ∃ x, x = w.drew := ⟨_, rfl⟩
  rw [← hw0] at HL ⊢
  clear hw0
  refine ⟨?_, ?_⟩
  · have h1 := St.empty_row HL.out 76 3
    go_wp2_with fail
    obtain ⟨wa, hwa⟩ : ∃ x, x = w0.alloc (.cells #[] 76) := ⟨_, rfl⟩
    obtain ⟨ga, hga⟩ : ∃ x, x = w0.heap.size := ⟨_, rfl⟩
    rw [← hwa, ← hga] at h1
    rw [← hwa, ← hga]
    clear hwa hga
    clear HL
    have HL := Lib.hid h1
    clear h1
    obtain ⟨w0, hw0⟩ : ∃ x, x = wa := ⟨_, rfl⟩
    rw [← hw0] at HL ⊢
    clear hw0
    obtain ⟨y0, y1, y2⟩ := (HL.out.pull 1 _ rfl).cells3
    refine holdPost_normal ⟨y0, y1, y2⟩ ?_
    clear y0 y1 y2
    unfold wpTr
    (try simp only [pickL, List.getElem?_cons_zero, List.getElem?_cons_succ])
    refine ⟨?_, ?_⟩
    · obtain ⟨Aw, cw, wx, hr, h1⟩ := copies_append HL.out (HCP.out.1.src HL.out.imm (c17s_one HCP.out.2) (by omega)) (by omega)
      rw [Nat.zero_add, List.nil_append] at h1
      rw [Nat.zero_add] at hr
      have HR := Lib.hid hr
      clear hr
      go_wp2_with (at_builtin; refine Lib.wpList_append_run _ rfl (.tmp 34) (.tmp 38) 45 45 rfl _ _ rfl rfl _ _ HR.out ?_)
      clear HR
      clear HL
      have HL := Lib.hid h1
      clear h1
      obtain ⟨w0, hw0⟩ : ∃ x, x = wx := ⟨_, rfl⟩
      rw [← hw0] at HL ⊢
      clear hw0
      obtain ⟨y0, y1, y2⟩ := (HL.out.pull 1 _ rfl).cells3
      refine holdPost_normal ⟨y0, y1, y2⟩ ?_
      clear y0 y1 y2
      unfold wpTr
      (try simp only [pickL, List.getElem?_cons_zero, List.getElem?_cons_succ])
      have h1 := HL.out.alloc (.cells #[.int .i64 newest, .bool hb.isSome, .slice Ah (hb.getD []).length ch] 76)
      go_wp2_with fail
      obtain ⟨wb, hwb⟩ : ∃ x, x = w0.alloc (.cells #[.int .i64 newest, .bool hb.isSome, .slice Ah (hb.getD []).length ch] 76) := ⟨_, rfl⟩
      obtain ⟨gb, hgb⟩ : ∃ x, x = w0.heap.size := ⟨_, rfl⟩
      rw [← hwb, ← hgb] at h1
      rw [← hwb, ← hgb]
      clear hwb hgb
      have h1 := h1.pull 1 _ rfl
      simp only [List.eraseIdx_cons_zero, List.eraseIdx_cons_succ] at h1
      clear HL
      have HL := Lib.hid h1
      clear h1
      obtain ⟨w0, hw0⟩ : ∃ x, x = wb := ⟨_, rfl⟩
      rw [← hw0] at HL ⊢
      clear hw0
      obtain ⟨y0, y1, y2⟩ := (HL.out.pull 2 _ rfl).cells3
      refine holdPost_normal ⟨y0, y1, y2⟩ ?_
      clear y0 y1 y2
      unfold wpTr
      (try simp only [pickL, List.getElem?_cons_zero, List.getElem?_cons_succ])
      obtain ⟨Av, cv, wy, hr, h1⟩ := copies_append HL.out (pt_src (k := 3) (HL.out.pull 1 _ rfl) rfl (c17s_one (cs := [⟨newest, ⟨hb, .slice Ah (hb.getD []).length ch⟩⟩]) (fun c hc => by rw [List.mem_singleton.1 hc]; exact HB.out))) (by omega)
      have HR := Lib.hid hr
      clear hr
      go_wp2_with (at_builtin; refine Lib.wpList_append_run _ rfl (.tmp 39) (.tmp 46) 45 45 rfl _ _ rfl rfl _ _ HR.out ?_)
      clear HR
      clear HL
      have HL := Lib.hid h1
      clear h1
      obtain ⟨w0, hw0⟩ : ∃ x, x = wy := ⟨_, rfl⟩
      rw [← hw0] at HL ⊢
      clear hw0
      obtain ⟨y0, y1, y2⟩ := (HL.out.pull 2 _ rfl).cells3
      refine holdPost_normal ⟨y0, y1, y2⟩ ?_
      clear y0 y1 y2
      unfold wpTr
      (try simp only [pickL, List.getElem?_cons_zero, List.getElem?_cons_succ])
      have fr := frozen_of_row (HL.out.pull 2 _ rfl).heap
      have lt := (HL.out.pull 2 _ rfl).lt
      obtain ⟨y0, y1, y2⟩ := (HL.out.pull 2 _ rfl).cells3
      have hfin := (HL.out.pull 2 _ rfl).setCell 2 (.slice Av (cs.length + 1) cv)
      have hfin2 := ((hfin.pull 2 _ rfl).drop).pull 1 _ rfl
      obtain ⟨IX, hsX, eX, h9⟩ := hfin2.freeze_row
      have H9 := Lib.hid h9
      have EX := Lib.hid eX
      have HSX := Lib.hid hsX
      clear h9 eX hsX hfin hfin2 HL
      go_wp2_with fail
      refine NoPanic.normal ?_
      go_wp2_with fail
      refine HQ.out _ _ _ _ _ _ _ _ _ _ _ _ _ _ _ _ _ (.slice Av (cs.length + 1) cv) IX _ HSX.out ⟨?_, fun c hc => ?_⟩ H9.out
      · have e := EX.out
        rw [List.length_append, List.flatMap_append]
        exact e
      · rcases List.mem_append.1 hc with q | q
        · exact (HCP.out.2 c q).mono HSX.out
        · rw [List.mem_singleton.1 q]
          exact B17.ok.mono (b := ⟨hb, .slice Ah (hb.getD []).length ch⟩) HB.out HSX.out
    · have h1 := HL.out.alloc (.cells #[.int .i64 newest, .bool hb.isSome, .slice Ah (hb.getD []).length ch] 76)
      go_wp2_with fail
      obtain ⟨wb, hwb⟩ : ∃ x, x = w0.alloc (.cells #[.int .i64 newest, .bool hb.isSome, .slice Ah (hb.getD []).length ch] 76) := ⟨_, rfl⟩
      obtain ⟨gb, hgb⟩ : ∃ x, x = w0.heap.size := ⟨_, rfl⟩
      rw [← hwb, ← hgb] at h1
      rw [← hwb, ← hgb]
      clear hwb hgb
      have h1 := h1.pull 1 _ rfl
      simp only [List.eraseIdx_cons_zero, List.eraseIdx_cons_succ] at h1
      clear HL
      have HL := Lib.hid h1
      clear h1
      obtain ⟨w0, hw0⟩ : ∃ x, x = wb := ⟨_, rfl⟩
      rw [← hw0] at HL ⊢
      clear hw0
      obtain ⟨y0, y1, y2⟩ := (HL.out.pull 2 _ rfl).cells3
      refine holdPost_normal ⟨y0, y1, y2⟩ ?_
      clear y0 y1 y2
      unfold wpTr
      (try simp only [pickL, List.getElem?_cons_zero, List.getElem?_cons_succ])
      obtain ⟨Aw, cw, wx, hr, h1⟩ := copies_append HL.out (HCP.out.1.src HL.out.imm (c17s_one HCP.out.2) (by omega)) (by omega)
      rw [Nat.zero_add, List.nil_append] at h1
      rw [Nat.zero_add] at hr
      have HR := Lib.hid hr
      clear hr
      go_wp2_with (at_builtin; refine Lib.wpList_append_run _ rfl (.tmp 34) (.tmp 38) 45 45 rfl _ _ rfl rfl _ _ HR.out ?_)
      clear HR
      clear HL
      have HL := Lib.hid h1
      clear h1
      obtain ⟨w0, hw0⟩ : ∃ x, x = wx := ⟨_, rfl⟩
      rw [← hw0] at HL ⊢
      clear hw0
      obtain ⟨y0, y1, y2⟩ := (HL.out.pull 2 _ rfl).cells3
      refine holdPost_normal ⟨y0, y1, y2⟩ ?_
      clear y0 y1 y2
      unfold wpTr
      (try simp only [pickL, List.getElem?_cons_zero, List.getElem?_cons_succ])
      obtain ⟨Av, cv, wy, hr, h1⟩ := copies_append HL.out (pt_src (k := 3) (HL.out.pull 1 _ rfl) rfl (c17s_one (cs := [⟨newest, ⟨hb, .slice Ah (hb.getD []).length ch⟩⟩]) (fun c hc => by rw [List.mem_singleton.1 hc]; exact HB.out))) (by omega)
      have HR := Lib.hid hr
      clear hr
      go_wp2_with (at_builtin; refine Lib.wpList_append_run _ rfl (.tmp 39) (.tmp 46) 45 45 rfl _ _ rfl rfl _ _ HR.out ?_)
      clear HR
      clear HL
      have HL := Lib.hid h1
      clear h1
      obtain ⟨w0, hw0⟩ : ∃ x, x = wy := ⟨_, rfl⟩
      rw [← hw0] at HL ⊢
      clear hw0
      obtain ⟨y0, y1, y2⟩ := (HL.out.pull 2 _ rfl).cells3
      refine holdPost_normal ⟨y0, y1, y2⟩ ?_
      clear y0 y1 y2
      unfold wpTr
      (try simp only [pickL, List.getElem?_cons_zero, List.getElem?_cons_succ])
      have fr := frozen_of_row (HL.out.pull 2 _ rfl).heap
      have lt := (HL.out.pull 2 _ rfl).lt
      obtain ⟨y0, y1, y2⟩ := (HL.out.pull 2 _ rfl).cells3
      have hfin := (HL.out.pull 2 _ rfl).setCell 2 (.slice Av (cs.length + 1) cv)
      have hfin2 := ((hfin.pull 2 _ rfl).drop).pull 1 _ rfl
      obtain ⟨IX, hsX, eX, h9⟩ := hfin2.freeze_row
      have H9 := Lib.hid h9
      have EX := Lib.hid eX
      have HSX := Lib.hid hsX
      clear h9 eX hsX hfin hfin2 HL
      go_wp2_with fail
      refine NoPanic.normal ?_
      go_wp2_with fail
      refine HQ.out _ _ _ _ _ _ _ _ _ _ _ _ _ _ _ _ _ (.slice Av (cs.length + 1) cv) IX _ HSX.out ⟨?_, fun c hc => ?_⟩ H9.out
      · have e := EX.out
        rw [List.length_append, List.flatMap_append]
        exact e
      · rcases List.mem_append.1 hc with q | q
        · exact (HCP.out.2 c q).mono HSX.out
        · rw [List.mem_singleton.1 q]
          exact B17.ok.mono (b := ⟨hb, .slice Ah (hb.getD []).length ch⟩) HB.out HSX.out
  · have h1 := HL.out.alloc (.cells #[.int .i64 newest, .bool hb.isSome, .slice Ah (hb.getD []).length ch] 76)
    go_wp2_with fail
    obtain ⟨wb, hwb⟩ : ∃ x, x = w0.alloc (.cells #[.int .i64 newest, .bool hb.isSome, .slice Ah (hb.getD []).length ch] 76) := ⟨_, rfl⟩
    obtain ⟨gb, hgb⟩ : ∃ x, x = w0.heap.size := ⟨_, rfl⟩
    rw [← hwb, ← hgb] at h1
    rw [← hwb, ← hgb]
    clear hwb hgb
    clear HL
    have HL := Lib.hid h1
    clear h1
    obtain ⟨w0, hw0⟩ : ∃ x, x = wb := ⟨_, rfl⟩
    rw [← hw0] at HL ⊢
    clear hw0
    obtain ⟨y0, y1, y2⟩ := (HL.out.pull 1 _ rfl).cells3
    refine holdPost_normal ⟨y0, y1, y2⟩ ?_
    clear y0 y1 y2
    unfold wpTr
    (try simp only [pickL, List.getElem?_cons_zero, List.getElem?_cons_succ])
    have h1 := St.empty_row HL.out 76 3
    go_wp2_with fail
    obtain ⟨wa, hwa⟩ : ∃ x, x = w0.alloc (.cells #[] 76) := ⟨_, rfl⟩
    obtain ⟨ga, hga⟩ : ∃ x, x = w0.heap.size := ⟨_, rfl⟩
    rw [← hwa, ← hga] at h1
    rw [← hwa, ← hga]
    clear hwa hga
    clear HL
    have HL := Lib.hid h1
    clear h1
    obtain ⟨w0, hw0⟩ : ∃ x, x = wa := ⟨_, rfl⟩
    rw [← hw0] at HL ⊢
    clear hw0
    obtain ⟨y0, y1, y2⟩ := (HL.out.pull 2 _ rfl).cells3
    refine holdPost_normal ⟨y0, y1, y2⟩ ?_
    clear y0 y1 y2
    unfold wpTr
    (try simp only [pickL, List.getElem?_cons_zero, List.getElem?_cons_succ])
    obtain ⟨Aw, cw, wx, hr, h1⟩ := copies_append HL.out (HCP.out.1.src HL.out.imm (c17s_one HCP.out.2) (by omega)) (by omega)
    rw [Nat.zero_add, List.nil_append] at h1
    rw [Nat.zero_add] at hr
    have HR := Lib.hid hr
    clear hr
    go_wp2_with (at_builtin; refine Lib.wpList_append_run _ rfl (.tmp 34) (.tmp 38) 45 45 rfl _ _ rfl rfl _ _ HR.out ?_)
    clear HR
    clear HL
    have HL := Lib.hid h1
    clear h1
    obtain ⟨w0, hw0⟩ : ∃ x, x = wx := ⟨_, rfl⟩
    rw [← hw0] at HL ⊢
    clear hw0
    obtain ⟨y0, y1, y2⟩ := (HL.out.pull 2 _ rfl).cells3
    refine holdPost_normal ⟨y0, y1, y2⟩ ?_
    clear y0 y1 y2
    unfold wpTr
    (try simp only [pickL, List.getElem?_cons_zero, List.getElem?_cons_succ])
    obtain ⟨Av, cv, wy, hr, h1⟩ := copies_append HL.out (pt_src (k := 3) (HL.out.pull 1 _ rfl) rfl (c17s_one (cs := [⟨newest, ⟨hb, .slice Ah (hb.getD []).length ch⟩⟩]) (fun c hc => by rw [List.mem_singleton.1 hc]; exact HB.out))) (by omega)
    have HR := Lib.hid hr
    clear hr
    go_wp2_with (at_builtin; refine Lib.wpList_append_run _ rfl (.tmp 39) (.tmp 46) 45 45 rfl _ _ rfl rfl _ _ HR.out ?_)
    clear HR
    clear HL
    have HL := Lib.hid h1
    clear h1
    obtain ⟨w0, hw0⟩ : ∃ x, x = wy := ⟨_, rfl⟩
    rw [← hw0] at HL ⊢
    clear hw0
    obtain ⟨y0, y1, y2⟩ := (HL.out.pull 2 _ rfl).cells3
    refine holdPost_normal ⟨y0, y1, y2⟩ ?_
    clear y0 y1 y2
    unfold wpTr
    (try simp only [pickL, List.getElem?_cons_zero, List.getElem?_cons_succ])
    have fr := frozen_of_row (HL.out.pull 2 _ rfl).heap
    have lt := (HL.out.pull 2 _ rfl).lt
    obtain ⟨y0, y1, y2⟩ := (HL.out.pull 2 _ rfl).cells3
    have hfin := (HL.out.pull 2 _ rfl).setCell 2 (.slice Av (cs.length + 1) cv)
    have hfin2 := ((hfin.pull 2 _ rfl).drop).pull 1 _ rfl
    obtain ⟨IX, hsX, eX, h9⟩ := hfin2.freeze_row
    have H9 := Lib.hid h9
    have EX := Lib.hid eX
    have HSX := Lib.hid hsX
    clear h9 eX hsX hfin hfin2 HL
    go_wp2_with fail
    refine NoPanic.normal ?_
    go_wp2_with fail
    refine HQ.out _ _ _ _ _ _ _ _ _ _ _ _ _ _ _ _ _ (.slice Av (cs.length + 1) cv) IX _ HSX.out ⟨?_, fun c hc => ?_⟩ H9.out
    · have e := EX.out
      rw [List.length_append, List.flatMap_append]
      exact e
    · rcases List.mem_append.1 hc with q | q
      · exact (HCP.out.2 c q).mono HSX.out
      · rw [List.mem_singleton.1 q]
        exact B17.ok.mono (b := ⟨hb, .slice Ah (hb.getD []).length ch⟩) HB.out HSX.out

/-- Whether a copy must be. -/
theorem need_17 {cs : List C17} {newest : Int} : (newest ≤ 0 → needR (cs.map C17.r) newest = false) ∧ (0 < newest → cs.length = 0 → needR (cs.map C17.r) newest = true) ∧ ∀ k c, cs[k]? = some c → cs.length = k + 1 → 0 < newest → needR (cs.map C17.r) newest = decide (c.n < newest) := by
  unfold needR
  refine ⟨fun h => by rw [decide_eq_false (by omega)]; rfl, fun h h0 => ?_, fun k c hk hc h => ?_⟩
  · rw [decide_eq_true h, List.eq_nil_of_length_eq_zero h0]
    rfl
  · rw [decide_eq_true h, List.getLast?_map, List.getLast?_eq_getElem?, hc, Nat.add_sub_cancel, hk]
    rfl
theorem imm_two {g : Nat} {c0 c1 : Value} {t : TypeId} (h : St W I w l) (e : I g = some (.cells #[c0, c1] t)) : w.cell? ⟨g, 0, none⟩ = some c0 ∧ w.cell? ⟨g, 1, none⟩ = some c1 := ⟨St.imm_cell h e 0, St.imm_cell h e 1⟩
theorem change_spec {g : Nat} (o : O17) (b : B17) (newest : Int) (h : St W I w (HP.pt g (.cells o.vals.toArray 47) :: l)) (hok : o.ok I) (hb : b.ok I) (hl : o.cs.length ≤ 100000) :
    Calls Tryz.prog 53 #[.pointer (some ⟨g, 0, none⟩), .int .i64 newest, b.val] w fun e w' => ∃ (I' : Hp) (o' : O17), I.sub I' ∧ e = .returned (.tuple #[]) ∧ o'.ok I' ∧ o'.r = rchange o.r newest b.o ∧ o'.cs.length ≤ o.cs.length + 1 ∧ St W I' w' (HP.pt g (.cells o'.vals.toArray 47) :: l) := by
  obtain ⟨⟨hb0, hv⟩, cs, cv⟩ := o
  obtain ⟨bo, bv⟩ := b
  obtain ⟨hh, hcp⟩ := hok
  have HH := Lib.hid hh
  have HB := Lib.hid hb
  have HCP := Lib.hid hcp
  simp only at hl hcp
  obtain ⟨Ah, ch, e, _⟩ := hh
  simp only at e
  subst e
  obtain ⟨Ab, cb, e, _⟩ := hb
  simp only at e
  subst e
  obtain ⟨⟨Ac, cc, e, _⟩, hcs⟩ := hcp
  subst e
  simp only [O17.vals] at h
  obtain ⟨I1, hs1, hI1, h1⟩ := (h.alloc (.cells #[.bool bo.isSome, .slice Ab (bo.getD []).length cb] 44)).freeze
  have H1 := Lib.hid h1
  have HS1 := Lib.hid hs1
  have HI1 := Lib.hid hI1
  have HN := Lib.hid (need_17 (cs := cs) (newest := newest))
  have hcl : (cs.length : Int) ≤ 100000 := by omega
  clear h h1 hs1 hI1 hcs
  obtain ⟨y0, y1, y2⟩ := H1.out.cells3
  simp only [B17.val]
  by_cases h0 : 0 < newest
  · have d0 : decide (0 < newest) = true := decide_eq_true h0
    by_cases hc0 : cs.length = 0
    · have d1 : decide ((cs.length : Int) = 0) = true := by rw [decide_eq_true_eq]; omega
      have HNE := Lib.hid (HN.out.2.1 h0 hc0)
      go_enter Tryz.func53, Tryz.ntmps53
      go_wp2_with fail
      go_quiet (fail)
      have HQW := Lib.hid (H1.out.drewN nq)
      go_upto_region 2 with fail
      refine change_push (by kernel_rfl) (cs := cs) (hb := hb0) (ch := ch) (cc := cc) HQW.out (B17.ok.mono (b := ⟨hb0, .slice Ah (hb0.getD []).length ch⟩) HH.out HS1.out) (CopiesI.mono HCP.out HS1.out) hl ?_
      intro q33 q34 q35 q36 q37 q38 q39 q40 q41 q42 q43 q44 q45 q46 q47 q48 q49 v I3 w3 hs3 hcv h3
      have H3 := Lib.hid h3
      have HS3 := Lib.hid hs3
      have HCV := Lib.hid hcv
      clear h3 hs3 hcv
      have fr := frozen_of_row H3.out.heap
      have lt := H3.out.lt
      obtain ⟨y0, y1, y2⟩ := H3.out.cells3
      obtain ⟨x0, x1⟩ := imm_two H3.out (HS3.out _ _ HI1.out)
      have h9 := (H3.out.setCell 0 (.bool bo.isSome)).setCell 1 (.slice Ab (bo.getD []).length cb)
      have H9 := Lib.hid h9
      clear h9
      go_wp2_with fail
      first | refine bodyPost_ret (results_none rfl _ _ _) rfl ?_ | refine ⟨rfl, _, results_none rfl _ _ _, ?_⟩ | fail
      refine ⟨I3, ⟨⟨bo, .slice Ab (bo.getD []).length cb⟩, cs ++ [⟨newest, ⟨hb0, .slice Ah (hb0.getD []).length ch⟩⟩], v⟩, HS1.out.trans HS3.out, rfl, ⟨B17.ok.mono (b := ⟨bo, .slice Ab (bo.getD []).length cb⟩) HB.out (HS1.out.trans HS3.out), HCV.out⟩, ?_, by simp, H9.out⟩
      show (⟨bo, _⟩ : RO) = rchange ⟨hb0, cs.map C17.r⟩ newest bo
      unfold rchange
      rw [if_pos HNE.out]
      rw [List.map_append]
      rfl
    · have d1 : decide ((cs.length : Int) = 0) = false := by rw [decide_eq_false_iff_not]; omega
      obtain ⟨k, hk⟩ : ∃ k, cs.length = k + 1 := ⟨cs.length - 1, by omega⟩
      have hwr : IntKind.i64.wrap ((cs.length : Int) - 1) = (k : Int) := by rw [IntKind.wrap_i64]; omega
      obtain ⟨c, hc⟩ : ∃ c, cs[k]? = some c := ⟨_, List.getElem?_eq_getElem (by omega)⟩
      obtain ⟨bb, ob, e1, hce⟩ := rowk_cell (mk := C17.vals) HCP.out.1 HS1.out H1.out (fun _ => rfl) hc
      simp only [Value.slice.injEq, and_true] at e1
      subst e1
      have z0 := hce 0 (by omega)
      have hne := HN.out.2.2 k c hc hk h0
      obtain ⟨n, ⟨co, cvv⟩⟩ := c
      simp only [C17.vals, List.getElem?_cons_succ, List.getElem?_cons_zero, Nat.add_zero] at z0 hne
      have hkl : k < cs.length := by omega
      clear hc hce hk
      by_cases hn : n < newest
      · have d2 : decide (n < newest) = true := decide_eq_true hn
        rw [d2] at hne
        have HNE := Lib.hid hne
        clear hne
        go_enter Tryz.func53, Tryz.ntmps53
        go_wp2_with fail
        go_quiet (fail)
        have HQW := Lib.hid (H1.out.drewN nq)
        go_upto_region 2 with fail
        refine change_push (by kernel_rfl) (cs := cs) (hb := hb0) (ch := ch) (cc := cc) HQW.out (B17.ok.mono (b := ⟨hb0, .slice Ah (hb0.getD []).length ch⟩) HH.out HS1.out) (CopiesI.mono HCP.out HS1.out) hl ?_
        intro q33 q34 q35 q36 q37 q38 q39 q40 q41 q42 q43 q44 q45 q46 q47 q48 q49 v I3 w3 hs3 hcv h3
        have H3 := Lib.hid h3
        have HS3 := Lib.hid hs3
        have HCV := Lib.hid hcv
        clear h3 hs3 hcv
        have fr := frozen_of_row H3.out.heap
        have lt := H3.out.lt
        obtain ⟨y0, y1, y2⟩ := H3.out.cells3
        obtain ⟨x0, x1⟩ := imm_two H3.out (HS3.out _ _ HI1.out)
        have h9 := (H3.out.setCell 0 (.bool bo.isSome)).setCell 1 (.slice Ab (bo.getD []).length cb)
        have H9 := Lib.hid h9
        clear h9
        go_wp2_with fail
        first | refine bodyPost_ret (results_none rfl _ _ _) rfl ?_ | refine ⟨rfl, _, results_none rfl _ _ _, ?_⟩ | fail
        refine ⟨I3, ⟨⟨bo, .slice Ab (bo.getD []).length cb⟩, cs ++ [⟨newest, ⟨hb0, .slice Ah (hb0.getD []).length ch⟩⟩], v⟩, HS1.out.trans HS3.out, rfl, ⟨B17.ok.mono (b := ⟨bo, .slice Ab (bo.getD []).length cb⟩) HB.out (HS1.out.trans HS3.out), HCV.out⟩, ?_, by simp, H9.out⟩
        show (⟨bo, _⟩ : RO) = rchange ⟨hb0, cs.map C17.r⟩ newest bo
        unfold rchange
        rw [if_pos HNE.out]
        rw [List.map_append]
        rfl
      · have d2 : decide (n < newest) = false := decide_eq_false hn
        rw [d2] at hne
        have HNE := Lib.hid hne
        clear hne
        go_enter Tryz.func53, Tryz.ntmps53
        go_wp2_with fail
        go_quiet (fail)
        have HQW := Lib.hid (H1.out.drewN nq)
        have HSR := Lib.hid (Hp.sub.refl I1)
        have fr := frozen_of_row HQW.out.heap
        have lt := HQW.out.lt
        obtain ⟨y0, y1, y2⟩ := HQW.out.cells3
        obtain ⟨x0, x1⟩ := imm_two HQW.out (HSR.out _ _ HI1.out)
        have h9 := (HQW.out.setCell 0 (.bool bo.isSome)).setCell 1 (.slice Ab (bo.getD []).length cb)
        have H9 := Lib.hid h9
        clear h9
        go_wp2_with fail
        first | refine bodyPost_ret (results_none rfl _ _ _) rfl ?_ | refine ⟨rfl, _, results_none rfl _ _ _, ?_⟩ | fail
        refine ⟨I1, ⟨⟨bo, .slice Ab (bo.getD []).length cb⟩, cs, .slice (some ⟨bb, ob, none⟩) cs.length cc⟩, HS1.out.trans HSR.out, rfl, ⟨B17.ok.mono (b := ⟨bo, .slice Ab (bo.getD []).length cb⟩) HB.out (HS1.out.trans HSR.out), CopiesI.mono HCP.out (HS1.out.trans HSR.out)⟩, ?_, by simp, H9.out⟩
        show (⟨bo, _⟩ : RO) = rchange ⟨hb0, cs.map C17.r⟩ newest bo
        unfold rchange
        rw [if_neg (by rw [HNE.out]; simp)]
  · have d0 : decide (0 < newest) = false := decide_eq_false h0
    have HNE := Lib.hid (HN.out.1 (by omega))
    go_enter Tryz.func53, Tryz.ntmps53
    go_wp2_with fail
    go_quiet (fail)
    have HQW := Lib.hid (H1.out.drewN nq)
    have HSR := Lib.hid (Hp.sub.refl I1)
    have fr := frozen_of_row HQW.out.heap
    have lt := HQW.out.lt
    obtain ⟨y0, y1, y2⟩ := HQW.out.cells3
    obtain ⟨x0, x1⟩ := imm_two HQW.out (HSR.out _ _ HI1.out)
    have h9 := (HQW.out.setCell 0 (.bool bo.isSome)).setCell 1 (.slice Ab (bo.getD []).length cb)
    have H9 := Lib.hid h9
    clear h9
    go_wp2_with fail
    first | refine bodyPost_ret (results_none rfl _ _ _) rfl ?_ | refine ⟨rfl, _, results_none rfl _ _ _, ?_⟩ | fail
    refine ⟨I1, ⟨⟨bo, .slice Ab (bo.getD []).length cb⟩, cs, .slice Ac cs.length cc⟩, HS1.out.trans HSR.out, rfl, ⟨B17.ok.mono (b := ⟨bo, .slice Ab (bo.getD []).length cb⟩) HB.out (HS1.out.trans HSR.out), CopiesI.mono HCP.out (HS1.out.trans HSR.out)⟩, ?_, by simp, H9.out⟩
    show (⟨bo, _⟩ : RO) = rchange ⟨hb0, cs.map C17.r⟩ newest bo
    unfold rchange
    rw [if_neg (by rw [HNE.out]; simp)]
end
end Go.Proofs.YtbepmbcbcklmlaaGreat
