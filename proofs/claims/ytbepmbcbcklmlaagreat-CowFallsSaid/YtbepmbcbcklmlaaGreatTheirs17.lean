/- hectographlaw17: theirs, the document's own answer to an act. -/
import Derived.Test.YtbepmbcbcklmlaaGreatRef17c
import Derived.Test.YtbepmbcbcklmlaaGreatActs17
set_option linter.unusedSimpArgs false
set_option linter.unusedVariables false
set_option linter.unusedSectionVars false
namespace Go.Proofs.YtbepmbcbcklmlaaGreat
open Go.RowKit
def RowO (I : Hp) (v : Value) (os : List O17) : Prop := RowI I 3 v os.length (os.flatMap O17.vals) ∧ ∀ o ∈ os, o.ok I
theorem RowO.mono {I I' : Hp} {v : Value} {os : List O17} (h : RowO I v os) (s : I.sub I') : RowO I' v os := ⟨RowI.mono s h.1, fun o ho => (h.2 o ho).mono s⟩
theorem o17_one {I : Hp} {o : O17} (h : o.ok I) : ∀ u ∈ o.vals, u.oneCell' = true := fun u hu => by
  obtain ⟨A, c, e⟩ := B17.slice h.1
  obtain ⟨⟨A2, c2, e2, _⟩, _⟩ := h.2
  simp only [O17.vals, List.mem_cons, List.mem_nil_iff, or_false] at hu
  rcases hu with rfl | rfl | rfl
  · rfl
  · rw [e]; rfl
  · rw [e2]; rfl
theorem o17s_one {I : Hp} {os : List O17} (h : ∀ o ∈ os, o.ok I) : ∀ u ∈ os.flatMap O17.vals, u.oneCell' = true := fun u hu => by
  obtain ⟨z, hz, hu⟩ := List.mem_flatMap.1 hu
  exact o17_one (h z hz) u hu
theorem flat_set {α : Type} {mk : α → List Value} {k : Nat} (hk : ∀ a, (mk a).length = k) : ∀ (l : List α) (i j : Nat) (a a' : α) (v : Value), l[i]? = some a → j < k → mk a' = (mk a).set j v → (l.flatMap mk).set (i * k + j) v = (l.set i a').flatMap mk
  | [], i, j, a, a', v, h, _, _ => by simp at h
  | b :: l, 0, j, a, a', v, h, hj, e => by
    simp only [List.getElem?_cons_zero, Option.some.injEq] at h
    subst h
    rw [List.flatMap_cons, Nat.zero_mul, Nat.zero_add, List.set_append_left _ _ (by rw [hk]; exact hj), List.set_cons_zero, List.flatMap_cons, e]
  | b :: l, i + 1, j, a, a', v, h, hj, e => by
    rw [List.flatMap_cons, List.set_append_right _ _ (by rw [hk, Nat.add_mul]; omega), hk, show (i + 1) * k + j - k = i * k + j by rw [Nat.add_mul]; omega, List.set_cons_succ, List.flatMap_cons, flat_set hk l i j a a' v (by simpa using h) hj e]
section
variable {W w : World} {I : Hp} {l : List HP}
theorem St.row_set {α : Type} {mk : α → List Value} {k g c : Nat} {e : TypeId} {zs : List α} (h : St W I w (HP.row e k (.slice (some ⟨g, 0, none⟩) zs.length c) zs.length (zs.flatMap mk) :: l)) (hk : ∀ a, (mk a).length = k) {i j : Nat} {a a' : α} {v : Value} (ha : zs[i]? = some a) (hj : j < k) (he : mk a' = (mk a).set j v) :
    St W I (w.setCell ⟨g, i * k + j, none⟩ v) (HP.row e k (.slice (some ⟨g, 0, none⟩) zs.length c) zs.length ((zs.set i a').flatMap mk) :: l) ∧ (∀ x, w.frozen? ⟨g, x, none⟩ = false) ∧ g < w.heap.size := by
  have hil := (List.getElem?_eq_some_iff.1 ha).1
  obtain ⟨hl, p⟩ := h.row_open
  rcases p with ⟨_, e2, _⟩ | ⟨g', cap, cur, e1, p3, p4, p5, p6, s⟩
  · omega
  · simp only [Value.slice.injEq, Option.some.injEq, Addr.mk.injEq, true_and, and_true] at e1
    obtain ⟨rfl, rfl⟩ := e1
    refine ⟨(s.setCell (i * k + j) v).row_shut (by rw [flatk_len hk, List.length_set]) p3 p4 (by simpa using p5) ?_, frozen_of_row s.heap, s.lt⟩
    rw [← flat_set hk zs i j a a' v ha hj he, ← p6, ← List.take_set]
    simp
theorem objects_append {v v2 : Value} {n m : Nat} {xs ys : List Value} (h : St W I w (HP.row 47 3 v n xs :: l)) (hs : SliceSrc w 3 v2 m ys) (hn : n + m ≤ 1000000) :
    ∃ A' c' w', (Builtin.append_ #[27, 27] 27 #[v, v2]).run Tryz.prog w = .ok (.slice A' (n + m) c') w' ∧ St W I w' (HP.row 47 3 (.slice A' (n + m) c') (n + m) (xs ++ ys) :: l) :=
  rowk_append Tryz.underlying27 object_info rfl (by decide) (by decide) h hs hn
theorem St.row_cells {A : Option Addr} {c : Nat} {os : List O17} {i : Nat} {o : O17} (h : St W I w (HP.row 47 3 (.slice A os.length c) os.length (os.flatMap O17.vals) :: l)) (ho : os[i]? = some o) :
    ∃ G, A = some ⟨G, 0, none⟩ ∧ (∀ j, w.frozen? ⟨G, j, none⟩ = false) ∧ G < w.heap.size ∧ ∀ j, j < 3 → w.cell? ⟨G, i * 3 + j, none⟩ = o.vals[j]? := by
  have hil := (List.getElem?_eq_some_iff.1 ho).1
  obtain ⟨hl, p⟩ := h.row_open
  rcases p with ⟨_, e2, _⟩ | ⟨g, cap, cur, e1, p3, p4, p5, p6, s⟩
  · omega
  · simp only [Value.slice.injEq, true_and] at e1
    obtain ⟨rfl, rfl⟩ := e1
    refine ⟨g, rfl, frozen_of_row s.heap, s.lt, fun j hj => ?_⟩
    rw [cells_of s.heap]
    have h7 := flatk_get (mk := O17.vals) (k := 3) (fun _ => rfl) os i j o ho hj
    rw [← h7, ← p6, List.getElem?_take, if_pos, ← Array.getElem?_toList]
    omega
/-- An object of the row is another one. -/
theorem St.row_put {G c : Nat} {os : List O17} {i : Nat} {o o' : O17} (h : St W I w (HP.row 47 3 (.slice (some ⟨G, 0, none⟩) os.length c) os.length (os.flatMap O17.vals) :: l)) (ho : os[i]? = some o) :
    St W I (((w.setCell ⟨G, i * 3, none⟩ (.bool o'.h.o.isSome)).setCell ⟨G, i * 3 + 1, none⟩ o'.h.v).setCell ⟨G, i * 3 + 2, none⟩ o'.cv) (HP.row 47 3 (.slice (some ⟨G, 0, none⟩) os.length c) os.length ((os.set i o').flatMap O17.vals) :: l) := by
  have hil := (List.getElem?_eq_some_iff.1 ho).1
  obtain ⟨h1, _⟩ := h.row_set (mk := O17.vals) (fun _ => rfl) (j := 0) (a' := ⟨⟨o'.h.o, o.h.v⟩, o.cs, o.cv⟩) (v := .bool o'.h.o.isSome) ho (by omega) rfl
  have g1 : (os.set i ⟨⟨o'.h.o, o.h.v⟩, o.cs, o.cv⟩)[i]? = some ⟨⟨o'.h.o, o.h.v⟩, o.cs, o.cv⟩ := by rw [List.getElem?_set, if_pos rfl, if_pos hil]
  have h1' : St W I (w.setCell ⟨G, i * 3, none⟩ (.bool o'.h.o.isSome)) (HP.row 47 3 (.slice (some ⟨G, 0, none⟩) (os.set i ⟨⟨o'.h.o, o.h.v⟩, o.cs, o.cv⟩).length c) (os.set i ⟨⟨o'.h.o, o.h.v⟩, o.cs, o.cv⟩).length ((os.set i ⟨⟨o'.h.o, o.h.v⟩, o.cs, o.cv⟩).flatMap O17.vals) :: l) := by
    rw [List.length_set]
    exact h1
  obtain ⟨h2, _⟩ := h1'.row_set (mk := O17.vals) (fun _ => rfl) (j := 1) (a' := ⟨o'.h, o.cs, o.cv⟩) (v := o'.h.v) g1 (by omega) rfl
  rw [List.set_set, List.length_set] at h2
  have g2 : (os.set i ⟨o'.h, o.cs, o.cv⟩)[i]? = some ⟨o'.h, o.cs, o.cv⟩ := by rw [List.getElem?_set, if_pos rfl, if_pos hil]
  have h2' : St W I ((w.setCell ⟨G, i * 3, none⟩ (.bool o'.h.o.isSome)).setCell ⟨G, i * 3 + 1, none⟩ o'.h.v) (HP.row 47 3 (.slice (some ⟨G, 0, none⟩) (os.set i ⟨o'.h, o.cs, o.cv⟩).length c) (os.set i ⟨o'.h, o.cs, o.cv⟩).length ((os.set i ⟨o'.h, o.cs, o.cv⟩).flatMap O17.vals) :: l) := by
    rw [List.length_set]
    exact h2
  obtain ⟨h3, _⟩ := h2'.row_set (mk := O17.vals) (fun _ => rfl) (j := 2) (a' := o') (v := o'.cv) g2 (by omega) rfl
  rw [List.set_set, List.length_set] at h3
  exact h3
/-- The row opened at an object whose copies are to be others. -/
theorem St.row_hole {A : Option Addr} {c : Nat} {os : List O17} {i : Nat} {o : O17} (h : St W I w (HP.row 47 3 (.slice A os.length c) os.length (os.flatMap O17.vals) :: l)) (ho : os[i]? = some o) :
    ∃ G cur, A = some ⟨G, 0, none⟩ ∧ cur[i * 3 + 2]? = some o.cv ∧ St W I w (HP.pt G (.cells cur 47) :: l) ∧
      ∀ (w' : World) (I' : Hp) (l' : List HP) (cs' : List C17) (cv' : Value), St W I' w' (HP.pt G (.cells (cur.setIfInBounds (i * 3 + 2) cv') 47) :: l') →
        St W I' w' (HP.row 47 3 (.slice (some ⟨G, 0, none⟩) os.length c) os.length ((os.set i ⟨o.h, cs', cv'⟩).flatMap O17.vals) :: l') := by
  have hil := (List.getElem?_eq_some_iff.1 ho).1
  obtain ⟨hl, p⟩ := h.row_open
  rcases p with ⟨_, e2, _⟩ | ⟨g, cap, cur, e1, p3, p4, p5, p6, s⟩
  · omega
  · simp only [Value.slice.injEq, true_and] at e1
    obtain ⟨rfl, rfl⟩ := e1
    refine ⟨g, cur, rfl, ?_, s, fun w' I' l' cs' cv' h' => ?_⟩
    · have h7 := flatk_get (mk := O17.vals) (k := 3) (fun _ => rfl) os i 2 o ho (by omega)
      rw [← p6, List.getElem?_take, if_pos (by omega), Array.getElem?_toList] at h7
      exact h7
    · refine h'.row_shut (by rw [flatk_len (mk := O17.vals) (k := 3) (fun _ => rfl), List.length_set]) p3 p4 (by simpa using p5) ?_
      rw [← flat_set (mk := O17.vals) (k := 3) (fun _ => rfl) os i 2 o ⟨o.h, cs', cv'⟩ cv' ho (by omega) rfl, ← p6, ← List.take_set]
      simp
set_option maxRecDepth 4000
set_option maxHeartbeats 8000000
/-- Region 22 on: the object is laid back. -/
theorem their_end {Q : Exit → Act → World → Prop} {K : Act → World → Prop} {a b : Code} (hK : ∀ x y, b.wp Tryz.prog Q x y → K x y) (hC : (Tryz.f10).body.bind (fromR 22) = some (.seq a b)) {x0 x1 x2 x4 x6 x8 x9 x10 x11 x12 x13 x14 x15 x16 x17 x18 x19 x20 x21 x22 x23 x24 x25 x26 x27 x28 x29 x30 x31 x32 x33 x34 x35 x36 x37 x38 x39 x40 x41 x42 x43 x44 x45 x46 x47 x48 x49 x50 x51 x52 x53 x54 x55 x56 x57 x58 x59 x60 x61 x62 x63 x64 x65 x66 x67 x68 x69 x70 x71 x72 x73 x74 x75 x76 x77 x78 x79 x80 x81 x82 x83 x84 x85 x86 x87 x88 x89 : Value} {g3 g G c : Nat} {os : List O17} {j : Nat} {o o' : O17} {a0 a2 a3 a4 a5 : Int} {v6 v7 : Value} {t3 : TypeId}
    (h : St W I w (HP.pt g (.cells o'.vals.toArray 47) :: HP.row 47 3 (.slice (some ⟨G, 0, none⟩) os.length c) os.length (os.flatMap O17.vals) :: l)) (ho : os[j]? = some o) (hok : o'.ok I) (hA : I g3 = some (.cells #[.int .i64 a0, .int .i64 j, .int .i64 a2, .int .i64 a3, .int .i64 a4, .int .i64 a5, v6, v7] t3))
    (hl : os.length ≤ 1000) (hQ : ∀ (y84 y85 y86 y87 y88 y89 : Value) (w' : World), St W I w' (HP.row 47 3 (.slice (some ⟨G, 0, none⟩) os.length c) os.length ((os.set j o').flatMap O17.vals) :: l) →
      Q .ret ⟨#[x0, x1, x2, .pointer (some ⟨g3, 0, none⟩), .slice (some ⟨G, 0, none⟩) os.length c, .slice (some ⟨G, 0, none⟩) os.length c, x6, .pointer (some ⟨g, 0, none⟩), x8, x9, x10, x11, x12, x13, x14, x15, x16, x17, x18, x19, x20, x21, x22, x23, x24, x25, x26, x27, x28, x29, x30, x31, x32, x33, x34, x35, x36, x37, x38, x39, x40, x41, x42, x43, x44, x45, x46, x47, x48, x49, x50, x51, x52, x53, x54, x55, x56, x57, x58, x59, x60, x61, x62, x63, x64, x65, x66, x67, x68, x69, x70, x71, x72, x73, x74, x75, x76, x77, x78, x79, x80, x81, x82, x83, y84, y85, y86, y87, y88, y89], []⟩ w') :
    a.wp Tryz.prog (Exit.then K Q) ⟨#[x0, x1, x2, .pointer (some ⟨g3, 0, none⟩), x4, .slice (some ⟨G, 0, none⟩) os.length c, x6, .pointer (some ⟨g, 0, none⟩), x8, x9, x10, x11, x12, x13, x14, x15, x16, x17, x18, x19, x20, x21, x22, x23, x24, x25, x26, x27, x28, x29, x30, x31, x32, x33, x34, x35, x36, x37, x38, x39, x40, x41, x42, x43, x44, x45, x46, x47, x48, x49, x50, x51, x52, x53, x54, x55, x56, x57, x58, x59, x60, x61, x62, x63, x64, x65, x66, x67, x68, x69, x70, x71, x72, x73, x74, x75, x76, x77, x78, x79, x80, x81, x82, x83, x84, x85, x86, x87, x88, x89], []⟩ w := by
  injection hC with hC
  injection hC with hC1 hC2
  subst hC1 hC2
  have hjl := (List.getElem?_eq_some_iff.1 ho).1
  have hln : (os.length : Int) ≤ 1000 := by omega
  obtain ⟨G', e1, fr, lt, cel⟩ := (h.pull 1 _ rfl).row_cells ho
  simp only [Option.some.injEq, Addr.mk.injEq, true_and, and_true] at e1
  subst e1
  have c0 := cel 0 (by omega)
  have c1 := cel 1 (by omega)
  have c2 := cel 2 (by omega)
  obtain ⟨b0, b1, _⟩ := act_cells h hA
  obtain ⟨⟨ho1, hv⟩, cs, cv⟩ := o'
  obtain ⟨hh, hcp⟩ := hok
  obtain ⟨Ah, ch, e, _⟩ := hh
  simp only at e
  subst e
  obtain ⟨⟨Ac, cc, e, _⟩, _⟩ := hcp
  simp only at e
  subst e
  simp only [O17.vals, List.getElem?_cons_succ, List.getElem?_cons_zero, Nat.add_zero] at c0 c1 c2
  have h9 := ((h.pull 1 _ rfl).row_put (o' := ⟨⟨ho1, .slice Ah (ho1.getD []).length ch⟩, cs, .slice Ac cs.length cc⟩) ho)
  have H9 := Lib.hid ((h9.pull 1 _ rfl).drop)
  simp only [O17.vals] at h
  obtain ⟨y0, y1, y2⟩ := h.cells3
  have HQ := Lib.hid hQ
  clear hQ h9 h cel hA
  go_wp2_with fail
  exact HQ.out _ _ _ _ _ _ _ H9.out
end
theorem their_set {os : List O17} {a : A17} {j : Nat} {o o' : O17} (h5 : a.what ≠ 5) (hj : a.num = j) (ho : os[j]? = some o) (hr : o'.r = actO o.r a) : (os.set j o').map O17.r = theirR (os.map O17.r) a := by
  have hjl := (List.getElem?_eq_some_iff.1 ho).1
  unfold theirR
  rw [if_neg h5, if_neg (by rw [List.length_map]; omega), hj, Int.toNat_natCast, List.getElem?_map, ho]
  show _ = (os.map O17.r).set j (actO o.r a)
  rw [List.map_set, hr]
theorem their_out {os : List O17} {a : A17} (h5 : a.what ≠ 5) (hr : a.num < 0 ∨ (os.length : Int) ≤ a.num) : os.map O17.r = theirR (os.map O17.r) a := by
  unfold theirR
  rw [if_neg h5, if_pos (by rw [List.length_map]; exact hr)]
theorem set_bound {os : List O17} {j m : Nat} {o' : O17} (hb : ∀ o ∈ os, o.cs.length ≤ m) (h' : o'.cs.length ≤ m + 1) : ∀ o ∈ os.set j o', o.cs.length ≤ m + 1 := fun o ho => by
  rcases List.mem_or_eq_of_mem_set ho with q | q
  · have := hb o q
    omega
  · rw [q]; exact h'
section
variable {W w : World} {I : Hp} {l : List HP}
set_option maxRecDepth 4000
set_option maxHeartbeats 8000000
theorem theirs17_spec (v : Value) (os : List O17) (a : A17) (h : St W I w l) (hos : RowO I v os) (ha : a.ok I) (hl : os.length ≤ 1000) (hb : ∀ o ∈ os, (o.h.o.getD []).length ≤ 64 ∧ o.cs.length ≤ 50000) (hml : a.ms.length ≤ 9223372036854775807)
    (hs0 : a.what = 0 → 0 ≤ a.off ∧ a.off + a.p.length ≤ 64) (hs1 : a.what = 1 → (0 ≤ a.off ∧ a.off ≤ 64) ∧ 0 ≤ a.n ∧ a.n ≤ 64) (hs2 : a.what = 2 → 0 ≤ a.n ∧ a.n ≤ 64) (hs3 : a.what = 3 → a.p.length ≤ 64) :
    Calls Tryz.prog 10 #[v, a.val] w fun e w' => ∃ (I' : Hp) (os' : List O17) (v' : Value), I.sub I' ∧ e = .returned v' ∧ RowO I' v' os' ∧ os'.map O17.r = theirR (os.map O17.r) a ∧ (∀ m, (∀ o ∈ os, o.cs.length ≤ m) → ∀ o ∈ os', o.cs.length ≤ m + 1) ∧ St W I' w' l := by
  obtain ⟨a0, a1, a2, a3, a4, a5, ap, apv, ams, amv⟩ := a
  have HA := Lib.hid ha
  obtain ⟨hp, hm, _⟩ := ha
  simp only at hp hm hml hs0 hs1 hs2 hs3
  have HP' := Lib.hid hp
  have HM' := Lib.hid hm
  obtain ⟨Ap, cp, rfl, _⟩ := hp
  obtain ⟨Am, cm, rfl, _⟩ := hm
  have HOS := Lib.hid hos
  obtain ⟨⟨Ao, co, rfl, _⟩, _⟩ := hos
  have HB := Lib.hid hb
  have HS0 := Lib.hid hs0
  have HS1' := Lib.hid hs1
  have HS2 := Lib.hid hs2
  have HS3 := Lib.hid hs3
  have hln : (os.length : Int) ≤ 1000 := by omega
  obtain ⟨I1, hs1, hI1, h1⟩ := (h.alloc (.cells #[.int .i64 a0, .int .i64 a1, .int .i64 a2, .int .i64 a3, .int .i64 a4, .int .i64 a5, .slice Ap ap.length cp, .slice Am ams.length cm] 31)).freeze
  have h2 := St.empty_row h1 47 3
  obtain ⟨A2, c2, w3, hr3, h3⟩ := objects_append h2 ((HOS.out.mono hs1).1.src h2.imm (o17s_one (HOS.out.mono hs1).2) (by omega)) (by omega)
  rw [Nat.zero_add, List.nil_append] at h3
  rw [Nat.zero_add] at hr3
  simp only [World.size_alloc] at hr3
  have HR3 := Lib.hid hr3
  have H3 := Lib.hid h3
  have HI := Lib.hid hs1
  have HI1 := Lib.hid hI1
  simp only [A17.val]
  clear h h1 h2 h3 hr3 hs1 hI1 hb hs0 hs2 hs3
  obtain ⟨b0, b1, b2, b3, b4, b5, b6, b7⟩ := act_cells H3.out HI1.out
  by_cases h5 : a0 = 5
  · subst h5
    clear HS0 HS1' HS2 HS3
    clear b1 b2 b3 b4 b5 b6 b7
    go_enter Tryz.func10, Tryz.ntmps10
    go_wp2_with (at_builtin; refine Lib.wpList_append_run _ rfl (.tmp 8) (.tmp 9) 27 27 rfl _ _ rfl rfl _ _ HR3.out ?_)
    go_loopw [6] (fun a6 wr => ∃ (i : Nat) (I2 : Hp) (os1 : List O17), a6 = .int .i64 i ∧ i ≤ os.length ∧ I1.sub I2 ∧ os1.length = os.length ∧ (∀ o ∈ os1, o.ok I2) ∧
      (∀ k : Nat, (os1[k]?).map O17.r = if k < i then (os[k]?).map (fun o => ⟨o.h.o, tidyR ams (o.cs.map C17.r) 0⟩) else (os[k]?).map O17.r) ∧ (∀ (k : Nat) (o1 : O17), os1[k]? = some o1 → ∃ o, os[k]? = some o ∧ o1.cs.length ≤ o.cs.length) ∧
      St W I2 wr (HP.row 47 3 (.slice A2 os.length c2) os.length (os1.flatMap O17.vals) :: l)) (fun a6 _ => os.length - (intOf a6).toNat)
    case atStart => exact ⟨0, I1, os, rfl, Nat.zero_le _, Hp.sub.refl _, rfl, (HOS.out.mono HI.out).2, (fun k => by rw [if_neg (by omega)]), (fun k o1 h => ⟨o1, h, Nat.le_refl _⟩), H3.out⟩
    case round =>
      obtain ⟨i, I2, os1, rfl, hi, hI2, hl1, hok1, hr1, hc1, hst⟩ := hrel
      by_cases hlt : i < os.length
      · have d0 : decide ((i : Int) < (os.length : Int)) = true := by rw [decide_eq_true_eq]; omega
        obtain ⟨o1, ho1⟩ : ∃ o1, os1[i]? = some o1 := ⟨_, List.getElem?_eq_getElem (by omega)⟩
        obtain ⟨o, ho, hcl⟩ := hc1 i o1 ho1
        have hro : o1.r = o.r := by
          have := hr1 i
          rw [if_neg (by omega), ho1, ho] at this
          exact Option.some.inj this
        rw [← hl1] at hst
        obtain ⟨G, cur, e1, hcv, hop, hsh⟩ := hst.row_hole ho1
        subst e1
        have hb1 := HB.out o (List.mem_of_getElem? ho)
        have hty := tidy17_spec (off := i * 3) o1.cv o1.cs (.slice Am ams.length cm) ams hop.drew hcv (hok1 o1 (List.mem_of_getElem? ho1)).2 ((intsIP _ _).mono (HI.out.trans hI2) HM'.out) (by omega) hml
        have x7 : wr.cell? ⟨w.heap.size, 7, none⟩ = some (.slice Am ams.length cm) := St.imm_cell hop (hI2 _ _ HI1.out) 7
        have HTY := Lib.hid hty
        have HSH := Lib.hid hsh
        have HL1 := Lib.hid hl1
        have HOK1 := Lib.hid hok1
        have HR1 := Lib.hid hr1
        have HC1 := Lib.hid hc1
        have HI2 := Lib.hid hI2
        have HRO := Lib.hid hro
        have HO := Lib.hid ho
        have HO1 := Lib.hid ho1
        clear hty hsh hl1 hok1 hr1 hc1 hI2 hro hst hop hcv ho ho1 hb1
        go_wp2_with fail
        refine wp_region_calm [0, 1, 2, 3] [4] [5] (by kernel_rfl) (by kernel_rfl) ?_
        simp only [pickL, List.getElem?_cons_zero, List.getElem?_cons_succ]
        repeat (refine wpPlain_step _ (Or.inl ⟨by rfl, by intro w; go_simp; try with_reducible rfl⟩) ?_; (try simp only [Act.put, List.setIfInBounds_toArray, List.set_cons_zero, List.set_cons_succ]))
        refine wpPlain_nil ?_
        repeat still_step
        refine wpStill_nil ?_
        go_wp2_with fail
        refine HTY.out.mono ?_
        rintro e w5 ⟨I5, cs5, cv5, hs5, rfl, hcp5, hr5, hcl5, h5⟩
        have H5 := Lib.hid (HSH.out _ _ _ cs5 cv5 h5)
        have HS5 := Lib.hid hs5
        have HCP5 := Lib.hid hcp5
        have HR5 := Lib.hid hr5
        clear h5 hs5 hcp5 hr5
        go_wp2_with fail
        refine NoPanic.normal ?_
        go_wp2_with fail
        go_roundw
        case rel =>
          refine ⟨i + 1, I5, os1.set i ⟨o1.h, cs5, cv5⟩, by go_num, by omega, HI2.out.trans HS5.out, by rw [List.length_set]; exact HL1.out, ?_, fun k => ?_, fun k q hq => ?_, ?_⟩
          · intro q hq
            rcases List.mem_or_eq_of_mem_set hq with q1 | q1
            · exact (HOK1.out q q1).mono HS5.out
            · rw [q1]
              exact ⟨(HOK1.out o1 (List.mem_of_getElem? HO1.out)).1.mono HS5.out, HCP5.out⟩
          · have hk := HR1.out k
            rw [List.getElem?_set]
            by_cases e : i = k
            · subst e
              rw [if_pos rfl, if_pos (by rw [HL1.out]; exact hlt), if_pos (by omega), HO.out]
              have e2 := HRO.out
              have e3 : o1.h.o = o.h.o := congrArg RO.h e2
              have e4 : o1.cs.map C17.r = o.cs.map C17.r := congrArg RO.cs e2
              show some (⟨o1.h.o, cs5.map C17.r⟩ : RO) = some ⟨o.h.o, tidyR ams (o.cs.map C17.r) 0⟩
              rw [HR5.out, e3, e4]
            · rw [if_neg e, hk]
              by_cases c : k < i
              · rw [if_pos c, if_pos (by omega)]
              · rw [if_neg c, if_neg (by omega)]
          · rw [List.getElem?_set] at hq
            by_cases e : i = k
            · subst e
              rw [if_pos rfl, if_pos (by rw [HL1.out]; exact hlt)] at hq
              injection hq with hq
              subst hq
              exact ⟨o, HO.out, Nat.le_trans hcl5 hcl⟩
            · rw [if_neg e] at hq
              exact HC1.out k q hq
          · have h6 := H5.out
            rw [HL1.out] at h6
            exact h6
        case measure => simp [intOf]; omega
      · obtain rfl : i = os.length := by omega
        have d0 : decide (((os.length : Nat) : Int) < (os.length : Int)) = false := by rw [decide_eq_false_iff_not]; omega
        obtain ⟨I6, hs6, e6, h6⟩ := hst.freeze_row
        have H6 := Lib.hid h6
        have HS6 := Lib.hid ((HI.out.trans hI2).trans hs6)
        have E6 := Lib.hid (show RowO I6 (.slice A2 os.length c2) os1 from ⟨by rw [hl1]; exact e6, fun o ho => (hok1 o ho).mono hs6⟩)
        have HRR := Lib.hid (show os1.map O17.r = theirR (os.map O17.r) ⟨5, a1, a2, a3, a4, a5, ap, .slice Ap ap.length cp, ams, .slice Am ams.length cm⟩ by
          apply List.ext_getElem?
          intro k
          unfold theirR
          rw [if_pos rfl, List.getElem?_map, hr1 k, List.getElem?_map, List.getElem?_map]
          by_cases c : k < os.length
          · rw [if_pos c, Option.map_map]
            rfl
          · rw [if_neg c, List.getElem?_eq_none (by omega)]
            rfl)
        have HC1 := Lib.hid hc1
        clear h6 hs6 e6 hst hI2 hr1 hc1 hok1
        go_wp2_with fail
        go_ret
        refine ⟨I6, os1, .slice A2 os.length c2, HS6.out, rfl, E6.out, HRR.out, fun m hm o ho => ?_, H6.out⟩
        obtain ⟨k, hk⟩ := List.getElem?_of_mem ho
        obtain ⟨o', ho', hle⟩ := HC1.out k o hk
        have := hm o' (List.mem_of_getElem? ho')
        omega
  · have h5i : ¬ a0 = 5 := h5
    have HOUT := Lib.hid (fun hr => their_out (os := os) (a := ⟨a0, a1, a2, a3, a4, a5, ap, .slice Ap ap.length cp, ams, .slice Am ams.length cm⟩) h5 hr)
    by_cases hr : a1 < 0 ∨ (os.length : Int) ≤ a1
    · obtain ⟨I6, hs6, e6, h6⟩ := H3.out.freeze_row
      have H6 := Lib.hid h6
      have HS6 := Lib.hid (HI.out.trans hs6)
      have E6 := Lib.hid (show RowO I6 (.slice A2 os.length c2) os from ⟨e6, ((HOS.out.mono HI.out).mono hs6).2⟩)
      clear h6 e6 hs6
      by_cases hn : a1 < 0
      · have d0 : decide (a1 < 0) = true := decide_eq_true hn
        go_enter Tryz.func10, Tryz.ntmps10
        go_wp2_with (at_builtin; refine Lib.wpList_append_run _ rfl (.tmp 8) (.tmp 9) 27 27 rfl _ _ rfl rfl _ _ HR3.out ?_)
        go_ret
        exact ⟨I6, HS6.out, os, .slice A2 os.length c2, rfl, E6.out, HOUT.out hr, fun m hm o ho => Nat.le_succ_of_le (hm o ho), H6.out⟩
      · have d0 : decide (a1 < 0) = false := decide_eq_false hn
        have hle : (os.length : Int) ≤ a1 := by omega
        have d1 : decide ((os.length : Int) ≤ a1) = true := decide_eq_true hle
        go_enter Tryz.func10, Tryz.ntmps10
        go_wp2_with (at_builtin; refine Lib.wpList_append_run _ rfl (.tmp 8) (.tmp 9) 27 27 rfl _ _ rfl rfl _ _ HR3.out ?_)
        go_ret
        exact ⟨I6, HS6.out, os, .slice A2 os.length c2, rfl, E6.out, HOUT.out hr, fun m hm o ho => Nat.le_succ_of_le (hm o ho), H6.out⟩
    · obtain ⟨j, hj⟩ : ∃ j : Nat, a1 = j := ⟨a1.toNat, by omega⟩
      subst hj
      have hjl : j < os.length := by omega
      have hjn : ¬ (j : Int) < 0 := by omega
      have d1 : decide ((os.length : Int) ≤ (j : Int)) = false := decide_eq_false (by omega)
      obtain ⟨o, ho⟩ : ∃ o, os[j]? = some o := ⟨_, List.getElem?_eq_getElem hjl⟩
      have hom := List.mem_of_getElem? ho
      have hoo := (HOS.out.mono HI.out).2 o hom
      have hbo := HB.out o hom
      have HSET := Lib.hid (fun (o' : O17) (h' : o'.r = actO o.r ⟨a0, j, a2, a3, a4, a5, ap, .slice Ap ap.length cp, ams, .slice Am ams.length cm⟩) => their_set (a := ⟨a0, j, a2, a3, a4, a5, ap, .slice Ap ap.length cp, ams, .slice Am ams.length cm⟩) h5 rfl ho h')
      have HBD := Lib.hid (fun (m : Nat) (hm : ∀ o ∈ os, o.cs.length ≤ m) => hm o hom)
      have HO := Lib.hid ho
      obtain ⟨G, e1, fr, lt, cel⟩ := H3.out.row_cells ho
      subst e1
      have c0 := cel 0 (by omega)
      have c1 := cel 1 (by omega)
      have c2' := cel 2 (by omega)
      obtain ⟨⟨ho0, hv⟩, cs, cv⟩ := o
      have HOO := Lib.hid hoo
      obtain ⟨hh, hcp⟩ := hoo
      obtain ⟨Ah, ch, e, _⟩ := hh
      simp only at e
      subst e
      obtain ⟨⟨Ac, cc, e, _⟩, _⟩ := hcp
      simp only at e
      subst e
      simp only at hbo
      simp only [O17.vals, List.getElem?_cons_succ, List.getElem?_cons_zero, Nat.add_zero] at c0 c1 c2'
      have h4 := H3.out.alloc (.cells (O17.vals ⟨⟨ho0, .slice Ah (ho0.getD []).length ch⟩, cs, .slice Ac cs.length cc⟩).toArray 47)
      have HBO := Lib.hid hbo
      clear ho hom hr HOUT cel
      go_enter Tryz.func10, Tryz.ntmps10
      go_upto_region 11 with (at_builtin; refine Lib.wpList_append_run _ rfl (.tmp 8) (.tmp 9) 27 27 rfl _ _ rfl rfl _ _ HR3.out ?_)
      obtain ⟨w4, hw4⟩ : ∃ x, w3.alloc (.cells (O17.vals ⟨⟨ho0, .slice Ah (ho0.getD []).length ch⟩, cs, .slice Ac cs.length cc⟩).toArray 47) = x := ⟨_, rfl⟩
      obtain ⟨g, hg⟩ : ∃ x, w3.heap.size = x := ⟨_, rfl⟩
      rw [hw4, hg] at h4
      simp only [O17.vals] at hw4
      rw [hw4, hg]
      have H4 := Lib.hid h4
      clear h4 hw4 hg c0 c1 c2' fr lt b0 b1 b2 b3 b4 b5 b6 b7
      obtain ⟨b0, b1, b2, b3, b4, b5, b6, b7⟩ := act_cells H4.out HI1.out
      have HL := Lib.hid (show (ho0.getD []).length ≤ 64 ∧ cs.length ≤ 100000 by have := HBO.out; omega)
      by_cases e0 : a0 = 0
      · subst e0
        obtain ⟨off, rfl⟩ : ∃ off : Nat, a3 = off := ⟨a3.toNat, by have := HS0.out rfl; omega⟩
        have hc := write17_spec ⟨⟨ho0, .slice Ah (ho0.getD []).length ch⟩, cs, .slice Ac cs.length cc⟩ a2 off (.slice Ap ap.length cp) ap H4.out HOO.out ((bytesIP _ _).mono HI.out HP'.out) (by have := HS0.out rfl; omega) HL.out.1 HL.out.2
        have HCC := Lib.hid hc
        clear hc
        go_wp2_with fail
        refine HCC.out.mono ?_
        rintro e w5 ⟨I5, o5, hs5, rfl, hok5, hr5, hl5, h5⟩
        have H5 := Lib.hid h5
        have HS5 := Lib.hid hs5
        have HOK5 := Lib.hid hok5
        have HR5 := Lib.hid hr5
        have HL5 := Lib.hid hl5
        clear h5 hs5 hok5 hr5 HCC hl5
        go_upto_region 22 with fail
        refine their_end (by assumption) (by kernel_rfl) (os := os) (o := ⟨⟨ho0, .slice Ah (ho0.getD []).length ch⟩, cs, .slice Ac cs.length cc⟩) (o' := o5) H5.out HO.out HOK5.out (HS5.out _ _ HI1.out) hl ?_
        intro q84 q85 q86 q87 q88 q89 w9 h9
        obtain ⟨I9, hs9, e9, h9⟩ := h9.freeze_row
        have H9 := Lib.hid h9
        have HS9 := Lib.hid ((HI.out.trans HS5.out).trans hs9)
        have E9 := Lib.hid (show RowO I9 (.slice (some ⟨G, 0, none⟩) os.length c2) (os.set j o5) from ⟨by rw [List.length_set]; exact e9, fun q hq => by
          rcases List.mem_or_eq_of_mem_set hq with q1 | q1
          · exact ((HOS.out.2 q q1).mono HI.out).mono (HS5.out.trans hs9)
          · rw [q1]; exact O17.ok.mono HOK5.out hs9⟩)
        clear h9 hs9 e9
        go_ret
        exact ⟨I9, os.set j o5, .slice (some ⟨G, 0, none⟩) os.length c2, HS9.out, rfl, E9.out, HSET.out _ HR5.out, fun m hm => set_bound hm (Nat.le_trans HL5.out (Nat.succ_le_succ (HBD.out m hm))), H9.out⟩
      by_cases e1 : a0 = 1
      · subst e1
        obtain ⟨off, rfl⟩ : ∃ off : Nat, a3 = off := ⟨a3.toNat, by have := HS1'.out rfl; omega⟩
        obtain ⟨n, rfl⟩ : ∃ n : Nat, a4 = n := ⟨a4.toNat, by have := HS1'.out rfl; omega⟩
        have hc := clear17_spec ⟨⟨ho0, .slice Ah (ho0.getD []).length ch⟩, cs, .slice Ac cs.length cc⟩ a2 off n H4.out HOO.out (by have := HS1'.out rfl; omega) (by have := HS1'.out rfl; omega) HL.out.1 HL.out.2
        have HCC := Lib.hid hc
        clear hc
        go_wp2_with fail
        refine HCC.out.mono ?_
        rintro e w5 ⟨I5, o5, hs5, rfl, hok5, hr5, hl5, h5⟩
        have H5 := Lib.hid h5
        have HS5 := Lib.hid hs5
        have HOK5 := Lib.hid hok5
        have HR5 := Lib.hid hr5
        have HL5 := Lib.hid hl5
        clear h5 hs5 hok5 hr5 HCC hl5
        go_upto_region 22 with fail
        refine their_end (by assumption) (by kernel_rfl) (os := os) (o := ⟨⟨ho0, .slice Ah (ho0.getD []).length ch⟩, cs, .slice Ac cs.length cc⟩) (o' := o5) H5.out HO.out HOK5.out (HS5.out _ _ HI1.out) hl ?_
        intro q84 q85 q86 q87 q88 q89 w9 h9
        obtain ⟨I9, hs9, e9, h9⟩ := h9.freeze_row
        have H9 := Lib.hid h9
        have HS9 := Lib.hid ((HI.out.trans HS5.out).trans hs9)
        have E9 := Lib.hid (show RowO I9 (.slice (some ⟨G, 0, none⟩) os.length c2) (os.set j o5) from ⟨by rw [List.length_set]; exact e9, fun q hq => by
          rcases List.mem_or_eq_of_mem_set hq with q1 | q1
          · exact ((HOS.out.2 q q1).mono HI.out).mono (HS5.out.trans hs9)
          · rw [q1]; exact O17.ok.mono HOK5.out hs9⟩)
        clear h9 hs9 e9
        go_ret
        exact ⟨I9, os.set j o5, .slice (some ⟨G, 0, none⟩) os.length c2, HS9.out, rfl, E9.out, HSET.out _ HR5.out, fun m hm => set_bound hm (Nat.le_trans HL5.out (Nat.succ_le_succ (HBD.out m hm))), H9.out⟩
      by_cases e2 : a0 = 2
      · subst e2
        obtain ⟨n, rfl⟩ : ∃ n : Nat, a4 = n := ⟨a4.toNat, by have := HS2.out rfl; omega⟩
        have hc := cut17_spec ⟨⟨ho0, .slice Ah (ho0.getD []).length ch⟩, cs, .slice Ac cs.length cc⟩ a2 n H4.out HOO.out (by have := HS2.out rfl; omega) HL.out.1 HL.out.2
        have HCC := Lib.hid hc
        clear hc
        go_wp2_with fail
        refine HCC.out.mono ?_
        rintro e w5 ⟨I5, o5, hs5, rfl, hok5, hr5, hl5, h5⟩
        have H5 := Lib.hid h5
        have HS5 := Lib.hid hs5
        have HOK5 := Lib.hid hok5
        have HR5 := Lib.hid hr5
        have HL5 := Lib.hid hl5
        clear h5 hs5 hok5 hr5 HCC hl5
        go_upto_region 22 with fail
        refine their_end (by assumption) (by kernel_rfl) (os := os) (o := ⟨⟨ho0, .slice Ah (ho0.getD []).length ch⟩, cs, .slice Ac cs.length cc⟩) (o' := o5) H5.out HO.out HOK5.out (HS5.out _ _ HI1.out) hl ?_
        intro q84 q85 q86 q87 q88 q89 w9 h9
        obtain ⟨I9, hs9, e9, h9⟩ := h9.freeze_row
        have H9 := Lib.hid h9
        have HS9 := Lib.hid ((HI.out.trans HS5.out).trans hs9)
        have E9 := Lib.hid (show RowO I9 (.slice (some ⟨G, 0, none⟩) os.length c2) (os.set j o5) from ⟨by rw [List.length_set]; exact e9, fun q hq => by
          rcases List.mem_or_eq_of_mem_set hq with q1 | q1
          · exact ((HOS.out.2 q q1).mono HI.out).mono (HS5.out.trans hs9)
          · rw [q1]; exact O17.ok.mono HOK5.out hs9⟩)
        clear h9 hs9 e9
        go_ret
        exact ⟨I9, os.set j o5, .slice (some ⟨G, 0, none⟩) os.length c2, HS9.out, rfl, E9.out, HSET.out _ HR5.out, fun m hm => set_bound hm (Nat.le_trans HL5.out (Nat.succ_le_succ (HBD.out m hm))), H9.out⟩
      by_cases e3 : a0 = 3
      · subst e3
        have hc := lay17_spec ⟨⟨ho0, .slice Ah (ho0.getD []).length ch⟩, cs, .slice Ac cs.length cc⟩ a2 (.slice Ap ap.length cp) ap H4.out HOO.out ((bytesIP _ _).mono HI.out HP'.out) (HS3.out rfl) HL.out.1 HL.out.2
        have HCC := Lib.hid hc
        clear hc
        go_wp2_with fail
        refine HCC.out.mono ?_
        rintro e w5 ⟨I5, o5, hs5, rfl, hok5, hr5, hl5, h5⟩
        have H5 := Lib.hid h5
        have HS5 := Lib.hid hs5
        have HOK5 := Lib.hid hok5
        have HR5 := Lib.hid hr5
        have HL5 := Lib.hid hl5
        clear h5 hs5 hok5 hr5 HCC hl5
        go_upto_region 22 with fail
        refine their_end (by assumption) (by kernel_rfl) (os := os) (o := ⟨⟨ho0, .slice Ah (ho0.getD []).length ch⟩, cs, .slice Ac cs.length cc⟩) (o' := o5) H5.out HO.out HOK5.out (HS5.out _ _ HI1.out) hl ?_
        intro q84 q85 q86 q87 q88 q89 w9 h9
        obtain ⟨I9, hs9, e9, h9⟩ := h9.freeze_row
        have H9 := Lib.hid h9
        have HS9 := Lib.hid ((HI.out.trans HS5.out).trans hs9)
        have E9 := Lib.hid (show RowO I9 (.slice (some ⟨G, 0, none⟩) os.length c2) (os.set j o5) from ⟨by rw [List.length_set]; exact e9, fun q hq => by
          rcases List.mem_or_eq_of_mem_set hq with q1 | q1
          · exact ((HOS.out.2 q q1).mono HI.out).mono (HS5.out.trans hs9)
          · rw [q1]; exact O17.ok.mono HOK5.out hs9⟩)
        clear h9 hs9 e9
        go_ret
        exact ⟨I9, os.set j o5, .slice (some ⟨G, 0, none⟩) os.length c2, HS9.out, rfl, E9.out, HSET.out _ HR5.out, fun m hm => set_bound hm (Nat.le_trans HL5.out (Nat.succ_le_succ (HBD.out m hm))), H9.out⟩
      by_cases e4 : a0 = 4
      · subst e4
        have hc := back17_spec ⟨⟨ho0, .slice Ah (ho0.getD []).length ch⟩, cs, .slice Ac cs.length cc⟩ a2 a5 H4.out HOO.out HL.out.1 HL.out.2
        have HCC := Lib.hid hc
        clear hc
        go_wp2_with fail
        refine HCC.out.mono ?_
        rintro e w5 ⟨I5, o5, hs5, rfl, hok5, hr5, hl5, h5⟩
        have H5 := Lib.hid h5
        have HS5 := Lib.hid hs5
        have HOK5 := Lib.hid hok5
        have HR5 := Lib.hid hr5
        have HL5 := Lib.hid hl5
        clear h5 hs5 hok5 hr5 HCC hl5
        go_upto_region 22 with fail
        refine their_end (by assumption) (by kernel_rfl) (os := os) (o := ⟨⟨ho0, .slice Ah (ho0.getD []).length ch⟩, cs, .slice Ac cs.length cc⟩) (o' := o5) H5.out HO.out HOK5.out (HS5.out _ _ HI1.out) hl ?_
        intro q84 q85 q86 q87 q88 q89 w9 h9
        obtain ⟨I9, hs9, e9, h9⟩ := h9.freeze_row
        have H9 := Lib.hid h9
        have HS9 := Lib.hid ((HI.out.trans HS5.out).trans hs9)
        have E9 := Lib.hid (show RowO I9 (.slice (some ⟨G, 0, none⟩) os.length c2) (os.set j o5) from ⟨by rw [List.length_set]; exact e9, fun q hq => by
          rcases List.mem_or_eq_of_mem_set hq with q1 | q1
          · exact ((HOS.out.2 q q1).mono HI.out).mono (HS5.out.trans hs9)
          · rw [q1]; exact O17.ok.mono HOK5.out hs9⟩)
        clear h9 hs9 e9
        go_ret
        exact ⟨I9, os.set j o5, .slice (some ⟨G, 0, none⟩) os.length c2, HS9.out, rfl, E9.out, HSET.out _ HR5.out, fun m hm => set_bound hm (Nat.le_trans HL5.out (Nat.succ_le_succ (HBD.out m hm))), H9.out⟩
      have HID := Lib.hid (show actO (O17.r ⟨⟨ho0, .slice Ah (ho0.getD []).length ch⟩, cs, .slice Ac cs.length cc⟩) ⟨a0, j, a2, a3, a4, a5, ap, .slice Ap ap.length cp, ams, .slice Am ams.length cm⟩ = O17.r ⟨⟨ho0, .slice Ah (ho0.getD []).length ch⟩, cs, .slice Ac cs.length cc⟩ by unfold actO; rw [if_neg e0, if_neg e1, if_neg e2, if_neg e3, if_neg e4])
      go_upto_region 22 with fail
      refine their_end (by assumption) (by kernel_rfl) (os := os) (o := ⟨⟨ho0, .slice Ah (ho0.getD []).length ch⟩, cs, .slice Ac cs.length cc⟩) (o' := ⟨⟨ho0, .slice Ah (ho0.getD []).length ch⟩, cs, .slice Ac cs.length cc⟩) H4.out HO.out HOO.out ((Hp.sub.refl I1) _ _ HI1.out) hl ?_
      intro q84 q85 q86 q87 q88 q89 w9 h9
      obtain ⟨I9, hs9, e9, h9⟩ := h9.freeze_row
      have H9 := Lib.hid h9
      have HS9 := Lib.hid ((HI.out.trans (Hp.sub.refl I1)).trans hs9)
      have E9 := Lib.hid (show RowO I9 (.slice (some ⟨G, 0, none⟩) os.length c2) (os.set j ⟨⟨ho0, .slice Ah (ho0.getD []).length ch⟩, cs, .slice Ac cs.length cc⟩) from ⟨by rw [List.length_set]; exact e9, fun q hq => by
        rcases List.mem_or_eq_of_mem_set hq with q1 | q1
        · exact ((HOS.out.2 q q1).mono HI.out).mono ((Hp.sub.refl I1).trans hs9)
        · rw [q1]; exact O17.ok.mono HOO.out hs9⟩)
      clear h9 hs9 e9
      go_ret
      exact ⟨I9, os.set j ⟨⟨ho0, .slice Ah (ho0.getD []).length ch⟩, cs, .slice Ac cs.length cc⟩, .slice (some ⟨G, 0, none⟩) os.length c2, HS9.out, rfl, E9.out, HSET.out _ HID.out.symm, fun m hm => set_bound hm (Nat.le_succ_of_le (HBD.out m hm)), H9.out⟩
end
end Go.Proofs.YtbepmbcbcklmlaaGreat
