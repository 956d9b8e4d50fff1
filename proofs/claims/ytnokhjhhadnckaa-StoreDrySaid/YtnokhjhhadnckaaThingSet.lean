/- An object behind a deed that sets an attribute. -/
import Derived.Test.YtnokhjhhadnckaaThingDo
set_option linter.unusedSimpArgs false
set_option linter.unusedVariables false
set_option linter.unusedSectionVars false
namespace Go.Proofs.Ytnokhjhhadnckaa
open Go.RowKit
section
variable {W w : World} {I : Hp} {l : List HP} {v : Value}
set_option maxRecDepth 4000
set_option maxHeartbeats 2000000
theorem do_set_del {t : TS} (pv : Value) (d : Dd) (hk : d.kind = 4) (hp0 : d.p = []) (h : St W I w (thingHP v t :: l)) (hp : BytesI I pv d.p) :
    Calls Try.prog 90 #[v, .agg #[.int .i64 d.kind, .int .i64 d.n, pv, .string d.name]] w fun e w' => e = .returned v ∧ St W I w' (thingHP v { t with attr := setAttr t.attr d.name d.p } :: l) := by
  rw [hk]
  obtain ⟨b, m, vb, rfl, hs⟩ := h.thing_open
  clear h
  have hlen : ∃ A c, pv = .slice A 0 c := by
    obtain ⟨A, c, e, _⟩ := hp
    rw [hp0] at e
    exact ⟨A, c, e⟩
  obtain ⟨A, c, rfl⟩ := hlen
  have hlt := hs.lt
  have h := hs.keep (below_alloc w (.cells #[.int .i64 4, .int .i64 d.n, .slice A 0 c, .string d.name] 95))
  have c1 := cells_of h.heap 1
  have hd := heap_alloc_new w (.cells #[.int .i64 4, .int .i64 d.n, .slice A 0 c, .string d.name] 95)
  have d3 : World.cell? (w.alloc (.cells #[.int .i64 4, .int .i64 d.n, .slice A 0 c, .string d.name] 95)) ⟨w.heap.size, 3, none⟩ = some (.string d.name) := cells_of hd 3
  simp at c1
  obtain ⟨w5, hr5, hs5, h5⟩ := (h.drew.pull 2 _ rfl).mapOf_del (P := Try.prog) (ty := 0) Try.underlying98 d.name
  have H5 := Lib.hid h5
  simp only [nameKT] at hr5
  have HR5 := Lib.hid hr5
  rw [hp0]
  clear hp0 hp h hd h5 hs hr5
  go_enter Try.func90, Try.ntmps90
  go_wp2_with fail
  generalize w.alloc (.cells #[.int .i64 4, .int .i64 d.n, .slice A 0 c, .string d.name] 95) = w0 at *
  go_still_tail 6, (by kernel_rfl)
  change wpList _ _ _ _ _ w0.drew
  have hr5 := HR5.out
  go_wp2_with fail
  go_ret
  refine ⟨rfl, ?_⟩
  have h7 : St W I w5 (HP.pt b (.cells #[vb, .map (some m)] 100) :: bytesHP vb t.b :: HP.mapOf nameKT attrOwn m (del d.name t.attr) :: l) := H5.out.perm (by ((try simp only [List.eraseIdx_cons_succ, List.eraseIdx_cons_zero, List.cons_append, List.nil_append]); repeat (first | with_reducible exact List.Perm.refl _ | (apply perm_step; (· repeat (first | with_reducible exact find_here | with_reducible apply find_there))))))
  have e : setAttr t.attr d.name [] = del d.name t.attr := by simp [setAttr]
  rw [e]
  exact h7.thing_shut (t := { t with attr := del d.name t.attr })
theorem do_set_put {t : TS} (pv : Value) (d : Dd) (hk : d.kind = 4) (hp0 : d.p ≠ []) (hpl : d.p.length ≤ 4096) (h : St W I w (thingHP v t :: l)) (hp : BytesI I pv d.p) :
    Calls Try.prog 90 #[v, .agg #[.int .i64 d.kind, .int .i64 d.n, pv, .string d.name]] w fun e w' => ∃ I', I.sub I' ∧ e = .returned v ∧ St W I' w' (thingHP v { t with attr := setAttr t.attr d.name d.p } :: l) := by
  rw [hk]
  obtain ⟨b, m, vb, rfl, hs⟩ := h.thing_open
  clear h
  have hsv := bytes_src hs hp
  obtain ⟨q, hq⟩ : ∃ q, d.p.length = q + 1 := ⟨d.p.length - 1, by have : d.p.length ≠ 0 := fun e => hp0 (List.eq_nil_of_length_eq_zero e); omega⟩
  obtain ⟨A, c, hA⟩ : ∃ A c, pv = .slice A (q + 1) c := by
    obtain ⟨A, c, e, _⟩ := hp
    rw [hq] at e
    exact ⟨A, c, e⟩
  subst hA
  have hlt := hs.lt
  have h := hs.keep (below_alloc w (.cells #[.int .i64 4, .int .i64 d.n, .slice A (q + 1) c, .string d.name] 95))
  have hsv2 := hsv.below (below_alloc w (.cells #[.int .i64 4, .int .i64 d.n, .slice A (q + 1) c, .string d.name] 95))
  have c1 := cells_of h.heap 1
  have hd := heap_alloc_new w (.cells #[.int .i64 4, .int .i64 d.n, .slice A (q + 1) c, .string d.name] 95)
  have d2 : World.cell? (w.alloc (.cells #[.int .i64 4, .int .i64 d.n, .slice A (q + 1) c, .string d.name] 95)) ⟨w.heap.size, 2, none⟩ = some (.slice A (q + 1) c) := cells_of hd 2
  have d3 : World.cell? (w.alloc (.cells #[.int .i64 4, .int .i64 d.n, .slice A (q + 1) c, .string d.name] 95)) ⟨w.heap.size, 3, none⟩ = some (.string d.name) := cells_of hd 3
  have hsz : (w.alloc (.cells #[.int .i64 4, .int .i64 d.n, .slice A (q + 1) c, .string d.name] 95)).heap.size = w.heap.size + 1 := by simp
  simp at c1
  have H := Lib.hid h
  have HX := Lib.hid hsv2
  have HQ := Lib.hid hq
  have HP0 := Lib.hid hp0
  have HSZ := Lib.hid hsz
  clear hp0 hp h hd hs hsv hsv2 hq hsz
  go_enter Try.func90, Try.ntmps90
  go_wp2_with fail
  generalize w.alloc (.cells #[.int .i64 4, .int .i64 d.n, .slice A (q + 1) c, .string d.name] 95) = w0 at *
  refine wp_region_keep (fun w' => w'.cell? ⟨b, 1, none⟩ = some (.map (some m)) ∧ w'.cell? ⟨w.heap.size, 3, none⟩ = some (.string d.name) ∧ w'.cell? ⟨w.heap.size, 2, none⟩ = some (.slice A (q + 1) c)) [0, 1, 2, 3, 4, 5, 6, 7] [8] [9] (by kernel_rfl) (by kernel_rfl) (by (exact ⟨c1, d3, d2⟩)) ?_
  simp only [pickL, List.getElem?_cons_zero, List.getElem?_cons_succ]
  repeat (refine wpFirst_step _ (Or.inl ⟨by rfl, by (intro w hSw; (try dsimp only at hSw); go_simp; try with_reducible rfl)⟩) ?_; (try simp only [Act.put, List.setIfInBounds_toArray, List.set_cons_zero, List.set_cons_succ]))
  refine wpFirst_nil ?_
  unfold wpHold
  go_wp2_with fail
  have hpl6 : d.p.length ≤ 1000000 := by omega
  refine (cloneB_spec _ _ _ _ (HX.out.below (Below.refl _ _).drew) hpl6).mono ?_
  rintro e w4 ⟨v4, rfl, ho4, hb4⟩
  obtain ⟨A4, k4, rfl⟩ := is_slice ho4
  obtain ⟨I2, hI2, hB2, h5⟩ := own_at_call H.out.drew hb4 ho4
  obtain ⟨w5, hrun5, hsz5, h6⟩ := put_attr hB2 (h5.pull 2 _ rfl) Try.underlying98 d.name
  have e1 := (hb4.cell (p := ⟨b, 1, none⟩) (by have := HSZ.out; simp; omega)).trans c1
  have e2 := (hb4.cell (p := ⟨w.heap.size, 2, none⟩) (by have := HSZ.out; simp; omega)).trans d2
  have e3 := (hb4.cell (p := ⟨w.heap.size, 3, none⟩) (by have := HSZ.out; simp; omega)).trans d3
  have H6 := Lib.hid h6
  have HI := Lib.hid hI2
  have HR5 := Lib.hid hrun5
  clear h5 h6 hb4 ho4 hB2 c1 d2 d3 hI2 HX hrun5
  go_wp2_with fail
  refine holdPost_normal ⟨e1, e3, e2⟩ ?_
  have hr5 := HR5.out
  unfold wpHold
  go_wp2_with fail
  refine NoPanic.normal ?_
  go_wp2_with fail
  go_ret
  have h7 : St W I2 w5 (HP.pt b (.cells #[vb, .map (some m)] 100) :: bytesHP vb t.b :: HP.mapOf nameKT attrOwn m (put d.name d.p t.attr) :: l) := H6.out.perm (by ((try simp only [List.eraseIdx_cons_succ, List.eraseIdx_cons_zero, List.cons_append, List.nil_append]); repeat (first | with_reducible exact List.Perm.refl _ | (apply perm_step; (· repeat (first | with_reducible exact find_here | with_reducible apply find_there))))))
  have e : setAttr t.attr d.name d.p = put d.name d.p t.attr := by simp [setAttr, HP0.out]
  rw [e]
  exact ⟨I2, HI.out, rfl, h7.thing_shut (t := { t with attr := put d.name d.p t.attr })⟩
def Dd.fits (d : Dd) : Prop := d.good ∧ 0 ≤ d.kind ∧ d.kind ≤ 4
def smallO : Option TS → Prop
  | none => True
  | some t => t.small
/-- An object behind a deed. -/
theorem do_spec {o : Option TS} (pv : Value) (d : Dd) (hd : d.fits) (ht : smallO o) (h : St W I w (optHP v o :: l)) (hp : BytesI I pv d.p) :
    Calls Try.prog 90 #[v, .agg #[.int .i64 d.kind, .int .i64 d.n, pv, .string d.name]] w fun e w' => ∃ I' v', I.sub I' ∧ e = .returned v' ∧ St W I' w' (optHP v' (stepD o d) :: l) := by
  obtain ⟨hg, h0, h4⟩ := hd
  by_cases k0 : d.kind = 0
  · refine (do_made v pv d k0 h.drop).mono ?_
    rintro e w' ⟨v', rfl, h1⟩
    exact ⟨I, v', Hp.sub.refl _, rfl, by simpa [stepD, k0, optHP] using h1⟩
  by_cases k3 : d.kind = 3
  · refine (do_gone v pv d k3 w).mono ?_
    rintro e w' ⟨rfl, hb⟩
    refine ⟨I, _, Hp.sub.refl _, rfl, ?_⟩
    rw [show stepD o d = none by simp [stepD, k3]]
    exact St.pure_shut (by rfl) (h.drop.keep hb)
  cases o with
  | none =>
    obtain ⟨rfl, h1⟩ := h.pure_open
    refine (do_nil pv d (by simpa using k0) (by simpa using k3) w).mono ?_
    rintro e w' ⟨rfl, hb⟩
    refine ⟨I, _, Hp.sub.refl _, rfl, ?_⟩
    rw [show stepD none d = none by simp [stepD, k0, k3]]
    exact St.pure_shut (by rfl) (h1.keep hb)
  | some t =>
    by_cases k1 : d.kind = 1
    · refine (do_wrote pv d hg ht k1 h hp).mono ?_
      rintro e w' ⟨rfl, h1⟩
      exact ⟨I, _, Hp.sub.refl _, rfl, by simpa [stepD, k1, optHP] using h1⟩
    by_cases k2 : d.kind = 2
    · refine (do_cut pv d hg ht k2 h).mono ?_
      rintro e w' ⟨rfl, h1⟩
      exact ⟨I, _, Hp.sub.refl _, rfl, by simpa [stepD, k2, optHP] using h1⟩
    have k4 : d.kind = 4 := by omega
    by_cases hp0 : d.p = []
    · refine (do_set_del pv d k4 hp0 h hp).mono ?_
      rintro e w' ⟨rfl, h1⟩
      exact ⟨I, _, Hp.sub.refl _, rfl, by simpa [stepD, k4, optHP] using h1⟩
    · refine (do_set_put pv d k4 hp0 (hg.2.2.2 k4) h hp).mono ?_
      rintro e w' ⟨I', hI, rfl, h1⟩
      exact ⟨I', _, hI, rfl, by simpa [stepD, k4, optHP] using h1⟩
end
end Go.Proofs.Ytnokhjhhadnckaa
