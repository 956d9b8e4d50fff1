/- hectographref17: Write, Clear, Cut, Lay, Back, Tidy. -/
import Derived.Test.YtbepmbcbcklmlaaGreatRef17
set_option linter.unusedSimpArgs false
set_option linter.unusedVariables false
set_option linter.unusedSectionVars false
namespace Go.Proofs.YtbepmbcbcklmlaaGreat
open Go.RowKit
/-- A method turned the object in block g into that. -/
def Turned (W : World) (I : Hp) (g : Nat) (l : List HP) (n : Nat) (R : RO) (e : Ending) (w' : World) : Prop :=
  ∃ (I' : Hp) (o' : O17), I.sub I' ∧ e = .returned (.tuple #[]) ∧ o'.ok I' ∧ o'.r = R ∧ o'.cs.length ≤ n + 1 ∧ St W I' w' (HP.pt g (.cells o'.vals.toArray 47) :: l)
theorem lay_pad (d p : List Int) (off N : Nat) (hp : p ≠ []) (hN : N = max d.length (off + p.length)) : (padB d 0 N).take off ++ p ++ (padB d 0 N).drop (off + p.length) = layB d off p := by
  have hl : 0 < p.length := List.length_pos_iff.2 hp
  have e : padB d 0 N = d ++ List.replicate (off + p.length - d.length) 0 := by
    unfold padB
    rw [List.drop_zero, List.take_of_length_le (by omega)]
    congr 2
    omega
  unfold layB
  rw [if_neg hp, e]
  congr 1
  rw [List.drop_append]
  by_cases h : off + p.length ≤ d.length
  · rw [show off + p.length - d.length = 0 by omega]
    simp
  · rw [List.drop_of_length_le (l := List.replicate _ _) (by rw [List.length_replicate]; omega), List.append_nil]
theorem lay_length (d p : List Int) (off N : Nat) (hp : p ≠ []) (hN : N = max d.length (off + p.length)) : (layB d off p).length = N := by
  have hl : 0 < p.length := List.length_pos_iff.2 hp
  unfold layB
  rw [if_neg hp, List.length_append, List.length_append, List.length_take, List.length_append, List.length_replicate, List.length_drop]
  omega
section
variable {W w : World} {I : Hp} {l : List HP}
set_option maxRecDepth 4000
set_option maxHeartbeats 8000000
theorem lay_copy {gb N off c : Nat} {a : Addr} {B p : List Int} (h : St W I w (HP.pt gb (.cells (B.map byteV).toArray 5) :: l)) (hB : B.length = N) (hoN : off + p.length ≤ N) (hs : ∀ j v, (p.map byteV)[j]? = some v → w.cell? (a.add j) = some v) (ty : TypeId) :
    ∃ w' v', (Builtin.copy_ #[28, 28] ty #[.slice (some ⟨gb, off, none⟩) (N - off) (N - off), .slice (some a) p.length c]).run Tryz.prog w = .ok v' w' ∧
      St W I w' (HP.pt gb (.cells ((B.take off ++ p ++ B.drop (off + p.length)).map byteV).toArray 5) :: l) := by
  obtain ⟨w', hr, hsz, h2⟩ := h.copy_run (P := Tryz.prog) (o := off) (dLen := N - off) (dCap := N - off) (sLen := p.length) (sCap := c) (a := a) (dT := 28) (sT := 28) (ty := ty) (cs := p.map byteV) Tryz.underlying28 (by kernel_rfl) rfl
    (by rw [List.length_map, Nat.mul_one]; exact (Nat.min_eq_left (by omega)).symm) hs (by simp; omega) (bytes_one _)
  refine ⟨w', _, hr, ?_⟩
  have e : ((B.map byteV).toArray.toList.take off ++ p.map byteV ++ (B.map byteV).toArray.toList.drop (off + (p.map byteV).length)) = (B.take off ++ p ++ B.drop (off + p.length)).map byteV := by
    rw [List.map_append, List.map_append, List.map_take, List.map_drop, List.length_map]
  rw [e] at h2
  exact h2
theorem write17_spec {g : Nat} (o : O17) (newest : Int) (off : Nat) (pv : Value) (p : List Int) (h : St W I w (HP.pt g (.cells o.vals.toArray 47) :: l)) (hok : o.ok I) (hp : BytesI I pv p) (ho : off + p.length ≤ 64) (hdl : (o.h.o.getD []).length ≤ 64) (hl : o.cs.length ≤ 100000) :
    Calls Tryz.prog 27 #[.pointer (some ⟨g, 0, none⟩), .int .i64 newest, .int .i64 off, pv] w (Turned W I g l o.cs.length (rwrite o.r newest off p)) := by
  obtain ⟨⟨hb0, hv⟩, cs, cv⟩ := o
  have HOK := Lib.hid hok
  obtain ⟨hh, hcp⟩ := hok
  have HH := Lib.hid hh
  simp only at hl hcp hdl
  obtain ⟨Ah, ch, e, _⟩ := hh
  simp only at e
  subst e
  obtain ⟨⟨Ac, cc, e, _⟩, hcs⟩ := hcp
  subst e
  have HC := Lib.hid (fun (I2 : Hp) (w2 : World) (l2 : List HP) (b : B17) (hs : I.sub I2) (h2 : St W I2 w2 (HP.pt g (.cells (O17.vals ⟨⟨hb0, .slice Ah (hb0.getD []).length ch⟩, cs, .slice Ac cs.length cc⟩).toArray 47) :: l2)) (hb : b.ok I2) => change_spec _ b newest h2 (HOK.out.mono hs) hb hl)
  have h0 := h
  simp only [O17.vals] at h
  have H := Lib.hid h
  obtain ⟨y0, y1, y2⟩ := h.cells3
  have ltg := h.lt
  have hdl2 : ((hb0.getD []).length : Int) ≤ 64 := by omega
  clear h h0 hcs
  have HP' := Lib.hid hp
  obtain ⟨Ap, cp, rfl, _⟩ := hp
  have hpl2 : (p.length : Int) ≤ 64 := by omega
  by_cases hp0 : p.length = 0
  · obtain rfl : p = [] := List.eq_nil_of_length_eq_zero hp0
    clear hp0
    go_enter Tryz.func27, Tryz.ntmps27
    go_wp2_with fail
    first | refine bodyPost_ret (results_none rfl _ _ _) rfl ?_ | refine ⟨rfl, _, results_none rfl _ _ _, ?_⟩ | fail
    refine ⟨I, ⟨⟨hb0, .slice Ah (hb0.getD []).length ch⟩, cs, .slice Ac cs.length cc⟩, Hp.sub.refl _, rfl, HOK.out, ?_, by simp, H.out⟩
    unfold rwrite
    rw [if_pos rfl]
  · have d0 : decide ((p.length : Int) = 0) = false := by rw [decide_eq_false_iff_not]; omega
    obtain ⟨j, hj⟩ : ∃ j, off + p.length = j := ⟨_, rfl⟩
    obtain ⟨N, hN⟩ : ∃ N, max (hb0.getD []).length j = N := ⟨_, rfl⟩
    have hmax : max ((hb0.getD []).length : Int) ((off : Int) + (p.length : Int)) = (N : Int) := by omega
    have hrd := read17_spec hb0 (.slice Ah (hb0.getD []).length ch) 0 N H.out HH.out (by omega) (by omega) (by omega)
    change Calls _ _ #[_, .int .i64 0, _] _ _ at hrd
    have HRD := Lib.hid hrd
    have HLAY := Lib.hid (lay_pad (hb0.getD []) p off N (fun q => hp0 (by rw [q]; rfl)) (by omega))
    have HLEN := Lib.hid (lay_length (hb0.getD []) p off N (fun q => hp0 (by rw [q]; rfl)) (by omega))
    have hoN : off ≤ N := by omega
    have hN64 : N ≤ 64 := by omega
    have hpN : off + p.length ≤ N := by omega
    have HPN := Lib.hid (show p ≠ [] from fun q => hp0 (by rw [q]; rfl))
    have hpne : ¬ p = [] := HPN.out
    clear hrd hN hj
    go_enter Tryz.func27, Tryz.ntmps27
    go_wp2_with fail
    refine HRD.out.mono ?_
    rintro e w3 ⟨gb, rfl, h3⟩
    obtain ⟨A', c', e, hsrc, _⟩ := bytes_src h3 HP'.out
    simp only [Value.slice.injEq, true_and] at e
    obtain ⟨rfl, rfl⟩ := e
    obtain ⟨ad, hAd, hcell⟩ := hsrc.cells (List.length_pos_iff.2 hpne)
    subst hAd
    obtain ⟨w4, v4, hr4, h4⟩ := lay_copy (off := off) (c := cp) (a := ad) (p := p) h3 (padB_len _ _ _) hpN hcell 3
    rw [HLAY.out] at h4
    obtain ⟨I5, hs5, hb5, h5⟩ := pad_bytes HLEN.out (by omega) h4
    have HB5 := Lib.hid hb5
    have H5 := Lib.hid h5
    have HS5 := Lib.hid hs5
    clear h3 h4 h5 hs5 hb5 hcell hsrc HRD
    have hc := HC.out _ _ _ ⟨some (layB (hb0.getD []) off p), .slice (some ⟨gb, 0, none⟩) N N⟩ HS5.out H5.out HB5.out
    simp only [B17.val] at hc
    have HCC := Lib.hid hc
    clear hc
    go_wp2_with fail
    refine HCC.out.mono ?_
    rintro e w9 ⟨I9, o9, hs9, rfl, hok9, hr9, hl9, h9⟩
    have H9 := Lib.hid h9
    have HR9 := Lib.hid hr9
    have HOK9 := Lib.hid hok9
    have HS9 := Lib.hid hs9
    clear h9 hr9 hok9 hs9
    go_wp2_with fail
    first | refine bodyPost_ret (results_none rfl _ _ _) rfl ?_ | refine ⟨rfl, _, results_none rfl _ _ _, ?_⟩ | fail
    refine ⟨I9, o9, HS5.out.trans HS9.out, rfl, HOK9.out, ?_, hl9, H9.out⟩
    rw [HR9.out]
    unfold rwrite
    rw [if_neg HPN.out]
    rfl
theorem lay17_spec {g : Nat} (o : O17) (newest : Int) (pv : Value) (p : List Int) (h : St W I w (HP.pt g (.cells o.vals.toArray 47) :: l)) (hok : o.ok I) (hp : BytesI I pv p) (ho : p.length ≤ 64) (hdl : (o.h.o.getD []).length ≤ 64) (hl : o.cs.length ≤ 100000) :
    Calls Tryz.prog 30 #[.pointer (some ⟨g, 0, none⟩), .int .i64 newest, pv] w (Turned W I g l o.cs.length (rlay o.r newest p)) := by
  obtain ⟨⟨hb0, hv⟩, cs, cv⟩ := o
  have HOK := Lib.hid hok
  obtain ⟨hh, hcp⟩ := hok
  have HH := Lib.hid hh
  simp only at hl hcp hdl
  obtain ⟨Ah, ch, e, _⟩ := hh
  simp only at e
  subst e
  obtain ⟨⟨Ac, cc, e, _⟩, hcs⟩ := hcp
  subst e
  have HC := Lib.hid (fun (I2 : Hp) (w2 : World) (l2 : List HP) (b : B17) (hs : I.sub I2) (h2 : St W I2 w2 (HP.pt g (.cells (O17.vals ⟨⟨hb0, .slice Ah (hb0.getD []).length ch⟩, cs, .slice Ac cs.length cc⟩).toArray 47) :: l2)) (hb : b.ok I2) => change_spec _ b newest h2 (HOK.out.mono hs) hb hl)
  have h0 := h
  simp only [O17.vals] at h
  have H := Lib.hid h
  obtain ⟨y0, y1, y2⟩ := h.cells3
  have ltg := h.lt
  have hdl2 : ((hb0.getD []).length : Int) ≤ 64 := by omega
  clear h h0 hcs
  have HP' := Lib.hid hp
  obtain ⟨Ap, cp, rfl, _⟩ := hp
  have hpl2 : (p.length : Int) ≤ 64 := by omega
  clear y0 y1 y2
  by_cases hp0 : p = []
  · subst hp0
    go_enter Tryz.func30, Tryz.ntmps30
    have hc := HC.out _ _ _ ⟨none, .slice none 0 0⟩ (Hp.sub.refl _) H.out (bytes_nil _)
    simp only [B17.val] at hc
    have HCC := Lib.hid hc
    clear hc
    go_wp2_with fail
    refine HCC.out.mono ?_
    rintro e w9 ⟨I9, o9, hs9, rfl, hok9, hr9, hl9, h9⟩
    have H9 := Lib.hid h9
    have HR9 := Lib.hid hr9
    have HOK9 := Lib.hid hok9
    have HS9 := Lib.hid hs9
    clear h9 hr9 hok9 hs9
    go_wp2_with fail
    first | refine bodyPost_ret (results_none rfl _ _ _) rfl ?_ | refine ⟨rfl, _, results_none rfl _ _ _, ?_⟩ | fail
    refine ⟨I9, o9, HS9.out, rfl, HOK9.out, ?_, hl9, H9.out⟩
    rw [HR9.out]
    rfl
  · have HPN := Lib.hid hp0
    have hp1 : ¬ p.length = 0 := fun q => hp0 (List.eq_nil_of_length_eq_zero q)
    have d0 : decide ((p.length : Int) = 0) = false := by rw [decide_eq_false_iff_not]; omega
    have h1 := St.empty_row H.out 5 1
    obtain ⟨v2, w2, hr2, h2⟩ := St.bytes_append 28 h1 (bytes_src h1 HP'.out) (by omega)
    obtain ⟨A2, c2, rfl⟩ := is_slice h2.row_owns
    rw [Nat.zero_add, List.nil_append] at h2
    rw [Nat.zero_add] at hr2
    have HR2 := Lib.hid hr2
    have H2 := Lib.hid h2
    clear h1 h2 hr2
    obtain ⟨I3, hs3, e3, h3⟩ := H2.out.freeze_row
    have HS3 := Lib.hid hs3
    have H3 := Lib.hid h3
    have E3 := Lib.hid e3
    clear hs3 e3 h3
    go_enter Tryz.func30, Tryz.ntmps30
    have hc := HC.out _ _ _ ⟨some p, .slice A2 p.length c2⟩ HS3.out H3.out E3.out
    simp only [B17.val] at hc
    have HCC := Lib.hid hc
    clear hc
    go_wp2_with (at_builtin; refine Lib.wpList_append_run _ rfl (.tmp 15) (.tmp 16) 28 28 rfl _ _ rfl rfl _ _ HR2.out ?_)
    refine HCC.out.mono ?_
    rintro e w9 ⟨I9, o9, hs9, rfl, hok9, hr9, hl9, h9⟩
    have H9 := Lib.hid h9
    have HR9 := Lib.hid hr9
    have HOK9 := Lib.hid hok9
    have HS9 := Lib.hid hs9
    clear h9 hr9 hok9 hs9
    go_wp2_with fail
    first | refine bodyPost_ret (results_none rfl _ _ _) rfl ?_ | refine ⟨rfl, _, results_none rfl _ _ _, ?_⟩ | fail
    refine ⟨I9, o9, HS3.out.trans HS9.out, rfl, HOK9.out, ?_, hl9, H9.out⟩
    rw [HR9.out]
    unfold rlay
    rw [if_neg HPN.out]
theorem cut17_spec {g : Nat} (o : O17) (newest : Int) (sz : Nat) (h : St W I w (HP.pt g (.cells o.vals.toArray 47) :: l)) (hok : o.ok I) (ho : sz ≤ 64) (hdl : (o.h.o.getD []).length ≤ 64) (hl : o.cs.length ≤ 100000) :
    Calls Tryz.prog 29 #[.pointer (some ⟨g, 0, none⟩), .int .i64 newest, .int .i64 sz] w (Turned W I g l o.cs.length (rcut o.r newest sz)) := by
  obtain ⟨⟨hb0, hv⟩, cs, cv⟩ := o
  have HOK := Lib.hid hok
  obtain ⟨hh, hcp⟩ := hok
  have HH := Lib.hid hh
  simp only at hl hcp hdl
  obtain ⟨Ah, ch, e, _⟩ := hh
  simp only at e
  subst e
  obtain ⟨⟨Ac, cc, e, _⟩, hcs⟩ := hcp
  subst e
  have HC := Lib.hid (fun (I2 : Hp) (w2 : World) (l2 : List HP) (b : B17) (hs : I.sub I2) (h2 : St W I2 w2 (HP.pt g (.cells (O17.vals ⟨⟨hb0, .slice Ah (hb0.getD []).length ch⟩, cs, .slice Ac cs.length cc⟩).toArray 47) :: l2)) (hb : b.ok I2) => change_spec _ b newest h2 (HOK.out.mono hs) hb hl)
  have h0 := h
  simp only [O17.vals] at h
  have H := Lib.hid h
  obtain ⟨y0, y1, y2⟩ := h.cells3
  have ltg := h.lt
  have hdl2 : ((hb0.getD []).length : Int) ≤ 64 := by omega
  clear h h0 hcs
  have hsz2 : (sz : Int) ≤ 64 := by omega
  cases hb0 with
  | none =>
    go_enter Tryz.func29, Tryz.ntmps29
    go_wp2_with fail
    first | refine bodyPost_ret (results_none rfl _ _ _) rfl ?_ | refine ⟨rfl, _, results_none rfl _ _ _, ?_⟩ | fail
    exact ⟨I, ⟨⟨none, .slice Ah 0 ch⟩, cs, .slice Ac cs.length cc⟩, Hp.sub.refl _, rfl, HOK.out, rfl, by simp, H.out⟩
  | some d =>
    simp only [Option.getD_some] at hdl2 hdl y1
    simp only [Option.isSome_some] at y0
    by_cases hs0 : sz = 0
    · subst hs0
      go_enter Tryz.func29, Tryz.ntmps29
      have hc := HC.out _ _ _ ⟨none, .slice none 0 0⟩ (Hp.sub.refl _) H.out (bytes_nil _)
      simp only [B17.val] at hc
      have HCC := Lib.hid hc
      clear hc
      go_wp2_with fail
      refine HCC.out.mono ?_
      rintro e w9 ⟨I9, o9, hs9, rfl, hok9, hr9, hl9, h9⟩
      have H9 := Lib.hid h9
      have HR9 := Lib.hid hr9
      have HOK9 := Lib.hid hok9
      have HS9 := Lib.hid hs9
      clear h9 hr9 hok9 hs9
      go_wp2_with fail
      first | refine bodyPost_ret (results_none rfl _ _ _) rfl ?_ | refine ⟨rfl, _, results_none rfl _ _ _, ?_⟩ | fail
      refine ⟨I9, o9, HS9.out, rfl, HOK9.out, ?_, hl9, H9.out⟩
      rw [HR9.out]
      rfl
    · have d0 : decide (0 < (sz : Int)) = true := by rw [decide_eq_true_eq]; omega
      have d2 : decide ((sz : Int) = 0) = false := by rw [decide_eq_false_iff_not]; omega
      have d3 : ¬ (sz : Int) = 0 := by omega
      by_cases hle : d.length ≤ sz
      · have d1 : decide ((d.length : Int) ≤ (sz : Int)) = true := by rw [decide_eq_true_eq]; omega
        go_enter Tryz.func29, Tryz.ntmps29
        go_wp2_with fail
        first | refine bodyPost_ret (results_none rfl _ _ _) rfl ?_ | refine ⟨rfl, _, results_none rfl _ _ _, ?_⟩ | fail
        refine ⟨I, ⟨⟨some d, .slice Ah d.length ch⟩, cs, .slice Ac cs.length cc⟩, Hp.sub.refl _, rfl, HOK.out, ?_, by simp, H.out⟩
        show (⟨some d, cs.map C17.r⟩ : RO) = if _ then _ else _
        rw [if_pos ⟨by omega, by omega⟩]
        rfl
      · have d1 : decide ((d.length : Int) ≤ (sz : Int)) = false := by rw [decide_eq_false_iff_not]; omega
        have hbd : BytesI I (.slice Ah d.length ch) d := HH.out
        obtain ⟨x, hx⟩ : ∃ x, d[0]? = some x := ⟨_, List.getElem?_eq_getElem (by omega)⟩
        obtain ⟨bb, ob, e1, _⟩ := bytesI_cell H.out hbd hx
        simp only [Value.slice.injEq, and_true] at e1
        subst e1
        have hbt := bytes_take hbd (show sz ≤ d.length by omega)
        obtain ⟨A', c', e2, _, hch, _⟩ := hbd
        simp only [Value.slice.injEq, true_and] at e2
        obtain ⟨rfl, rfl⟩ := e2
        have htl : (d.take sz).length = sz := by rw [List.length_take]; omega
        clear hx
        have HSZ := Lib.hid (show ¬ (0 < (sz : Int) ∧ (d.length : Int) ≤ sz) ∧ ¬ (sz : Int) = 0 by omega)
        have h1 := St.empty_row H.out 5 1
        obtain ⟨v2, w2, hr2, h2⟩ := St.bytes_append 28 h1 (bytes_src h1 hbt) (by omega)
        obtain ⟨A2, c2, rfl⟩ := is_slice h2.row_owns
        rw [Nat.zero_add, List.nil_append] at h2
        rw [Nat.zero_add] at hr2
        rw [htl] at h2 hr2
        have HTL := Lib.hid htl
        have HR2 := Lib.hid hr2
        have H2 := Lib.hid h2
        clear h1 h2 hr2
        obtain ⟨I3, hs3, e3, h3⟩ := H2.out.freeze_row
        have HS3 := Lib.hid hs3
        have H3 := Lib.hid h3
        have E3 := Lib.hid e3
        clear hs3 e3 h3
        have hszc : sz ≤ ch := by omega
        have hszi : (sz : Int) ≤ (ch : Int) := by omega
        clear htl hbt
        go_enter Tryz.func29, Tryz.ntmps29
        have hc := HC.out _ _ _ ⟨some (d.take sz), .slice A2 sz c2⟩ HS3.out H3.out (by show RowI _ _ _ (d.take sz).length _; rw [HTL.out]; exact E3.out)
        simp only [B17.val] at hc
        have HCC := Lib.hid hc
        clear hc
        go_wp2_with (at_builtin; refine Lib.wpList_append_run _ rfl (.tmp 34) (.tmp 41) 28 28 rfl _ _ rfl rfl _ _ HR2.out ?_)
        refine HCC.out.mono ?_
        rintro e w9 ⟨I9, o9, hs9, rfl, hok9, hr9, hl9, h9⟩
        have H9 := Lib.hid h9
        have HR9 := Lib.hid hr9
        have HOK9 := Lib.hid hok9
        have HS9 := Lib.hid hs9
        clear h9 hr9 hok9 hs9
        go_wp2_with fail
        first | refine bodyPost_ret (results_none rfl _ _ _) rfl ?_ | refine ⟨rfl, _, results_none rfl _ _ _, ?_⟩ | fail
        refine ⟨I9, o9, HS3.out.trans HS9.out, rfl, HOK9.out, ?_, hl9, H9.out⟩
        rw [HR9.out]
        show rchange _ _ _ = if _ then _ else _
        rw [if_neg HSZ.out.1, if_neg HSZ.out.2]
        rfl
theorem back17_spec {g : Nat} (o : O17) (newest : Int) (snap : Int) (h : St W I w (HP.pt g (.cells o.vals.toArray 47) :: l)) (hok : o.ok I) (hdl : (o.h.o.getD []).length ≤ 64) (hl : o.cs.length ≤ 100000) :
    Calls Tryz.prog 31 #[.pointer (some ⟨g, 0, none⟩), .int .i64 newest, .int .i64 snap] w (Turned W I g l o.cs.length (rback o.r newest snap)) := by
  obtain ⟨⟨hb0, hv⟩, cs, cv⟩ := o
  have HOK := Lib.hid hok
  obtain ⟨hh, hcp⟩ := hok
  have HH := Lib.hid hh
  simp only at hl hcp hdl
  obtain ⟨Ah, ch, e, _⟩ := hh
  simp only at e
  subst e
  obtain ⟨⟨Ac, cc, e, _⟩, hcs⟩ := hcp
  subst e
  have HC := Lib.hid (fun (I2 : Hp) (w2 : World) (l2 : List HP) (b : B17) (hs : I.sub I2) (h2 : St W I2 w2 (HP.pt g (.cells (O17.vals ⟨⟨hb0, .slice Ah (hb0.getD []).length ch⟩, cs, .slice Ac cs.length cc⟩).toArray 47) :: l2)) (hb : b.ok I2) => change_spec _ b newest h2 (HOK.out.mono hs) hb hl)
  have h0 := h
  simp only [O17.vals] at h
  have H := Lib.hid h
  obtain ⟨y0, y1, y2⟩ := h.cells3
  have ltg := h.lt
  have hdl2 : ((hb0.getD []).length : Int) ≤ 64 := by omega
  clear h h0 hcs
  have hat := at17_spec (g := g) (off := 0) ⟨⟨hb0, .slice Ah (hb0.getD []).length ch⟩, cs, .slice Ac cs.length cc⟩ snap H.out HOK.out y0 y1 y2 ltg (by simp only; omega)
  have HAT := Lib.hid hat
  clear hat y0 y1 y2
  go_enter Tryz.func31, Tryz.ntmps31
  go_wp2_with fail
  refine HAT.out.mono ?_
  rintro e w3 ⟨b, rfl, hbok, hbr, hb3⟩
  have H3 := Lib.hid (H.out.keep hb3)
  have HBOK := Lib.hid hbok
  have HBR := Lib.hid hbr
  clear hbok hbr hb3
  have hc := HC.out _ _ _ b (Hp.sub.refl _) H3.out HBOK.out
  simp only [B17.val] at hc
  have HCC := Lib.hid hc
  clear hc
  go_wp2_with fail
  refine HCC.out.mono ?_
  rintro e w9 ⟨I9, o9, hs9, rfl, hok9, hr9, hl9, h9⟩
  have H9 := Lib.hid h9
  have HR9 := Lib.hid hr9
  have HOK9 := Lib.hid hok9
  have HS9 := Lib.hid hs9
  clear h9 hr9 hok9 hs9
  go_wp2_with fail
  first | refine bodyPost_ret (results_none rfl _ _ _) rfl ?_ | refine ⟨rfl, _, results_none rfl _ _ _, ?_⟩ | fail
  refine ⟨I9, o9, HS9.out, rfl, HOK9.out, ?_, hl9, H9.out⟩
  rw [HR9.out]
  rw [HBR.out]
  rfl
theorem bytes_row_set {A : Option Addr} {n c i : Nat} {B : List Int} (h : St W I w (HP.row 5 1 (.slice A n c) n (B.map byteV) :: l)) (hi : i < n) (x : Int) :
    ∃ g, A = some ⟨g, 0, none⟩ ∧ St W I (w.setCell ⟨g, i, none⟩ (.int .u8 x)) (HP.row 5 1 (.slice A n c) n ((B.set i x).map byteV) :: l) ∧ (∀ j, w.frozen? ⟨g, j, none⟩ = false) ∧ g < w.heap.size ∧ ∃ y, w.cell? ⟨g, i, none⟩ = some y := by
  obtain ⟨hl, p⟩ := h.row_open
  rw [List.length_map, Nat.mul_one] at hl
  rcases p with ⟨_, e2, _⟩ | ⟨g, cap, cur, e1, p3, p4, p5, p6, s⟩
  · omega
  · simp only [Value.slice.injEq, true_and] at e1
    obtain ⟨rfl, rfl⟩ := e1
    rw [Nat.mul_one] at p5 p6
    refine ⟨g, rfl, ?_, frozen_of_row s.heap, s.lt, ?_⟩
    · refine (s.setCell i (.int .u8 x)).row_shut (by rw [List.length_map, List.length_set, hl, Nat.mul_one]) p3 p4 (by simpa using p5) ?_
      rw [List.map_set, ← p6, Nat.mul_one, Array.toList_setIfInBounds, List.take_set]
      rfl
    · rw [cells_of s.heap]
      exact ⟨_, Array.getElem?_eq_getElem (by omega)⟩
theorem clear_get (d : List Int) (off n k : Nat) : (clearB d off n)[k]? = if off ≤ k ∧ k < off + n ∧ k < d.length then some 0 else d[k]? := by
  unfold clearB
  by_cases hm : min (n : Int) ((d.length : Int) - off) < 1
  · rw [if_pos hm, if_neg (by omega)]
  · rw [if_neg hm]
    obtain ⟨m, hm2⟩ : ∃ m : Nat, (min (n : Int) ((d.length : Int) - off)).toNat = m := ⟨_, rfl⟩
    rw [hm2]
    unfold layB
    rw [if_neg (by intro e; have := congrArg List.length e; rw [List.length_replicate, List.length_nil] at this; omega), List.length_replicate, Int.toNat_natCast, show off + m - d.length = 0 by omega, List.replicate_zero, List.append_nil]
    have h1 : (d.take off).length = off := by rw [List.length_take]; omega
    by_cases k1 : k < off
    · rw [List.append_assoc, List.getElem?_append_left (by omega), List.getElem?_take, if_pos k1, if_neg (by omega)]
    · by_cases k2 : k < off + m
      · rw [List.append_assoc, List.getElem?_append_right (by omega), h1, List.getElem?_append_left (by rw [List.length_replicate]; omega), List.getElem?_replicate, if_pos (by omega), if_pos (by omega)]
      · rw [List.getElem?_append_right (by rw [List.length_append, h1, List.length_replicate]; omega), List.length_append, h1, List.length_replicate, List.getElem?_drop, show off + m + (k - (off + m)) = k by omega]
        by_cases k3 : k < d.length
        · rw [if_neg (by omega)]
        · rw [if_neg (by omega)]
def ClearTo (d : List Int) (off i : Nat) (B : List Int) : Prop := B.length = d.length ∧ ∀ k, B[k]? = if off ≤ k ∧ k < i ∧ k < d.length then some 0 else d[k]?
theorem ClearTo.next {d B : List Int} {off i : Nat} (h : ClearTo d off i B) (ho : off ≤ i) (hi : i < d.length) : ClearTo d off (i + 1) (B.set i 0) := by
  refine ⟨by rw [List.length_set]; exact h.1, fun k => ?_⟩
  rw [List.getElem?_set]
  by_cases e : i = k
  · subst e
    rw [if_pos rfl, if_pos (by rw [h.1]; exact hi), if_pos (by omega)]
  · rw [if_neg e, h.2 k]
    by_cases c : off ≤ k ∧ k < i ∧ k < d.length
    · rw [if_pos c, if_pos (by omega)]
    · rw [if_neg c, if_neg (by omega)]
theorem ClearTo.done {d B : List Int} {off i n : Nat} (h : ClearTo d off i B) (hi : i ≤ off + n) (he : i = off + n ∨ d.length ≤ i) : B = clearB d off n := by
  apply List.ext_getElem?
  intro k
  rw [clear_get, h.2 k]
  by_cases c : off ≤ k ∧ k < i ∧ k < d.length
  · rw [if_pos c, if_pos (by omega)]
  · rw [if_neg c, if_neg (by omega)]
theorem clear17_spec {g : Nat} (o : O17) (newest : Int) (off n : Nat) (h : St W I w (HP.pt g (.cells o.vals.toArray 47) :: l)) (hok : o.ok I) (ho : off ≤ 64) (hn : n ≤ 64) (hdl : (o.h.o.getD []).length ≤ 64) (hl : o.cs.length ≤ 100000) :
    Calls Tryz.prog 28 #[.pointer (some ⟨g, 0, none⟩), .int .i64 newest, .int .i64 off, .int .i64 n] w (Turned W I g l o.cs.length (rclear o.r newest off n)) := by
  obtain ⟨⟨hb0, hv⟩, cs, cv⟩ := o
  have HOK := Lib.hid hok
  obtain ⟨hh, hcp⟩ := hok
  have HH := Lib.hid hh
  simp only at hl hcp hdl
  obtain ⟨Ah, ch, e, _⟩ := hh
  simp only at e
  subst e
  obtain ⟨⟨Ac, cc, e, _⟩, hcs⟩ := hcp
  subst e
  have HC := Lib.hid (fun (I2 : Hp) (w2 : World) (l2 : List HP) (b : B17) (hs : I.sub I2) (h2 : St W I2 w2 (HP.pt g (.cells (O17.vals ⟨⟨hb0, .slice Ah (hb0.getD []).length ch⟩, cs, .slice Ac cs.length cc⟩).toArray 47) :: l2)) (hb : b.ok I2) => change_spec _ b newest h2 (HOK.out.mono hs) hb hl)
  have h0 := h
  simp only [O17.vals] at h
  have H := Lib.hid h
  obtain ⟨y0, y1, y2⟩ := h.cells3
  have ltg := h.lt
  have hdl2 : ((hb0.getD []).length : Int) ≤ 64 := by omega
  clear h h0 hcs
  have ho2 : (off : Int) ≤ 64 := by omega
  have hn2 : (n : Int) ≤ 64 := by omega
  cases hb0 with
  | none =>
    go_enter Tryz.func28, Tryz.ntmps28
    go_wp2_with fail
    first | refine bodyPost_ret (results_none rfl _ _ _) rfl ?_ | refine ⟨rfl, _, results_none rfl _ _ _, ?_⟩ | fail
    exact ⟨I, ⟨⟨none, .slice Ah 0 ch⟩, cs, .slice Ac cs.length cc⟩, Hp.sub.refl _, rfl, HOK.out, rfl, by simp, H.out⟩
  | some d =>
    simp only [Option.getD_some] at hdl2 hdl y1
    simp only [Option.isSome_some] at y0
    have hbd : BytesI I (.slice Ah d.length ch) d := HH.out
    have h1 := St.empty_row H.out 5 1
    obtain ⟨v2, w2, hr2, h2⟩ := St.bytes_append 28 h1 (bytes_src h1 hbd) (by omega)
    obtain ⟨A2, c2, rfl⟩ := is_slice h2.row_owns
    rw [Nat.zero_add, List.nil_append] at h2
    rw [Nat.zero_add] at hr2
    have HR2 := Lib.hid hr2
    have H2 := Lib.hid h2
    clear h1 h2 hr2
    clear hbd
    go_enter Tryz.func28, Tryz.ntmps28
    go_wp2_with (at_builtin; refine Lib.wpList_append_run _ rfl (.tmp 16) (.tmp 21) 28 28 rfl _ _ rfl rfl _ _ HR2.out ?_)
    go_loopw [9] (fun a9 wr => ∃ (i : Nat) (B : List Int), a9 = .int .i64 i ∧ off ≤ i ∧ i ≤ off + n ∧ ClearTo d off i B ∧ St W I wr (HP.row 5 1 (.slice A2 d.length c2) d.length (B.map byteV) :: HP.pt g (.cells #[.bool (some d).isSome, .slice Ah ((some d).getD []).length ch, .slice Ac cs.length cc] 47) :: l)) (fun a9 _ => off + n - (intOf a9).toNat)
    case atStart => exact ⟨off, d, rfl, Nat.le_refl _, by omega, ⟨rfl, fun k => by rw [if_neg (by omega)]⟩, H2.out⟩
    case round =>
      obtain ⟨i, B, rfl, hio, hin, hct, hst⟩ := hrel
      have hii : (i : Int) ≤ 128 := by omega
      by_cases hlt : i < off + n
      · have d0 : decide ((i : Int) < (off : Int) + (n : Int)) = true := by rw [decide_eq_true_eq]; omega
        by_cases hil : i < d.length
        · have d1 : decide ((i : Int) < (d.length : Int)) = true := by rw [decide_eq_true_eq]; omega
          obtain ⟨gb, rfl, h3, fr, lt, y, hy⟩ := bytes_row_set hst hil 0
          have f := fr i
          have H3 := Lib.hid h3
          have HCT := Lib.hid (hct.next hio hil)
          clear hct hst h3 fr
          go_wp2_with fail
          go_roundw
          case rel => exact ⟨i + 1, B.set i 0, by go_num, by omega, by omega, HCT.out, H3.out⟩
          case measure => simp [intOf]; omega
        · have d1 : decide ((i : Int) < (d.length : Int)) = false := by rw [decide_eq_false_iff_not]; omega
          have hB := hct.done hin (.inr (by omega))
          have hBl := hct.1
          obtain ⟨I3, hs3, e3, h3⟩ := hst.freeze_row
          subst hB
          have HS3 := Lib.hid hs3
          have H3 := Lib.hid h3
          have E3 := Lib.hid (show BytesI I3 (.slice A2 d.length c2) (clearB d off n) by show RowI _ _ _ (clearB d off n).length _; rw [hBl]; exact e3)
          clear hs3 e3 h3 hst hct hBl
          have hc := HC.out _ _ _ ⟨some (clearB d off n), .slice A2 d.length c2⟩ HS3.out H3.out E3.out
          simp only [B17.val] at hc
          have HCC := Lib.hid hc
          clear hc
          go_wp2_with fail
          refine HCC.out.mono ?_
          rintro e w9 ⟨I9, o9, hs9, rfl, hok9, hr9, hl9, h9⟩
          have H9 := Lib.hid h9
          have HR9 := Lib.hid hr9
          have HOK9 := Lib.hid hok9
          have HS9 := Lib.hid hs9
          clear h9 hr9 hok9 hs9
          go_wp2_with fail
          first | refine bodyPost_ret (results_none rfl _ _ _) rfl ?_ | refine ⟨rfl, _, results_none rfl _ _ _, ?_⟩ | fail
          refine ⟨I9, o9, HS3.out.trans HS9.out, rfl, HOK9.out, ?_, hl9, H9.out⟩
          rw [HR9.out]
          rfl
      · have d0 : decide ((i : Int) < (off : Int) + (n : Int)) = false := by rw [decide_eq_false_iff_not]; omega
        have hB := hct.done hin (.inl (by omega))
        have hBl := hct.1
        obtain ⟨I3, hs3, e3, h3⟩ := hst.freeze_row
        subst hB
        have HS3 := Lib.hid hs3
        have H3 := Lib.hid h3
        have E3 := Lib.hid (show BytesI I3 (.slice A2 d.length c2) (clearB d off n) by show RowI _ _ _ (clearB d off n).length _; rw [hBl]; exact e3)
        clear hs3 e3 h3 hst hct hBl
        have hc := HC.out _ _ _ ⟨some (clearB d off n), .slice A2 d.length c2⟩ HS3.out H3.out E3.out
        simp only [B17.val] at hc
        have HCC := Lib.hid hc
        clear hc
        go_wp2_with fail
        refine HCC.out.mono ?_
        rintro e w9 ⟨I9, o9, hs9, rfl, hok9, hr9, hl9, h9⟩
        have H9 := Lib.hid h9
        have HR9 := Lib.hid hr9
        have HOK9 := Lib.hid hok9
        have HS9 := Lib.hid hs9
        clear h9 hr9 hok9 hs9
        go_wp2_with fail
        first | refine bodyPost_ret (results_none rfl _ _ _) rfl ?_ | refine ⟨rfl, _, results_none rfl _ _ _, ?_⟩ | fail
        refine ⟨I9, o9, HS3.out.trans HS9.out, rfl, HOK9.out, ?_, hl9, H9.out⟩
        rw [HR9.out]
        rfl
end
end Go.Proofs.YtbepmbcbcklmlaaGreat
