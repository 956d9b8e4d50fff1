/- RoleSaves: the walk. -/
import Derived.Test.YtnokhjhhadnckaaSavesStep
set_option linter.unusedSimpArgs false
set_option linter.unusedVariables false
set_option linter.unusedSectionVars false
namespace Go.Proofs.Ytnokhjhhadnckaa
open Go.RowKit
set_option maxRecDepth 4000
set_option maxHeartbeats 8000000
theorem roleSaves_walk (v0 v1 : Value) (ls : List A21) (raw : Bool) (keep : List Int) (torn : Int) (W : World) (h0 : RowI W.hp 7 v0 ls.length (ls.flatMap A21.vals)) (ha0 : ∀ a ∈ ls, a.ok W.hp) (h1 : IntsI W.hp v1 keep) (hn : ls.length ≤ maxLen) (hb : keep.length ≤ maxLen) :
    Calls Try.prog 12 #[v0, .bool raw, v1, .int .i64 torn] W fun e w' => e = .returned (.bool true) ∧ Below W.heap.size W w' := by
  have H0 := Lib.hid h0
  have HA0 := Lib.hid ha0
  have HB1 := Lib.hid h1
  obtain ⟨A0, c0, rfl, _⟩ := h0
  obtain ⟨A1, c1, rfl, _⟩ := h1
  unfold maxLen at hn hb
  have hn1 : (ls.length : Int) ≤ 9223372036854775807 := by omega
  have hb1 : (keep.length : Int) ≤ 9223372036854775807 := by omega
  clear ha0
  by_cases hbig : 30 < ls.length ∨ 20 < keep.length
  · by_cases h40 : 30 < ls.length
    · have hd : decide (30 < (ls.length : Int)) = true := by rw [decide_eq_true_eq]; omega
      clear hbig h40
      go_enter Try.func12, Try.ntmps12
      go_wp2_with fail
      refine (known21_spec W).mono ?_
      rintro e w1 ⟨rfl, hb⟩
      have HB := Lib.hid hb
      clear hb
      go_wp2_with fail
      go_ret
      exact ⟨rfl, HB.out⟩
    · have hd : decide (30 < (ls.length : Int)) = false := by rw [decide_eq_false_iff_not]; omega
      have hd2 : decide (20 < (keep.length : Int)) = true := by rw [decide_eq_true_eq]; omega
      clear hbig h40
      go_enter Try.func12, Try.ntmps12
      go_wp2_with fail
      refine (known21_spec W).mono ?_
      rintro e w1 ⟨rfl, hb⟩
      have HB := Lib.hid hb
      clear hb
      go_wp2_with fail
      go_ret
      exact ⟨rfl, HB.out⟩
  · have hn60 : ls.length ≤ 30 := by omega
    have hk20 : keep.length ≤ 20 := by omega
    have hd : decide (30 < (ls.length : Int)) = false := by rw [decide_eq_false_iff_not]; omega
    have hd2 : decide (20 < (keep.length : Int)) = false := by rw [decide_eq_false_iff_not]; omega
    clear hbig
    go_enter Try.func12, Try.ntmps12
    go_wp2_with fail
    refine (new_spec 65536 (St.init W)).mono ?_
    rintro e w1 ⟨p, rfl, h1⟩
    have H1 := Lib.hid h1
    clear h1
    go_wp2_with fail
    go_loopw [11, 12] (fun a11 a12 wr => ∃ (i : Nat) (o : Option Nt) (S : Str) (I1 : Hp) (q0 : Nt) (A : Option Addr) (c : Nat), a12 = .int .i64 i ∧ a11 = .bool o.isSome ∧ i ≤ ls.length ∧ NtC S o (1000 - 8 * i) ∧ Held o q0 ∧ BytesI I1 (.slice A q0.info.length c) q0.info ∧ W.hp.sub I1 ∧ St W I1 wr (storeHP p S :: ntHP w1.heap.size q0 (.slice A q0.info.length c) :: [])) (fun _ a12 _ => ls.length - (intOf a12).toNat)
    case atStart => exact ⟨0, none, newS 65536, W.hp, zN, none, 0, rfl, rfl, Nat.zero_le _, NtC.new _ (by omega), trivial, bytes_nil _, Hp.sub.refl _, (H1.out.alloc _).pull 1 _ rfl⟩
    case round =>
      obtain ⟨i, o, S, I1, q0, A, c, rfl, rfl, hi, hkc, hheld, hbq0, hI1, hst⟩ := hrel
      by_cases hlt : i < ls.length
      · obtain ⟨a, ha⟩ : ∃ a, ls[i]? = some a := ⟨_, List.getElem?_eq_getElem hlt⟩
        obtain ⟨b, off, e1, hc⟩ := rowk_cell (i := i) H0.out hI1 hst (fun _ => rfl) ha
        simp only [Value.slice.injEq, and_true] at e1
        subst e1
        obtain ⟨hav, hab, hal⟩ := HA0.out a (List.mem_of_getElem? ha)
        have HAV := Lib.hid hav
        have HAB := Lib.hid hab
        obtain ⟨Aa, ca, hva, _⟩ := hav
        have y0 := hc 0 (by omega)
        have y1 := hc 1 (by omega)
        have y2 := hc 2 (by omega)
        have y3 := hc 3 (by omega)
        have y4 := hc 4 (by omega)
        have y5 := hc 5 (by omega)
        simp only [A21.vals, List.getElem?_cons_succ, List.getElem?_cons_zero, Nat.add_zero] at y0 y1 y2 y3 y4 y5
        rw [hva] at y5
        unfold maxLen at hal
        have hal1 : (a.n.info.length : Int) ≤ 9223372036854775807 := by omega
        by_cases hlong : 2000 < a.n.info.length
        · have hdl : decide (2000 < (a.n.info.length : Int)) = true := by rw [decide_eq_true_eq]; omega
          have HST := Lib.hid hst
          clear hc hkc hheld hbq0 hI1 hst ha hlong
          go_wp2_with fail
          refine (known21_spec wr).mono ?_
          rintro e w9 ⟨rfl, hb9⟩
          have HB := Lib.hid (HST.out.below.trans (hb9.mono HST.out.below.size))
          clear hb9
          go_wp2_with fail
          go_ret
          exact ⟨rfl, HB.out⟩
        · have hdl : decide (2000 < (a.n.info.length : Int)) = false := by rw [decide_eq_false_iff_not]; omega
          have hlen : a.n.info.length ≤ 2000 := by omega
          have HST := Lib.hid hst
          have HKC := Lib.hid hkc
          have HHELD := Lib.hid hheld
          have HBQ0 := Lib.hid hbq0
          have HI1 := Lib.hid hI1
          have HA := Lib.hid ha
          clear hc hkc hheld hbq0 hI1 hst ha hlong
          go_wp2_with fail
          refine (note_spec a.n raw Aa ca wr).mono ?_
          rintro e w2 ⟨q, hqi, rfl, hb2⟩
          have h2 := (HST.out.keep hb2).alloc (.cells #[.int .i64 q.ph, .int .i64 q.bo, .int .i64 q.no, .int .i64 q.st, .int .i64 q.nu, .slice Aa a.n.info.length ca] 74)
          have HBV : Hid (BytesI I1 (.slice Aa q.info.length ca) q.info) := Lib.hid (by
            rw [hqi, ← hva]
            exact (bytesIP _ _).mono HI1.out HAV.out)
          have HQB : Hid (∀ x ∈ q.info, isByte x) := Lib.hid (by rw [hqi]; exact HAB.out)
          rw [← hqi] at h2 hal hal1 hlen
          have H2 := Lib.hid h2
          rw [← hqi]
          have hrr := refRight21 q.ph q.bo q.no q.st q.nu Aa q.info.length ca (w2.alloc (.cells #[.int .i64 q.ph, .int .i64 q.bo, .int .i64 q.no, .int .i64 q.st, .int .i64 q.nu, .slice Aa q.info.length ca] 74)) (by omega)
          have HRR := Lib.hid hrr
          have HQI := Lib.hid hqi
          clear hqi hb2 h2 hrr y0 y1 y2 y3 y4 y5
          go_wp2_with fail
          refine HRR.out.mono ?_
          rintro e w3 ⟨rfl, hb3⟩
          have h3 := H2.out.keep hb3
          obtain ⟨b', off', e1, hc⟩ := rowk_cell (i := i) H0.out HI1.out h3 (fun _ => rfl) HA.out
          simp only [Value.slice.injEq, and_true, Option.some.injEq, Addr.mk.injEq] at e1
          obtain ⟨rfl, rfl⟩ := e1
          have y6 := hc 6 (by omega)
          simp only [A21.vals, List.getElem?_cons_succ, List.getElem?_cons_zero, Nat.add_zero] at y6
          obtain ⟨u, hu⟩ : ∃ u, a.fuse % 8 = u := ⟨_, rfl⟩
          have hand : bits .and .i64 a.fuse 7 = u := (i64_and7 _).trans hu
          have hsub : IntKind.i64.wrap (u - 3) = u - 3 := by rw [IntKind.wrap_i64]; omega
          obtain ⟨e, S', hsv, hj1, hk1, hk2, hcs⟩ := save_step (m := 1000 - 8 * i - 4) (HKC.out.less (by omega)) (u - 3) keep torn (by omega) (by omega) q HQB.out
          have hfu := fuse_any (u - 3) (.slice A1 keep.length c1) keep torn (h3.pull 1 _ rfl) ((intsIP _ _).mono HI1.out HB1.out) (by omega)
          have HSV := Lib.hid hsv
          have HJ1 := Lib.hid hj1
          have HK1 := Lib.hid hk1
          have HK2 := Lib.hid hk2
          have HCS := Lib.hid hcs
          have HFU := Lib.hid hfu
          clear hu hsv hj1 hk1 hk2 hcs hfu hc hb3 h3 HRR
          cases hqok : q.okB with
          | false =>
            rw [show noteB q.ph q.bo q.no q.st q.nu q.info.length = false from hqok]
            go_wp2_with fail
            clear y6
            refine HFU.out.mono ?_
            clear HFU
            rintro e4 w4 ⟨I4, hs4, rfl, h4⟩
            have h4 : St W I4 w4 (storeHP p (fuseS S (u - 3) keep torn) :: ntHP w2.heap.size q (.slice Aa q.info.length ca) :: ntHP w1.heap.size q0 (.slice A q0.info.length c) :: []) := h4
            have hsave := save_spec (m := 1000 - 8 * i - 4) q Aa ca h4 HK1.out ((bytesIP _ _).mono hs4 HBV.out) (by omega) (fun h => HJ1.out.notfull h HQB.out)
            rw [HSV.out] at hsave
            have HSAVE := Lib.hid hsave
            have HS4 := Lib.hid hs4
            obtain ⟨z0, z1, z2, z3, z4, z5⟩ := (h4.pull 1 _ rfl).nt_cells
            clear h4 hsave hs4
            go_wp2_with fail
            refine HSAVE.out.mono ?_
            clear HSAVE z0 z1 z2 z3 z4 z5
            rintro e5 w5 ⟨I5, hs5, rfl, h5⟩
            have h5 : St W I5 w5 (storeHP p S' :: ntHP w2.heap.size q (.slice Aa q.info.length ca) :: ntHP w1.heap.size q0 (.slice A q0.info.length c) :: []) := h5
            obtain ⟨b', off', e1, hc⟩ := rowk_cell (i := i) H0.out (HI1.out.trans (HS4.out.trans hs5)) h5 (fun _ => rfl) HA.out
            simp only [Value.slice.injEq, and_true, Option.some.injEq, Addr.mk.injEq] at e1
            obtain ⟨rfl, rfl⟩ := e1
            have y6 := hc 6 (by omega)
            simp only [A21.vals, List.getElem?_cons_succ, List.getElem?_cons_zero, Nat.add_zero] at y6
            clear hc
            have H5 := Lib.hid h5
            have HS5 := Lib.hid (HS4.out.trans hs5)
            clear h5 hs5
            go_wp2_with fail
            refine (on_spec H5.out).mono ?_
            rintro e6 w6 ⟨rfl, rfl⟩
            rcases HCS.out with ⟨hon, _, he, hj⟩ | ⟨_, h, _⟩ | ⟨_, h, _⟩
            · subst he
              have HJ := Lib.hid hj
              clear hj
              rw [hon]
              cases hb8 : (bits .and .i64 a.fuse 8 != 0) with
              | true =>
                have hfl := fall_spec (.slice A1 keep.length c1) keep torn H5.out ((intsIP _ _).mono (HI1.out.trans HS5.out) HB1.out) (by omega) (fun _ => HK2.out.inv.fewer (by omega))
                have HFL := Lib.hid hfl
                clear hfl
                go_wp2_with fail
                refine HFL.out.mono ?_
                clear HFL
                rintro e20 w20 ⟨I20, hs20, rfl, h20⟩
                have h20 : St W I20 w20 (storeHP p (fallS S' keep torn).1 :: ntHP w2.heap.size q (.slice Aa q.info.length ca) :: ntHP w1.heap.size q0 (.slice A q0.info.length c) :: []) := h20
                have hfo := HJ.out.fall hon keep torn
                have hfk := fallS_keeps (m := 1000 - 8 * i - 4) keep torn HK2.out
                generalize (fallS S' keep torn).1 = F at h20 hfo hfk
                have HFO := Lib.hid hfo
                have HFK := Lib.hid hfk
                have H20 := Lib.hid h20
                have HS20 := Lib.hid (HS5.out.trans hs20)
                clear h20 hfo hfk hs20
                go_wp2_with fail
                have hld := load_spec o H20.out HFK.out.inv HFO.out.1.k
                rw [show loadS F o = (zN, 7) by simp [loadS, HFO.out.2.1]] at hld
                simp only [zN] at hld
                refine hld.mono ?_
                clear hld
                rintro e21 w21 ⟨I21, A21, c21, hs21, rfl, h21, _⟩
                have HS21 := Lib.hid (HS20.out.trans hs21)
                have lz := (h21.pull 1 _ rfl).lt
                obtain ⟨z0, z1, z2, z3, z4, z5⟩ := (h21.pull 1 _ rfl).nt_cells
                have h22 := ((h21.alloc (.cells #[.int .i64 0, .int .i64 0, .int .i64 0, .int .i64 0, .int .i64 0, .slice A21 0 c21] 74)).pull 1 _ rfl)
                have h22 : St W I21 (w21.alloc (.cells #[.int .i64 0, .int .i64 0, .int .i64 0, .int .i64 0, .int .i64 0, .slice A21 0 c21] 74)) (storeHP p F :: ntHP w2.heap.size q (.slice Aa q.info.length ca) :: ntHP w1.heap.size q0 (.slice A q0.info.length c) :: []) := (h22.pull 1 _ rfl).drop
                have hsv2 := save_spec (m := 1000 - 8 * i - 8) q Aa ca h22 (HFK.out.fewer (by omega)) ((bytesIP _ _).mono HS21.out HBV.out) (by omega) (fun h => HFO.out.1.notfull h HQB.out)
                rw [show saveS F q = (7, F) by simp [saveS, HFO.out.2.1]] at hsv2
                have HSV2 := Lib.hid hsv2
                clear h21 h22 hsv2 hs21
                go_wp2_with fail
                refine HSV2.out.mono ?_
                clear HSV2 z0 z1 z2 z3 z4 z5 lz
                rintro e23 w23 ⟨I23, hs23, rfl, h23⟩
                have h23 : St W I23 w23 (storeHP p F :: ntHP w2.heap.size q (.slice Aa q.info.length ca) :: ntHP w1.heap.size q0 (.slice A q0.info.length c) :: []) := h23
                have H23 := Lib.hid h23
                have HS23 := Lib.hid (HS21.out.trans hs23)
                clear h23 hs23
                go_wp2_with fail
                cases o with
                | none =>
                  refine (power_spec H23.out).mono ?_
                  rintro e7 w7 ⟨rfl, h7⟩
                  have h7 : St W I23 w7 (storeHP p (powerS F) :: ntHP w2.heap.size q (.slice Aa q.info.length ca) :: ntHP w1.heap.size q0 (.slice A q0.info.length c) :: []) := h7
                  have hfu := fuse_any (-1) (.slice none 0 0) [] 0 h7 (ints_nil _) (by decide)
                  have HFU := Lib.hid hfu
                  clear h7 hfu
                  go_wp2_with fail
                  refine HFU.out.mono ?_
                  clear HFU
                  rintro e8 w8 ⟨I8, hs8, rfl, h8⟩
                  have h8 : St W I8 w8 (storeHP p (fuseS (powerS F) (-1) [] 0) :: ntHP w2.heap.size q (.slice Aa q.info.length ca) :: ntHP w1.heap.size q0 (.slice A q0.info.length c) :: []) := h8
                  have HC8 : Hid (NtC (fuseS (powerS F) (-1) [] 0) none (1000 - 8 * i - 8)) := Lib.hid (NtC.back HFO.out.1 (HFK.out.fewer (by omega)))
                  generalize fuseS (powerS F) (-1) [] 0 = T at h8 HC8
                  have hld := load_spec none h8 HC8.out.keeps.inv HC8.out.j.k
                  rw [show loadS T none = (zN, 4) by simp [loadS, HC8.out.on]] at hld
                  simp only [zN] at hld
                  have HLD := Lib.hid hld
                  have HS8 := Lib.hid (HS23.out.trans hs8)
                  clear h8 hld hs8
                  go_wp2_with fail
                  refine HLD.out.mono ?_
                  clear HLD
                  rintro e9 w9 ⟨I9, A9, c9, hs9, rfl, h9, hb9⟩
                  have HS9 := Lib.hid (HS8.out.trans hs9)
                  have HB9 := Lib.hid hb9
                  obtain ⟨z0, z1, z2, z3, z4, z5⟩ := (h9.pull 1 _ rfl).nt_cells
                  obtain ⟨x0, x1, x2, x3, x4, x5⟩ := (h9.pull 2 _ rfl).nt_cells
                  have f := frozen_of_row (h9.pull 2 _ rfl).heap
                  have lz := (h9.pull 1 _ rfl).lt
                  have lx := (h9.pull 2 _ rfl).lt
                  have H9 := Lib.hid h9
                  clear h9 hs9 hb9
                  go_wp2_with fail
                  go_roundw
                  case rel => exact ⟨i + 1, none, T, I9, q0, A, c, by go_num, rfl, by omega, HC8.out.less (by omega), trivial, (bytesIP _ _).mono HS9.out HBQ0.out, HI1.out.trans HS9.out, (((H9.out.alloc (.cells #[.int .i64 0, .int .i64 0, .int .i64 0, .int .i64 0, .int .i64 0, .slice A9 0 c9] 74)).drop).pull 1 _ rfl).drop⟩
                  case measure => simp [intOf]; omega
                | some m =>
                  refine (power_spec H23.out).mono ?_
                  rintro e7 w7 ⟨rfl, h7⟩
                  have h7 : St W I23 w7 (storeHP p (powerS F) :: ntHP w2.heap.size q (.slice Aa q.info.length ca) :: ntHP w1.heap.size q0 (.slice A q0.info.length c) :: []) := h7
                  have hfu := fuse_any (-1) (.slice none 0 0) [] 0 h7 (ints_nil _) (by decide)
                  have HFU := Lib.hid hfu
                  clear h7 hfu
                  go_wp2_with fail
                  refine HFU.out.mono ?_
                  clear HFU
                  rintro e8 w8 ⟨I8, hs8, rfl, h8⟩
                  have h8 : St W I8 w8 (storeHP p (fuseS (powerS F) (-1) [] 0) :: ntHP w2.heap.size q (.slice Aa q.info.length ca) :: ntHP w1.heap.size q0 (.slice A q0.info.length c) :: []) := h8
                  have HC8 : Hid (NtC (fuseS (powerS F) (-1) [] 0) (some m) (1000 - 8 * i - 8)) := Lib.hid (NtC.back HFO.out.1 (HFK.out.fewer (by omega)))
                  generalize fuseS (powerS F) (-1) [] 0 = T at h8 HC8
                  have hld := load_spec (some m) h8 HC8.out.keeps.inv HC8.out.j.k
                  rw [show loadS T (some m) = (m, 0) by simp [loadS, HC8.out.on]] at hld
                  have HLD := Lib.hid hld
                  have HS8 := Lib.hid (HS23.out.trans hs8)
                  clear h8 hld hs8
                  go_wp2_with fail
                  refine HLD.out.mono ?_
                  clear HLD
                  rintro e9 w9 ⟨I9, A9, c9, hs9, rfl, h9, hb9⟩
                  have HS9 := Lib.hid (HS8.out.trans hs9)
                  have HB9 := Lib.hid hb9
                  obtain ⟨z0, z1, z2, z3, z4, z5⟩ := (h9.pull 1 _ rfl).nt_cells
                  obtain ⟨x0, x1, x2, x3, x4, x5⟩ := (h9.pull 2 _ rfl).nt_cells
                  have f := frozen_of_row (h9.pull 2 _ rfl).heap
                  have lz := (h9.pull 1 _ rfl).lt
                  have lx := (h9.pull 2 _ rfl).lt
                  have H9 := Lib.hid h9
                  clear h9 hs9 hb9
                  go_wp2_with fail
                  have hsm := same21_spec m q0 A9 c9 A c (w9.alloc (.cells #[.int .i64 m.ph, .int .i64 m.bo, .int .i64 m.no, .int .i64 m.st, .int .i64 m.nu, .slice A9 m.info.length c9] 74)) (bytes_src (H9.out.alloc _) HB9.out) (bytes_src (H9.out.alloc _) ((bytesIP _ _).mono HS9.out HBQ0.out))
                  rw [show sameN m q0 = true from HHELD.out] at hsm
                  refine hsm.mono ?_
                  rintro e11 w11 ⟨rfl, hb11⟩
                  have H11 := Lib.hid ((H9.out.alloc (.cells #[.int .i64 m.ph, .int .i64 m.bo, .int .i64 m.no, .int .i64 m.st, .int .i64 m.nu, .slice A9 m.info.length c9] 74)).keep hb11)
                  clear hb11
                  go_wp2_with fail
                  go_roundw
                  case rel => exact ⟨i + 1, (some m), T, I9, q0, A, c, by go_num, rfl, by omega, HC8.out.less (by omega), HHELD.out, ((bytesIP _ _).mono HS9.out HBQ0.out), HI1.out.trans HS9.out, (H11.out.drop.pull 1 _ rfl).drop⟩
                  case measure => simp [intOf]; omega
              | false =>
                go_wp2_with fail
                cases o with
                | none =>
                  refine (power_spec H5.out).mono ?_
                  rintro e7 w7 ⟨rfl, h7⟩
                  have h7 : St W I5 w7 (storeHP p (powerS S') :: ntHP w2.heap.size q (.slice Aa q.info.length ca) :: ntHP w1.heap.size q0 (.slice A q0.info.length c) :: []) := h7
                  have hfu := fuse_any (-1) (.slice none 0 0) [] 0 h7 (ints_nil _) (by decide)
                  have HFU := Lib.hid hfu
                  clear h7 hfu
                  go_wp2_with fail
                  refine HFU.out.mono ?_
                  clear HFU
                  rintro e8 w8 ⟨I8, hs8, rfl, h8⟩
                  have h8 : St W I8 w8 (storeHP p (fuseS (powerS S') (-1) [] 0) :: ntHP w2.heap.size q (.slice Aa q.info.length ca) :: ntHP w1.heap.size q0 (.slice A q0.info.length c) :: []) := h8
                  have HC8 : Hid (NtC (fuseS (powerS S') (-1) [] 0) none (1000 - 8 * i - 8)) := Lib.hid (NtC.back HJ.out (HK2.out.fewer (by omega)))
                  generalize fuseS (powerS S') (-1) [] 0 = T at h8 HC8
                  have hld := load_spec none h8 HC8.out.keeps.inv HC8.out.j.k
                  rw [show loadS T none = (zN, 4) by simp [loadS, HC8.out.on]] at hld
                  simp only [zN] at hld
                  have HLD := Lib.hid hld
                  have HS8 := Lib.hid (HS5.out.trans hs8)
                  clear h8 hld hs8
                  go_wp2_with fail
                  refine HLD.out.mono ?_
                  clear HLD
                  rintro e9 w9 ⟨I9, A9, c9, hs9, rfl, h9, hb9⟩
                  have HS9 := Lib.hid (HS8.out.trans hs9)
                  have HB9 := Lib.hid hb9
                  obtain ⟨z0, z1, z2, z3, z4, z5⟩ := (h9.pull 1 _ rfl).nt_cells
                  obtain ⟨x0, x1, x2, x3, x4, x5⟩ := (h9.pull 2 _ rfl).nt_cells
                  have f := frozen_of_row (h9.pull 2 _ rfl).heap
                  have lz := (h9.pull 1 _ rfl).lt
                  have lx := (h9.pull 2 _ rfl).lt
                  have H9 := Lib.hid h9
                  clear h9 hs9 hb9
                  go_wp2_with fail
                  go_roundw
                  case rel => exact ⟨i + 1, none, T, I9, q0, A, c, by go_num, rfl, by omega, HC8.out.less (by omega), trivial, (bytesIP _ _).mono HS9.out HBQ0.out, HI1.out.trans HS9.out, (((H9.out.alloc (.cells #[.int .i64 0, .int .i64 0, .int .i64 0, .int .i64 0, .int .i64 0, .slice A9 0 c9] 74)).drop).pull 1 _ rfl).drop⟩
                  case measure => simp [intOf]; omega
                | some m =>
                  refine (power_spec H5.out).mono ?_
                  rintro e7 w7 ⟨rfl, h7⟩
                  have h7 : St W I5 w7 (storeHP p (powerS S') :: ntHP w2.heap.size q (.slice Aa q.info.length ca) :: ntHP w1.heap.size q0 (.slice A q0.info.length c) :: []) := h7
                  have hfu := fuse_any (-1) (.slice none 0 0) [] 0 h7 (ints_nil _) (by decide)
                  have HFU := Lib.hid hfu
                  clear h7 hfu
                  go_wp2_with fail
                  refine HFU.out.mono ?_
                  clear HFU
                  rintro e8 w8 ⟨I8, hs8, rfl, h8⟩
                  have h8 : St W I8 w8 (storeHP p (fuseS (powerS S') (-1) [] 0) :: ntHP w2.heap.size q (.slice Aa q.info.length ca) :: ntHP w1.heap.size q0 (.slice A q0.info.length c) :: []) := h8
                  have HC8 : Hid (NtC (fuseS (powerS S') (-1) [] 0) (some m) (1000 - 8 * i - 8)) := Lib.hid (NtC.back HJ.out (HK2.out.fewer (by omega)))
                  generalize fuseS (powerS S') (-1) [] 0 = T at h8 HC8
                  have hld := load_spec (some m) h8 HC8.out.keeps.inv HC8.out.j.k
                  rw [show loadS T (some m) = (m, 0) by simp [loadS, HC8.out.on]] at hld
                  have HLD := Lib.hid hld
                  have HS8 := Lib.hid (HS5.out.trans hs8)
                  clear h8 hld hs8
                  go_wp2_with fail
                  refine HLD.out.mono ?_
                  clear HLD
                  rintro e9 w9 ⟨I9, A9, c9, hs9, rfl, h9, hb9⟩
                  have HS9 := Lib.hid (HS8.out.trans hs9)
                  have HB9 := Lib.hid hb9
                  obtain ⟨z0, z1, z2, z3, z4, z5⟩ := (h9.pull 1 _ rfl).nt_cells
                  obtain ⟨x0, x1, x2, x3, x4, x5⟩ := (h9.pull 2 _ rfl).nt_cells
                  have f := frozen_of_row (h9.pull 2 _ rfl).heap
                  have lz := (h9.pull 1 _ rfl).lt
                  have lx := (h9.pull 2 _ rfl).lt
                  have H9 := Lib.hid h9
                  clear h9 hs9 hb9
                  go_wp2_with fail
                  have hsm := same21_spec m q0 A9 c9 A c (w9.alloc (.cells #[.int .i64 m.ph, .int .i64 m.bo, .int .i64 m.no, .int .i64 m.st, .int .i64 m.nu, .slice A9 m.info.length c9] 74)) (bytes_src (H9.out.alloc _) HB9.out) (bytes_src (H9.out.alloc _) ((bytesIP _ _).mono HS9.out HBQ0.out))
                  rw [show sameN m q0 = true from HHELD.out] at hsm
                  refine hsm.mono ?_
                  rintro e11 w11 ⟨rfl, hb11⟩
                  have H11 := Lib.hid ((H9.out.alloc (.cells #[.int .i64 m.ph, .int .i64 m.bo, .int .i64 m.no, .int .i64 m.st, .int .i64 m.nu, .slice A9 m.info.length c9] 74)).keep hb11)
                  clear hb11
                  go_wp2_with fail
                  go_roundw
                  case rel => exact ⟨i + 1, (some m), T, I9, q0, A, c, by go_num, rfl, by omega, HC8.out.less (by omega), HHELD.out, ((bytesIP _ _).mono HS9.out HBQ0.out), HI1.out.trans HS9.out, (H11.out.drop.pull 1 _ rfl).drop⟩
                  case measure => simp [intOf]; omega
            · exact absurd (hqok.symm.trans h) (by decide)
            · exact absurd (hqok.symm.trans h) (by decide)
          | true =>
            rw [show noteB q.ph q.bo q.no q.st q.nu q.info.length = true from hqok]
            go_wp2_with fail
            clear y6
            refine HFU.out.mono ?_
            clear HFU
            rintro e4 w4 ⟨I4, hs4, rfl, h4⟩
            have h4 : St W I4 w4 (storeHP p (fuseS S (u - 3) keep torn) :: ntHP w2.heap.size q (.slice Aa q.info.length ca) :: ntHP w1.heap.size q0 (.slice A q0.info.length c) :: []) := h4
            have hsave := save_spec (m := 1000 - 8 * i - 4) q Aa ca h4 HK1.out ((bytesIP _ _).mono hs4 HBV.out) (by omega) (fun h => HJ1.out.notfull h HQB.out)
            rw [HSV.out] at hsave
            have HSAVE := Lib.hid hsave
            have HS4 := Lib.hid hs4
            obtain ⟨z0, z1, z2, z3, z4, z5⟩ := (h4.pull 1 _ rfl).nt_cells
            clear h4 hsave hs4
            go_wp2_with fail
            refine HSAVE.out.mono ?_
            clear HSAVE z0 z1 z2 z3 z4 z5
            rintro e5 w5 ⟨I5, hs5, rfl, h5⟩
            have h5 : St W I5 w5 (storeHP p S' :: ntHP w2.heap.size q (.slice Aa q.info.length ca) :: ntHP w1.heap.size q0 (.slice A q0.info.length c) :: []) := h5
            obtain ⟨b', off', e1, hc⟩ := rowk_cell (i := i) H0.out (HI1.out.trans (HS4.out.trans hs5)) h5 (fun _ => rfl) HA.out
            simp only [Value.slice.injEq, and_true, Option.some.injEq, Addr.mk.injEq] at e1
            obtain ⟨rfl, rfl⟩ := e1
            have y6 := hc 6 (by omega)
            simp only [A21.vals, List.getElem?_cons_succ, List.getElem?_cons_zero, Nat.add_zero] at y6
            clear hc
            have H5 := Lib.hid h5
            have HS5 := Lib.hid (HS4.out.trans hs5)
            clear h5 hs5
            go_wp2_with fail
            refine (on_spec H5.out).mono ?_
            rintro e6 w6 ⟨rfl, rfl⟩
            rcases HCS.out with ⟨_, h, _⟩ | ⟨hon, _, he, hj⟩ | ⟨hon, _, he, o', hj, hoo⟩
            · exact absurd (hqok.symm.trans h) (by decide)
            · subst he
              have HJ := Lib.hid hj
              clear hj
              rw [hon]
              cases hb8 : (bits .and .i64 a.fuse 8 != 0) with
              | true =>
                have hfl := fall_spec (.slice A1 keep.length c1) keep torn H5.out ((intsIP _ _).mono (HI1.out.trans HS5.out) HB1.out) (by omega) (fun _ => HK2.out.inv.fewer (by omega))
                have HFL := Lib.hid hfl
                clear hfl
                go_wp2_with fail
                refine HFL.out.mono ?_
                clear HFL
                rintro e20 w20 ⟨I20, hs20, rfl, h20⟩
                have h20 : St W I20 w20 (storeHP p (fallS S' keep torn).1 :: ntHP w2.heap.size q (.slice Aa q.info.length ca) :: ntHP w1.heap.size q0 (.slice A q0.info.length c) :: []) := h20
                have hfo := HJ.out.fall hon keep torn
                have hfk := fallS_keeps (m := 1000 - 8 * i - 4) keep torn HK2.out
                generalize (fallS S' keep torn).1 = F at h20 hfo hfk
                have HFO := Lib.hid hfo
                have HFK := Lib.hid hfk
                have H20 := Lib.hid h20
                have HS20 := Lib.hid (HS5.out.trans hs20)
                clear h20 hfo hfk hs20
                go_wp2_with fail
                have hld := load_spec (some q) H20.out HFK.out.inv HFO.out.1.k
                rw [show loadS F (some q) = (zN, 7) by simp [loadS, HFO.out.2.1]] at hld
                simp only [zN] at hld
                refine hld.mono ?_
                clear hld
                rintro e21 w21 ⟨I21, A21, c21, hs21, rfl, h21, _⟩
                have HS21 := Lib.hid (HS20.out.trans hs21)
                have lz := (h21.pull 1 _ rfl).lt
                obtain ⟨z0, z1, z2, z3, z4, z5⟩ := (h21.pull 1 _ rfl).nt_cells
                have h22 := ((h21.alloc (.cells #[.int .i64 0, .int .i64 0, .int .i64 0, .int .i64 0, .int .i64 0, .slice A21 0 c21] 74)).pull 1 _ rfl)
                have h22 : St W I21 (w21.alloc (.cells #[.int .i64 0, .int .i64 0, .int .i64 0, .int .i64 0, .int .i64 0, .slice A21 0 c21] 74)) (storeHP p F :: ntHP w2.heap.size q (.slice Aa q.info.length ca) :: ntHP w1.heap.size q0 (.slice A q0.info.length c) :: []) := (h22.pull 1 _ rfl).drop
                have hsv2 := save_spec (m := 1000 - 8 * i - 8) q Aa ca h22 (HFK.out.fewer (by omega)) ((bytesIP _ _).mono HS21.out HBV.out) (by omega) (fun h => HFO.out.1.notfull h HQB.out)
                rw [show saveS F q = (7, F) by simp [saveS, HFO.out.2.1]] at hsv2
                have HSV2 := Lib.hid hsv2
                clear h21 h22 hsv2 hs21
                go_wp2_with fail
                refine HSV2.out.mono ?_
                clear HSV2 z0 z1 z2 z3 z4 z5 lz
                rintro e23 w23 ⟨I23, hs23, rfl, h23⟩
                have h23 : St W I23 w23 (storeHP p F :: ntHP w2.heap.size q (.slice Aa q.info.length ca) :: ntHP w1.heap.size q0 (.slice A q0.info.length c) :: []) := h23
                have H23 := Lib.hid h23
                have HS23 := Lib.hid (HS21.out.trans hs23)
                clear h23 hs23
                go_wp2_with fail
                refine (power_spec H23.out).mono ?_
                rintro e7 w7 ⟨rfl, h7⟩
                have h7 : St W I23 w7 (storeHP p (powerS F) :: ntHP w2.heap.size q (.slice Aa q.info.length ca) :: ntHP w1.heap.size q0 (.slice A q0.info.length c) :: []) := h7
                have hfu := fuse_any (-1) (.slice none 0 0) [] 0 h7 (ints_nil _) (by decide)
                have HFU := Lib.hid hfu
                clear h7 hfu
                go_wp2_with fail
                refine HFU.out.mono ?_
                clear HFU
                rintro e8 w8 ⟨I8, hs8, rfl, h8⟩
                have h8 : St W I8 w8 (storeHP p (fuseS (powerS F) (-1) [] 0) :: ntHP w2.heap.size q (.slice Aa q.info.length ca) :: ntHP w1.heap.size q0 (.slice A q0.info.length c) :: []) := h8
                have HC8 : Hid (NtC (fuseS (powerS F) (-1) [] 0) (some q) (1000 - 8 * i - 8)) := Lib.hid (NtC.back HFO.out.1 (HFK.out.fewer (by omega)))
                generalize fuseS (powerS F) (-1) [] 0 = T at h8 HC8
                have hld := load_spec (some q) h8 HC8.out.keeps.inv HC8.out.j.k
                rw [show loadS T (some q) = (q, 0) by simp [loadS, HC8.out.on]] at hld
                have HLD := Lib.hid hld
                have HS8 := Lib.hid (HS23.out.trans hs8)
                clear h8 hld hs8
                go_wp2_with fail
                refine HLD.out.mono ?_
                clear HLD
                rintro e9 w9 ⟨I9, A9, c9, hs9, rfl, h9, hb9⟩
                have HS9 := Lib.hid (HS8.out.trans hs9)
                have HB9 := Lib.hid hb9
                obtain ⟨z0, z1, z2, z3, z4, z5⟩ := (h9.pull 1 _ rfl).nt_cells
                obtain ⟨x0, x1, x2, x3, x4, x5⟩ := (h9.pull 2 _ rfl).nt_cells
                have f := frozen_of_row (h9.pull 2 _ rfl).heap
                have lz := (h9.pull 1 _ rfl).lt
                have lx := (h9.pull 2 _ rfl).lt
                have H9 := Lib.hid h9
                clear h9 hs9 hb9
                go_wp2_with fail
                have h10 := St.set6 (H9.out.pull 2 _ rfl) (.int .i64 q.ph) (.int .i64 q.bo) (.int .i64 q.no) (.int .i64 q.st) (.int .i64 q.nu) (.slice Aa q.info.length ca)
                generalize (World.setCell _ _ _ : World) = w10a at h10 ⊢
                have h10 := h10.alloc (.cells #[.int .i64 q.ph, .int .i64 q.bo, .int .i64 q.no, .int .i64 q.st, .int .i64 q.nu, .slice A9 q.info.length c9] 74)
                generalize w10a.alloc (.cells #[.int .i64 q.ph, .int .i64 q.bo, .int .i64 q.no, .int .i64 q.st, .int .i64 q.nu, .slice A9 q.info.length c9] 74) = w10 at h10 ⊢
                have hsm := same21_spec q q A9 c9 Aa ca w10 (bytes_src h10 HB9.out) (bytes_src h10 ((bytesIP _ _).mono HS9.out HBV.out))
                rw [show sameN q q = true from sameN_self q] at hsm
                refine hsm.mono ?_
                clear hsm
                rintro e11 w11 ⟨rfl, hb11⟩
                have H11 := Lib.hid (h10.keep hb11)
                clear hb11 h10
                go_wp2_with fail
                go_roundw
                case rel => exact ⟨i + 1, some q, T, I9, q, Aa, ca, by go_num, rfl, by omega, HC8.out.less (by omega), sameN_self q, (bytesIP _ _).mono HS9.out HBV.out, HI1.out.trans HS9.out, ((H11.out.drop).pull 2 _ rfl).drop.perm (List.Perm.swap _ _ _)⟩
                case measure => simp [intOf]; omega
              | false =>
                go_wp2_with fail
                refine (power_spec H5.out).mono ?_
                rintro e7 w7 ⟨rfl, h7⟩
                have h7 : St W I5 w7 (storeHP p (powerS S') :: ntHP w2.heap.size q (.slice Aa q.info.length ca) :: ntHP w1.heap.size q0 (.slice A q0.info.length c) :: []) := h7
                have hfu := fuse_any (-1) (.slice none 0 0) [] 0 h7 (ints_nil _) (by decide)
                have HFU := Lib.hid hfu
                clear h7 hfu
                go_wp2_with fail
                refine HFU.out.mono ?_
                clear HFU
                rintro e8 w8 ⟨I8, hs8, rfl, h8⟩
                have h8 : St W I8 w8 (storeHP p (fuseS (powerS S') (-1) [] 0) :: ntHP w2.heap.size q (.slice Aa q.info.length ca) :: ntHP w1.heap.size q0 (.slice A q0.info.length c) :: []) := h8
                have HC8 : Hid (NtC (fuseS (powerS S') (-1) [] 0) (some q) (1000 - 8 * i - 8)) := Lib.hid (NtC.back HJ.out (HK2.out.fewer (by omega)))
                generalize fuseS (powerS S') (-1) [] 0 = T at h8 HC8
                have hld := load_spec (some q) h8 HC8.out.keeps.inv HC8.out.j.k
                rw [show loadS T (some q) = (q, 0) by simp [loadS, HC8.out.on]] at hld
                have HLD := Lib.hid hld
                have HS8 := Lib.hid (HS5.out.trans hs8)
                clear h8 hld hs8
                go_wp2_with fail
                refine HLD.out.mono ?_
                clear HLD
                rintro e9 w9 ⟨I9, A9, c9, hs9, rfl, h9, hb9⟩
                have HS9 := Lib.hid (HS8.out.trans hs9)
                have HB9 := Lib.hid hb9
                obtain ⟨z0, z1, z2, z3, z4, z5⟩ := (h9.pull 1 _ rfl).nt_cells
                obtain ⟨x0, x1, x2, x3, x4, x5⟩ := (h9.pull 2 _ rfl).nt_cells
                have f := frozen_of_row (h9.pull 2 _ rfl).heap
                have lz := (h9.pull 1 _ rfl).lt
                have lx := (h9.pull 2 _ rfl).lt
                have H9 := Lib.hid h9
                clear h9 hs9 hb9
                go_wp2_with fail
                have h10 := St.set6 (H9.out.pull 2 _ rfl) (.int .i64 q.ph) (.int .i64 q.bo) (.int .i64 q.no) (.int .i64 q.st) (.int .i64 q.nu) (.slice Aa q.info.length ca)
                generalize (World.setCell _ _ _ : World) = w10a at h10 ⊢
                have h10 := h10.alloc (.cells #[.int .i64 q.ph, .int .i64 q.bo, .int .i64 q.no, .int .i64 q.st, .int .i64 q.nu, .slice A9 q.info.length c9] 74)
                generalize w10a.alloc (.cells #[.int .i64 q.ph, .int .i64 q.bo, .int .i64 q.no, .int .i64 q.st, .int .i64 q.nu, .slice A9 q.info.length c9] 74) = w10 at h10 ⊢
                have hsm := same21_spec q q A9 c9 Aa ca w10 (bytes_src h10 HB9.out) (bytes_src h10 ((bytesIP _ _).mono HS9.out HBV.out))
                rw [show sameN q q = true from sameN_self q] at hsm
                refine hsm.mono ?_
                clear hsm
                rintro e11 w11 ⟨rfl, hb11⟩
                have H11 := Lib.hid (h10.keep hb11)
                clear hb11 h10
                go_wp2_with fail
                go_roundw
                case rel => exact ⟨i + 1, some q, T, I9, q, Aa, ca, by go_num, rfl, by omega, HC8.out.less (by omega), sameN_self q, (bytesIP _ _).mono HS9.out HBV.out, HI1.out.trans HS9.out, ((H11.out.drop).pull 2 _ rfl).drop.perm (List.Perm.swap _ _ _)⟩
                case measure => simp [intOf]; omega
            · subst he
              have HJ := Lib.hid hj
              have HOO := Lib.hid hoo
              clear hj hoo
              rw [hon]
              go_wp2_with fail
              cases o' with
              | none =>
                obtain rfl : o = none := by
                  rcases HOO.out with e | e
                  · exact e.symm
                  · cases e
                refine (power_spec H5.out).mono ?_
                rintro e7 w7 ⟨rfl, h7⟩
                have h7 : St W I5 w7 (storeHP p (powerS S') :: ntHP w2.heap.size q (.slice Aa q.info.length ca) :: ntHP w1.heap.size q0 (.slice A q0.info.length c) :: []) := h7
                have hfu := fuse_any (-1) (.slice none 0 0) [] 0 h7 (ints_nil _) (by decide)
                have HFU := Lib.hid hfu
                clear h7 hfu
                go_wp2_with fail
                refine HFU.out.mono ?_
                clear HFU
                rintro e8 w8 ⟨I8, hs8, rfl, h8⟩
                have h8 : St W I8 w8 (storeHP p (fuseS (powerS S') (-1) [] 0) :: ntHP w2.heap.size q (.slice Aa q.info.length ca) :: ntHP w1.heap.size q0 (.slice A q0.info.length c) :: []) := h8
                have HC8 : Hid (NtC (fuseS (powerS S') (-1) [] 0) none (1000 - 8 * i - 8)) := Lib.hid (NtC.back HJ.out (HK2.out.fewer (by omega)))
                generalize fuseS (powerS S') (-1) [] 0 = T at h8 HC8
                have hld := load_spec none h8 HC8.out.keeps.inv HC8.out.j.k
                rw [show loadS T none = (zN, 4) by simp [loadS, HC8.out.on]] at hld
                simp only [zN] at hld
                have HLD := Lib.hid hld
                have HS8 := Lib.hid (HS5.out.trans hs8)
                clear h8 hld hs8
                go_wp2_with fail
                refine HLD.out.mono ?_
                clear HLD
                rintro e9 w9 ⟨I9, A9, c9, hs9, rfl, h9, hb9⟩
                have HS9 := Lib.hid (HS8.out.trans hs9)
                have HB9 := Lib.hid hb9
                obtain ⟨z0, z1, z2, z3, z4, z5⟩ := (h9.pull 1 _ rfl).nt_cells
                obtain ⟨x0, x1, x2, x3, x4, x5⟩ := (h9.pull 2 _ rfl).nt_cells
                have f := frozen_of_row (h9.pull 2 _ rfl).heap
                have lz := (h9.pull 1 _ rfl).lt
                have lx := (h9.pull 2 _ rfl).lt
                have H9 := Lib.hid h9
                clear h9 hs9 hb9
                go_wp2_with fail
                go_roundw
                case rel => exact ⟨i + 1, none, T, I9, q0, A, c, by go_num, rfl, by omega, HC8.out.less (by omega), trivial, (bytesIP _ _).mono HS9.out HBQ0.out, HI1.out.trans HS9.out, (((H9.out.alloc (.cells #[.int .i64 0, .int .i64 0, .int .i64 0, .int .i64 0, .int .i64 0, .slice A9 0 c9] 74)).drop).pull 1 _ rfl).drop⟩
                case measure => simp [intOf]; omega
              | some m =>
                refine (power_spec H5.out).mono ?_
                rintro e7 w7 ⟨rfl, h7⟩
                have h7 : St W I5 w7 (storeHP p (powerS S') :: ntHP w2.heap.size q (.slice Aa q.info.length ca) :: ntHP w1.heap.size q0 (.slice A q0.info.length c) :: []) := h7
                have hfu := fuse_any (-1) (.slice none 0 0) [] 0 h7 (ints_nil _) (by decide)
                have HFU := Lib.hid hfu
                clear h7 hfu
                go_wp2_with fail
                refine HFU.out.mono ?_
                clear HFU
                rintro e8 w8 ⟨I8, hs8, rfl, h8⟩
                have h8 : St W I8 w8 (storeHP p (fuseS (powerS S') (-1) [] 0) :: ntHP w2.heap.size q (.slice Aa q.info.length ca) :: ntHP w1.heap.size q0 (.slice A q0.info.length c) :: []) := h8
                have HC8 : Hid (NtC (fuseS (powerS S') (-1) [] 0) (some m) (1000 - 8 * i - 8)) := Lib.hid (NtC.back HJ.out (HK2.out.fewer (by omega)))
                generalize fuseS (powerS S') (-1) [] 0 = T at h8 HC8
                have hld := load_spec (some m) h8 HC8.out.keeps.inv HC8.out.j.k
                rw [show loadS T (some m) = (m, 0) by simp [loadS, HC8.out.on]] at hld
                have HLD := Lib.hid hld
                have HS8 := Lib.hid (HS5.out.trans hs8)
                clear h8 hld hs8
                go_wp2_with fail
                refine HLD.out.mono ?_
                clear HLD
                rintro e9 w9 ⟨I9, A9, c9, hs9, rfl, h9, hb9⟩
                have HS9 := Lib.hid (HS8.out.trans hs9)
                have HB9 := Lib.hid hb9
                obtain ⟨z0, z1, z2, z3, z4, z5⟩ := (h9.pull 1 _ rfl).nt_cells
                obtain ⟨x0, x1, x2, x3, x4, x5⟩ := (h9.pull 2 _ rfl).nt_cells
                have f := frozen_of_row (h9.pull 2 _ rfl).heap
                have lz := (h9.pull 1 _ rfl).lt
                have lx := (h9.pull 2 _ rfl).lt
                have H9 := Lib.hid h9
                clear h9 hs9 hb9
                go_wp2_with fail
                have hsm := same21_spec m q A9 c9 Aa ca (w9.alloc (.cells #[.int .i64 m.ph, .int .i64 m.bo, .int .i64 m.no, .int .i64 m.st, .int .i64 m.nu, .slice A9 m.info.length c9] 74)) (bytes_src (H9.out.alloc _) HB9.out) (bytes_src (H9.out.alloc _) ((bytesIP _ _).mono HS9.out HBV.out))
                have HSM := Lib.hid hsm
                clear hsm
                cases hmq : sameN m q with
                | true =>
                  have HMQ := Lib.hid hmq
                  have hsm := HSM.out
                  rw [hmq] at hsm
                  clear hmq HSM
                  refine hsm.mono ?_
                  clear hsm
                  rintro e11 w11 ⟨rfl, hb11⟩
                  have h11 : St W I9 w11 (ntHP w9.heap.size m (.slice A9 m.info.length c9) :: storeHP p T :: ntHP w2.heap.size q (.slice Aa q.info.length ca) :: ntHP w1.heap.size q0 (.slice A q0.info.length c) :: []) := (H9.out.alloc (.cells #[.int .i64 m.ph, .int .i64 m.bo, .int .i64 m.no, .int .i64 m.st, .int .i64 m.nu, .slice A9 m.info.length c9] 74)).keep hb11
                  obtain ⟨z0, z1, z2, z3, z4, z5⟩ := (h11.pull 2 _ rfl).nt_cells
                  obtain ⟨x0, x1, x2, x3, x4, x5⟩ := (h11.pull 3 _ rfl).nt_cells
                  obtain ⟨v0, v1, v2, v3, v4, v5⟩ := (h11.pull 0 _ rfl).nt_cells
                  have f := frozen_of_row (h11.pull 3 _ rfl).heap
                  have hne := (h11.perm (show List.Perm _ (ntHP w9.heap.size m (.slice A9 m.info.length c9) :: ntHP w1.heap.size q0 (.slice A q0.info.length c) :: storeHP p T :: ntHP w2.heap.size q (.slice Aa q.info.length ca) :: []) from by ((try simp only [List.eraseIdx_cons_succ, List.eraseIdx_cons_zero, List.cons_append, List.nil_append]); repeat (first | with_reducible exact List.Perm.refl _ | (apply perm_step; (· repeat (first | with_reducible exact find_here | with_reducible apply find_there))))))).ne
                  have H11 := Lib.hid h11
                  clear h11 hb11
                  go_wp2_with fail
                  have h12 := St.set6 (H11.out.pull 3 _ rfl) (.int .i64 q.ph) (.int .i64 q.bo) (.int .i64 q.no) (.int .i64 q.st) (.int .i64 q.nu) (.slice Aa q.info.length ca)
                  generalize (World.setCell _ _ _ : World) = w12 at h12 ⊢
                  have hsm := same21_spec m q A9 c9 Aa ca w12 (bytes_src h12 HB9.out) (bytes_src h12 ((bytesIP _ _).mono HS9.out HBV.out))
                  rw [show sameN m q = true from HMQ.out] at hsm
                  refine hsm.mono ?_
                  clear hsm
                  rintro e13 w13 ⟨rfl, hb13⟩
                  have H13 := Lib.hid (h12.keep hb13)
                  clear hb13 h12
                  go_wp2_with fail
                  go_roundw
                  case rel => exact ⟨i + 1, some m, T, I9, q, Aa, ca, by go_num, rfl, by omega, HC8.out.less (by omega), HMQ.out, (bytesIP _ _).mono HS9.out HBV.out, HI1.out.trans HS9.out, ((H13.out.pull 3 _ rfl).drop.pull 1 _ rfl).drop.perm (List.Perm.swap _ _ _)⟩
                  case measure => simp [intOf]; omega
                | false =>
                  have hsm := HSM.out
                  rw [hmq] at hsm
                  refine hsm.mono ?_
                  clear hsm HSM
                  rintro e11 w11 ⟨rfl, hb11⟩
                  have h11 : St W I9 w11 (ntHP w9.heap.size m (.slice A9 m.info.length c9) :: storeHP p T :: ntHP w2.heap.size q (.slice Aa q.info.length ca) :: ntHP w1.heap.size q0 (.slice A q0.info.length c) :: []) := (H9.out.alloc (.cells #[.int .i64 m.ph, .int .i64 m.bo, .int .i64 m.no, .int .i64 m.st, .int .i64 m.nu, .slice A9 m.info.length c9] 74)).keep hb11
                  obtain ⟨x0, x1, x2, x3, x4, x5⟩ := (h11.pull 3 _ rfl).nt_cells
                  obtain ⟨v0, v1, v2, v3, v4, v5⟩ := (h11.pull 0 _ rfl).nt_cells
                  have H11 := Lib.hid h11
                  obtain rfl : o = some m := by
                    rcases HOO.out with e | e
                    · exact e.symm
                    · simp only [Option.some.injEq] at e
                      subst e
                      rw [sameN_self] at hmq
                      cases hmq
                  clear h11 hb11 hmq
                  go_wp2_with fail
                  have hsm := same21_spec m q0 A9 c9 A c w11 (bytes_src H11.out HB9.out) (bytes_src H11.out ((bytesIP _ _).mono HS9.out HBQ0.out))
                  rw [show sameN m q0 = true from HHELD.out] at hsm
                  refine hsm.mono ?_
                  clear hsm
                  rintro e12 w12 ⟨rfl, hb12⟩
                  have H12 := Lib.hid (H11.out.keep hb12)
                  clear hb12
                  go_wp2_with fail
                  go_roundw
                  case rel => exact ⟨i + 1, some m, T, I9, q0, A, c, by go_num, rfl, by omega, HC8.out.less (by omega), HHELD.out, ((bytesIP _ _).mono HS9.out HBQ0.out), HI1.out.trans HS9.out, (H12.out.drop.pull 1 _ rfl).drop⟩
                  case measure => simp [intOf]; omega
      · obtain rfl : i = ls.length := by omega
        have HST := Lib.hid hst
        clear hst hkc hI1 hheld hbq0
        go_wp2_with fail
        refine (known21_spec wr).mono ?_
        rintro e w9 ⟨rfl, hb9⟩
        have HB := Lib.hid (HST.out.below.trans (hb9.mono HST.out.below.size))
        clear hb9
        go_wp2_with fail
        go_ret
        exact ⟨rfl, HB.out⟩
end Go.Proofs.Ytnokhjhhadnckaa
