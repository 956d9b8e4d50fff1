/- role.Load and role.Save. What is kept of notes: saved, or refused, or the one ahead. No program in sight. role.Load of a store that keeps notes alone. hectographlaw21.known, note; hectographref21.Same. -/
import Derived.Test.YtnokhjhhadnckaaLocks
import Derived.Test.YtnokhjhhadnckaaChains
/- role.Load and role.Save. -/
set_option linter.unusedSimpArgs false
set_option linter.unusedVariables false
set_option linter.unusedSectionVars false
namespace Go.Proofs.Ytnokhjhhadnckaa
open Go.RowKit
structure Nt where
  ph : Int
  bo : Int
  no : Int
  st : Int
  nu : Int
  info : List Int
def kN : K4 := ⟨6, 0, 0, 0⟩
def nmN : ByteArray := ⟨#[110]⟩
def Nt.nums (n : Nt) : List Int := [n.ph, n.bo, n.no, n.st, n.nu]
def numsB (n : Nt) (i : Nat) : List Int := (n.nums.take i).flatMap fun x => putB x 8
def noteBytes (n : Nt) : List Int := numsB n 5 ++ n.info
def Nt.okB (n : Nt) : Bool := noteB n.ph n.bo n.no n.st n.nu n.info.length
def Nt.arr (n : Nt) (v : Value) : Array Value := #[.int .i64 n.ph, .int .i64 n.bo, .int .i64 n.no, .int .i64 n.st, .int .i64 n.nu, v]
def saveS (S : Str) (n : Nt) : Int × Str := if S.on = false then (7, S) else if n.okB = false then (1, S) else keepS S kN nmN (noteBytes n)
theorem Nt.bounds {n : Nt} (h : n.okB = true) : (1 ≤ n.ph ∧ n.ph ≤ 5) ∧ (0 ≤ n.bo ∧ n.bo < 1048576) ∧ (0 ≤ n.no ∧ n.no ≤ 1099511627776) ∧ (0 ≤ n.st ∧ n.st ≤ 17) ∧ (0 ≤ n.nu ∧ n.nu ≤ 512) ∧ n.info.length ≤ 1500 := by
  unfold Nt.okB noteB at h
  rw [decide_eq_true_eq] at h
  omega
theorem numsB_length (n : Nt) : (numsB n 0).length = 0 ∧ (numsB n 1).length = 8 ∧ (numsB n 2).length = 16 ∧ (numsB n 3).length = 24 ∧ (numsB n 4).length = 32 ∧ (numsB n 5).length = 40 := by
  simp [numsB, Nt.nums, putB_length]
theorem numsB_succ (n : Nt) : numsB n 1 = numsB n 0 ++ putB n.ph 8 ∧ numsB n 2 = numsB n 1 ++ putB n.bo 8 ∧ numsB n 3 = numsB n 2 ++ putB n.no 8 ∧ numsB n 4 = numsB n 3 ++ putB n.st 8 ∧ numsB n 5 = numsB n 4 ++ putB n.nu 8 := by
  simp [numsB, Nt.nums]
section
variable {W w : World} {I : Hp} {l : List HP} {p : Nat} {S : Str}
set_option maxRecDepth 4000
set_option maxHeartbeats 4000000
theorem rown_spec (w : World) : Calls Try.prog 88 #[] w fun e w' => e = .returned (.agg #[.int .i64 6, .int .i64 0, .int .i64 0, .int .i64 0]) ∧ Below w.heap.size w w' := by
  go_enter Try.func88, Try.ntmps88
  go_wp2
  exact bodyPost_ret (v := .agg #[.int .i64 6, .int .i64 0, .int .i64 0, .int .i64 0]) (by simp [results, Try.results88, go_sem]) rfl ⟨rfl, below_alloc _ _⟩
theorem ready_spec (h : St W I w (storeHP p S :: l)) : Calls Try.prog 85 #[.pointer (some ⟨p, 0, none⟩)] w fun e w' => e = .returned (.int .i64 (if S.on = false then 7 else 0)) ∧ w = w' := by
  have H := Lib.hid h
  clear h
  cases ho : S.on with
  | false =>
    go_enter Try.func85, Try.ntmps85
    go_wp2_with fail
    refine (on_spec H.out).mono ?_
    rw [ho]
    rintro e w1 ⟨rfl, rfl⟩
    go_wp2_with fail
    go_ret
    exact ⟨rfl, rfl⟩
  | true =>
    go_enter Try.func85, Try.ntmps85
    go_wp2_with fail
    refine (on_spec H.out).mono ?_
    rw [ho]
    rintro e w1 ⟨rfl, rfl⟩
    go_wp2_with fail
    go_ret
    exact ⟨rfl, rfl⟩
theorem save_spec (n : Nt) (A0 : Option Addr) (c0 : Nat) {m : Nat} (h : St W I w (storeHP p S :: l)) (hk : Keeps S (m + 4)) (hs : BytesI I (.slice A0 n.info.length c0) n.info) (hbl : n.info.length ≤ 1000000)
    (hnf : n.okB = true → (setS (if whyS S kN ≠ 0 then (makeS S kN).2 else S) kN nmN (noteBytes n)).1 ≠ 6) :
    Calls Try.prog 47 #[.pointer (some ⟨p, 0, none⟩), .agg #[.int .i64 n.ph, .int .i64 n.bo, .int .i64 n.no, .int .i64 n.st, .int .i64 n.nu, .slice A0 n.info.length c0]] w fun e w' => ∃ I', I.sub I' ∧ e = .returned (.int .i64 (saveS S n).1) ∧ St W I' w' (storeHP p (saveS S n).2 :: l) := by
  obtain ⟨I1, hs1, hI1, h1⟩ := (h.alloc (.cells #[.int .i64 n.ph, .int .i64 n.bo, .int .i64 n.no, .int .i64 n.st, .int .i64 n.nu, .slice A0 n.info.length c0] 74)).freeze
  have H1 := Lib.hid h1
  have HS1 := Lib.hid hs1
  have HI1 := Lib.hid hI1
  have HK := Lib.hid hk
  have HNF := Lib.hid hnf
  have HBS := Lib.hid hs
  clear h hk hnf hs h1 hs1 hI1
  cases ho : S.on with
  | false =>
    have HG := Lib.hid (show saveS S n = (7, S) by simp [saveS, ho])
    go_enter Try.func47, Try.ntmps47
    go_wp2_with fail
    refine (ready_spec H1.out).mono ?_
    rw [ho]
    rintro e w1 ⟨rfl, rfl⟩
    go_wp2_with fail
    go_ret
    rw [HG.out]
    exact ⟨I1, HS1.out, rfl, H1.out⟩
  | true =>
    cases hok : n.okB with
    | false =>
      have HG := Lib.hid (show saveS S n = (1, S) by simp [saveS, ho, hok])
      have HOK := Lib.hid hok
      clear hok
      go_enter Try.func47, Try.ntmps47
      go_wp2_with fail
      refine (ready_spec H1.out).mono ?_
      rw [ho]
      rintro e w1 ⟨rfl, rfl⟩
      go_wp2_with fail
      have hr := noteRight_any n.ph n.bo n.no n.st n.nu A0 n.info.length c0 (w.alloc (.cells #[.int .i64 n.ph, .int .i64 n.bo, .int .i64 n.no, .int .i64 n.st, .int .i64 n.nu, .slice A0 n.info.length c0] 74)) (by omega)
      rw [show noteB n.ph n.bo n.no n.st n.nu n.info.length = false from HOK.out] at hr
      refine hr.mono ?_
      clear hr
      rintro e w1 ⟨rfl, hb1⟩
      have H2 := Lib.hid (H1.out.keep hb1)
      clear hb1
      go_wp2_with fail
      go_ret
      rw [HG.out]
      exact ⟨I1, HS1.out, rfl, H2.out⟩
    | true =>
      have i0 : ∀ w : World, (Instr.index 139 (.agg #[.int .i64 n.ph, .int .i64 n.bo, .int .i64 n.no, .int .i64 n.st, .int .i64 n.nu]) (.int .i64 0)).run Try.prog w = .ok (.int .i64 n.ph) w := fun _ => by kernel_rfl
      have i1 : ∀ w : World, (Instr.index 139 (.agg #[.int .i64 n.ph, .int .i64 n.bo, .int .i64 n.no, .int .i64 n.st, .int .i64 n.nu]) (.int .i64 1)).run Try.prog w = .ok (.int .i64 n.bo) w := fun _ => by kernel_rfl
      have i2 : ∀ w : World, (Instr.index 139 (.agg #[.int .i64 n.ph, .int .i64 n.bo, .int .i64 n.no, .int .i64 n.st, .int .i64 n.nu]) (.int .i64 2)).run Try.prog w = .ok (.int .i64 n.no) w := fun _ => by kernel_rfl
      have i3 : ∀ w : World, (Instr.index 139 (.agg #[.int .i64 n.ph, .int .i64 n.bo, .int .i64 n.no, .int .i64 n.st, .int .i64 n.nu]) (.int .i64 3)).run Try.prog w = .ok (.int .i64 n.st) w := fun _ => by kernel_rfl
      have i4 : ∀ w : World, (Instr.index 139 (.agg #[.int .i64 n.ph, .int .i64 n.bo, .int .i64 n.no, .int .i64 n.st, .int .i64 n.nu]) (.int .i64 4)).run Try.prog w = .ok (.int .i64 n.nu) w := fun _ => by kernel_rfl
      have HG0 := Lib.hid (show saveS S n = keepS S kN nmN (noteBytes n) by simp [saveS, ho, hok])
      have HOK := Lib.hid hok
      obtain ⟨⟨q0, q0'⟩, ⟨q1, q1'⟩, ⟨q2, q2'⟩, ⟨q3, q3'⟩, ⟨q4, q4'⟩, q5⟩ := Nt.bounds hok
      have hnl := numsB_length n
      have hns := numsB_succ n
      have HNL := Lib.hid hnl
      have HNS := Lib.hid hns
      have HNF2 := Lib.hid (HNF.out hok)
      clear hok hnl hns HNF
      go_enter Try.func47, Try.ntmps47
      go_wp2_with fail
      refine (ready_spec H1.out).mono ?_
      rw [ho]
      rintro e w1 ⟨rfl, rfl⟩
      go_wp2_with fail
      have hr := noteRight_any n.ph n.bo n.no n.st n.nu A0 n.info.length c0 (w.alloc (.cells #[.int .i64 n.ph, .int .i64 n.bo, .int .i64 n.no, .int .i64 n.st, .int .i64 n.nu, .slice A0 n.info.length c0] 74)) (by omega)
      rw [show noteB n.ph n.bo n.no n.st n.nu n.info.length = true from HOK.out] at hr
      refine hr.mono ?_
      clear hr
      rintro e w2 ⟨rfl, hb1⟩
      have h2 := H1.out.keep hb1
      have y := cells_of (h2.imm_heap HI1.out)
      have y0 := y 0
      have y1 := y 1
      have y2 := y 2
      have y3 := y 3
      have y4 := y 4
      simp at y0 y1 y2 y3 y4
      have H2 := Lib.hid h2
      clear hb1 h2 y
      go_wp2_with fail
      clear y0 y1 y2 y3 y4
      go_loopw [6, 32] (fun a6 a32 wr => ∃ (i : Int) (A : Option Addr) (c : Nat), a32 = .int .i64 i ∧ a6 = .slice A (numsB n i.toNat).length c ∧ 0 ≤ i ∧ i ≤ 5 ∧ St W I1 wr (HP.row 5 1 (.slice A (numsB n i.toNat).length c) (numsB n i.toNat).length ((numsB n i.toNat).map byteV) :: storeHP p S :: l)) (fun _ a32 _ => 5 - (intOf a32).toNat)
      case atStart => exact ⟨0, none, 0, rfl, rfl, by omega, by omega, H2.out.row_nil _ _⟩
      case round =>
        obtain ⟨i, A, c, rfl, rfl, hi0, hi5, hst⟩ := hrel
        by_cases hlt : i < 5
        · have hcs : i = 0 ∨ i = 1 ∨ i = 2 ∨ i = 3 ∨ i = 4 := by omega
          have key : ∀ (b b' : List Int) (x : Int), b' = b ++ putB x 8 → b.length ≤ 1000 → 0 ≤ x → x < 18446744073709551616 → ∀ A c, St W I1 wr (HP.row 5 1 (.slice A b.length c) b.length (b.map byteV) :: storeHP p S :: l) →
              Calls Try.prog 78 #[.slice A b.length c, .int .u64 x, .int .i64 8] wr fun e w' => ∃ A' c', e = .returned (.slice A' b'.length c') ∧ St W I1 w' (HP.row 5 1 (.slice A' b'.length c') b'.length (b'.map byteV) :: storeHP p S :: l) := by
            intro b b' x hb hbl hx0 hx1 A c hst
            have hsrc := SliceSrc.of_owns hst.row_owns (bytes_one b)
            refine (put_spec (.slice A b.length c) b x 8 wr hsrc hx0 hx1 (by omega) (by omega) (by omega)).mono ?_
            rintro e w' ⟨v', rfl, hb2, ho2⟩
            obtain ⟨A', c', rfl⟩ := is_slice ho2
            refine ⟨A', c', ?_, ?_⟩
            · rw [hb]
            · rw [hb]
              exact ((hst.row_fresh hb2 ho2).pull 1 _ rfl).drop
          rcases hcs with rfl | rfl | rfl | rfl | rfl
          · have hK := key (numsB n 0) (numsB n 1) n.ph HNS.out.1 (by have := HNL.out; omega) (by omega) (by omega) A c hst
            have HKK := Lib.hid hK
            clear key hK hst
            go_wp2_with fail
            refine HKK.out.mono ?_
            rintro e w3 ⟨A', c', rfl, h3⟩
            have H3 := Lib.hid h3
            clear h3
            go_wp2_with fail
            go_roundw
            case rel => exact ⟨1, A', c', rfl, rfl, by omega, by omega, H3.out⟩
            case measure => simp [intOf]
          · have hK := key (numsB n 1) (numsB n 2) n.bo HNS.out.2.1 (by have := HNL.out; omega) (by omega) (by omega) A c hst
            have HKK := Lib.hid hK
            clear key hK hst
            go_wp2_with fail
            refine HKK.out.mono ?_
            rintro e w3 ⟨A', c', rfl, h3⟩
            have H3 := Lib.hid h3
            clear h3
            go_wp2_with fail
            go_roundw
            case rel => exact ⟨2, A', c', rfl, rfl, by omega, by omega, H3.out⟩
            case measure => simp [intOf]
          · have hK := key (numsB n 2) (numsB n 3) n.no HNS.out.2.2.1 (by have := HNL.out; omega) (by omega) (by omega) A c hst
            have HKK := Lib.hid hK
            clear key hK hst
            go_wp2_with fail
            refine HKK.out.mono ?_
            rintro e w3 ⟨A', c', rfl, h3⟩
            have H3 := Lib.hid h3
            clear h3
            go_wp2_with fail
            go_roundw
            case rel => exact ⟨3, A', c', rfl, rfl, by omega, by omega, H3.out⟩
            case measure => simp [intOf]
          · have hK := key (numsB n 3) (numsB n 4) n.st HNS.out.2.2.2.1 (by have := HNL.out; omega) (by omega) (by omega) A c hst
            have HKK := Lib.hid hK
            clear key hK hst
            go_wp2_with fail
            refine HKK.out.mono ?_
            rintro e w3 ⟨A', c', rfl, h3⟩
            have H3 := Lib.hid h3
            clear h3
            go_wp2_with fail
            go_roundw
            case rel => exact ⟨4, A', c', rfl, rfl, by omega, by omega, H3.out⟩
            case measure => simp [intOf]
          · have hK := key (numsB n 4) (numsB n 5) n.nu HNS.out.2.2.2.2 (by have := HNL.out; omega) (by omega) (by omega) A c hst
            have HKK := Lib.hid hK
            clear key hK hst
            go_wp2_with fail
            refine HKK.out.mono ?_
            rintro e w3 ⟨A', c', rfl, h3⟩
            have H3 := Lib.hid h3
            clear h3
            go_wp2_with fail
            go_roundw
            case rel => exact ⟨5, A', c', rfl, rfl, by omega, by omega, H3.out⟩
            case measure => simp [intOf]
        · obtain rfl : i = 5 := by omega
          have h5 : St W I1 wr (HP.row 5 1 (.slice A (numsB n 5).length c) (numsB n 5).length ((numsB n 5).map byteV) :: storeHP p S :: l) := hst
          have e5 : (numsB n 5).length = 40 := HNL.out.2.2.2.2.2
          have y5 := cells_of (h5.imm_heap HI1.out) 5
          simp at y5
          obtain ⟨v', w', hr, h6⟩ := St.bytes_append 31 h5 (bytes_src h5 ((bytesIP _ _).mono HS1.out HBS.out)) (by omega)
          have e6 : (numsB n 5).length + n.info.length = (noteBytes n).length := by simp [noteBytes]
          have e7 : (numsB n 5).map byteV ++ n.info.map byteV = (noteBytes n).map byteV := by simp [noteBytes]
          rw [e6, e7] at h6
          obtain ⟨A', c', rfl⟩ := is_slice h6.row_owns
          obtain ⟨I2, hs2, hb2, h7⟩ := h6.freeze_row
          have hb2 : BytesI I2 (.slice A' (noteBytes n).length c') (noteBytes n) := hb2
          have hnb : (noteBytes n).length ≤ 1000000 := by omega
          have HR := Lib.hid hr
          have H7 := Lib.hid h7
          have HS2 := Lib.hid (HS1.out.trans hs2)
          have HNB2 := Lib.hid hb2
          clear hst h5 hr h6 hs2 hb2 h7 e6 e7 e5
          go_wp2_with (at_builtin; refine Lib.wpList_append_run _ rfl (.tmp 40) (.tmp 42) 31 31 rfl _ _ rfl rfl _ _ HR.out ?_)
          refine (rown_spec w').mono ?_
          rintro e w1 ⟨rfl, hb1⟩
          have HB1 := Lib.hid hb1
          have H1 := Lib.hid (H7.out.keep hb1)
          clear hb1
          go_wp2_with fail
          have hc := size_of kN H1.out
          simp only [K4.val, kN] at hc
          refine hc.mono ?_
          clear hc
          rintro e w2 ⟨hb2, rfl⟩
          have HB2 := Lib.hid (HB1.out.trans (hb2.mono HB1.out.size))
          have H2 := Lib.hid (H1.out.keep hb2)
          clear hb2
          by_cases hw : whyS S kN = 0
          · have hw2 : whyS S ⟨6, 0, 0, 0⟩ = 0 := hw
            rw [hw2]
            obtain ⟨y, S2, hset⟩ : ∃ y S2, setS S kN nmN (noteBytes n) = (y, S2) := ⟨_, _, rfl⟩
            have hks := setS_keeps (k := kN) (nm := nmN) (v := noteBytes n) (HK.out.fewer (show m + 2 ≤ m + 4 by omega))
            have hy6 : y ≠ 6 := by have := HNF2.out; rw [if_neg (by simp [hw]), hset] at this; exact this
            have hg : keepS S kN nmN (noteBytes n) = if y ≠ 0 then (y, S2) else barrierS S2 := by
              unfold keepS
              rw [if_neg (by simp [hw]), if_neg (by simp [hw] : ¬ whyS S kN ≠ 0), hset]
            rw [hset] at hks
            have HG := Lib.hid (HG0.out.trans hg)
            have HKS := Lib.hid hks
            have HW := Lib.hid hw
            have HSET := Lib.hid hset
            have hb6 : (y == 6) = false := by simpa using hy6
            clear hw hw2 hg hks hset hy6
            go_wp2_with fail
            refine (rown_spec w2).mono ?_
            rintro e w3 ⟨rfl, hb3⟩
            have HB3 := Lib.hid (HB2.out.trans (hb3.mono HB2.out.size))
            have H3 := Lib.hid (H2.out.keep hb3)
            clear hb3
            go_wp2_with fail
            have hc := set_spec kN nmN _ (noteBytes n) H3.out (HK.out.fewer (Nat.le_refl _)) (bytes_src H3.out HNB2.out) (by omega)
            rw [HSET.out] at hc
            simp only [K4.val, kN, nmN] at hc
            refine hc.mono ?_
            clear hc
            rintro e w4 ⟨I4, hs4, rfl, h4⟩
            have H4 := Lib.hid h4
            have HS4 := Lib.hid hs4
            clear h4 hs4
            by_cases hy : y = 0
            · subst hy
              rw [if_neg (by simp)] at HG
              clear hb6
              go_wp2_with fail
              refine (barrier_spec H4.out HKS.out).mono ?_
              rintro e w5 ⟨I5, hs5, rfl, h5⟩
              have H5 := Lib.hid h5
              have HS5 := Lib.hid hs5
              clear h5 hs5
              go_wp2_with fail
              go_ret
              rw [HG.out]
              exact ⟨I5, (HS2.out.trans HS4.out).trans HS5.out, rfl, H5.out⟩
            · rw [if_pos hy] at HG
              have hb0 : (y != 0) = true := by simpa using hy
              clear hy
              go_wp2_with fail
              go_ret
              rw [HG.out]
              exact ⟨I4, HS2.out.trans HS4.out, rfl, H4.out⟩
          · have hwb : (whyS S ⟨6, 0, 0, 0⟩ != 0) = true := by
              have : whyS S ⟨6, 0, 0, 0⟩ ≠ 0 := hw
              simpa using this
            obtain ⟨z, S1, hmk⟩ : ∃ z S1, makeS S kN = (z, S1) := ⟨_, _, rfl⟩
            obtain ⟨y, S2, hset⟩ : ∃ y S2, setS S1 kN nmN (noteBytes n) = (y, S2) := ⟨_, _, rfl⟩
            have hkm : Keeps (makeS S kN).2 (m + 2) := makeS_keeps HK.out
            rw [hmk] at hkm
            have hks := setS_keeps (k := kN) (nm := nmN) (v := noteBytes n) hkm
            have hy6 : y ≠ 6 := by have := HNF2.out; rw [if_pos hw, hmk, hset] at this; exact this
            have hg : keepS S kN nmN (noteBytes n) = if z ≠ 0 then (z, S1) else if y ≠ 0 then (y, S2) else barrierS S2 := by
              unfold keepS
              rw [if_pos hw, hmk, hset]
              by_cases hz : z = 0
              · subst hz
                rw [if_neg (by simp)]
                rfl
              · rw [if_pos ⟨hw, hz⟩, if_pos hz]
            rw [hset] at hks
            have HG := Lib.hid (HG0.out.trans hg)
            have HKM := Lib.hid hkm
            have HKS := Lib.hid hks
            have HSET := Lib.hid hset
            have HMK := Lib.hid hmk
            have hb6 : (y == 6) = false := by simpa using hy6
            clear hw hg hkm hks hset hmk hy6
            go_wp2_with fail
            refine (rown_spec w2).mono ?_
            rintro e w3 ⟨rfl, hb3⟩
            have HB3 := Lib.hid (HB2.out.trans (hb3.mono HB2.out.size))
            have H3 := Lib.hid (H2.out.keep hb3)
            clear hb3
            go_wp2_with fail
            have hc := make_spec kN H3.out HK.out
            rw [HMK.out] at hc
            simp only [K4.val, kN] at hc
            refine hc.mono ?_
            clear hc
            rintro e w4 ⟨I4, hs4, rfl, h4⟩
            have H4 := Lib.hid h4
            have HS4 := Lib.hid hs4
            clear h4 hs4
            by_cases hz : z = 0
            · subst hz
              rw [if_neg (by simp)] at HG
              go_wp2_with fail
              refine (rown_spec w4).mono ?_
              rintro e w5 ⟨rfl, hb5⟩
              have HB5 := Lib.hid hb5
              have H5 := Lib.hid (H4.out.keep hb5)
              clear hb5
              go_wp2_with fail
              have hc := set_spec kN nmN _ (noteBytes n) H5.out HKM.out (bytes_src H5.out ((bytesIP _ _).mono HS4.out HNB2.out)) (by omega)
              rw [HSET.out] at hc
              simp only [K4.val, kN, nmN] at hc
              refine hc.mono ?_
              clear hc
              rintro e w6 ⟨I6, hs6, rfl, h6⟩
              have H6 := Lib.hid h6
              have HS6 := Lib.hid hs6
              clear h6 hs6
              by_cases hy : y = 0
              · subst hy
                rw [if_neg (by simp)] at HG
                clear hb6
                go_wp2_with fail
                refine (barrier_spec H6.out HKS.out).mono ?_
                rintro e w7 ⟨I7, hs7, rfl, h7⟩
                have H7 := Lib.hid h7
                have HS7 := Lib.hid hs7
                clear h7 hs7
                go_wp2_with fail
                go_ret
                rw [HG.out]
                exact ⟨I7, ((HS2.out.trans HS4.out).trans HS6.out).trans HS7.out, rfl, H7.out⟩
              · rw [if_pos hy] at HG
                have hb0 : (y != 0) = true := by simpa using hy
                clear hy
                go_wp2_with fail
                go_ret
                rw [HG.out]
                exact ⟨I6, (HS2.out.trans HS4.out).trans HS6.out, rfl, H6.out⟩
            · rw [if_pos hz] at HG
              have hz0 : (z != 0) = true := by simpa using hz
              clear hz
              go_wp2_with fail
              go_ret
              rw [HG.out]
              exact ⟨I4, HS2.out.trans HS4.out, rfl, H4.out⟩
end
end Go.Proofs.Ytnokhjhhadnckaa
/- What is kept of notes: saved, or refused, or the one ahead. No program in sight. -/
namespace Go.Proofs.Ytnokhjhhadnckaa
open Go.RowKit
def optB : Option Nt → List Int
  | none => []
  | some n => noteBytes n
def optOk : Option Nt → Prop
  | none => True
  | some n => n.okB = true ∧ ∀ x ∈ n.info, isByte x
/-- The store has the note's object alone, all of it dry; o is the note that was saved last. -/
structure NtJ (S : Str) (o : Option Nt) : Prop where
  room : S.room = 65536
  one : ∃ x, One S kN x x [] ∧ objV nmN x (optB o)
  ok : optOk o
/-- The same, whatever its room. -/
structure NtK (S : Str) (o : Option Nt) : Prop where
  one : ∃ x, One S kN x x [] ∧ objV nmN x (optB o)
  ok : optOk o
theorem NtJ.k {S : Str} {o : Option Nt} (h : NtJ S o) : NtK S o := ⟨h.one, h.ok⟩
theorem noteBytes_length (n : Nt) : (noteBytes n).length = 40 + n.info.length := by
  unfold noteBytes
  rw [List.length_append, (numsB_length n).2.2.2.2.2]
theorem optB_len {o : Option Nt} (h : optOk o) : (optB o).length ≤ 1540 := by
  cases o with
  | none => simp [optB]
  | some n =>
    have := (Nt.bounds h.1).2.2.2.2.2
    show (noteBytes n).length ≤ 1540
    rw [noteBytes_length]; omega
theorem NtJ.new : NtJ (newS 65536) none := ⟨rfl, ⟨none, One.new 65536 kN, .inl ⟨rfl, rfl⟩⟩, trivial⟩
theorem kN_ok : kN.ok = true := by decide
theorem NtJ.power {S : Str} {o : Option Nt} (h : NtJ S o) : NtJ (powerS S) o := by
  obtain ⟨x, h1, h2⟩ := h.one
  exact ⟨h.room, ⟨x, h1.power, h2⟩, h.ok⟩
theorem NtJ.fuse {S : Str} {o : Option Nt} (h : NtJ S o) (n : Int) (keep : List Int) (torn : Int) : NtJ (fuseS S n keep torn) o := by
  obtain ⟨x, h1, h2⟩ := h.one
  refine ⟨?_, ⟨x, h1.fuse n keep torn, h2⟩, h.ok⟩
  unfold fuseS
  split <;> exact h.room
theorem NtJ.fall {S : Str} {o : Option Nt} (h : NtJ S o) (hon : S.on = true) (keep : List Int) (torn : Int) : NtJ (fallS S keep torn).1 o ∧ (fallS S keep torn).1.on = false ∧ (fallS S keep torn).1.armed = false := by
  obtain ⟨x, h1, h2⟩ := h.one
  have hl := optB_len h.ok
  have hf : fine x := by
    rcases h2 with ⟨rfl, _⟩ | rfl
    · exact none_fine
    · exact kObj_fine nmN _ (by decide) (by omega)
  have hs : stays x [] (keepAt keep 0) torn = x := by simp [stays]
  obtain ⟨g1, g2, g3, g4⟩ := h1.fell hon keep torn hf (by rw [hs]; exact hf)
  rw [hs] at g1
  exact ⟨⟨g3.trans h.room, ⟨x, g1, h2⟩, h.ok⟩, g2, g4⟩
theorem NtJ.keep {S : Str} {o : Option Nt} {n : Nt} (h : NtJ S o) (hon : S.on = true) (hn : n.okB = true) (hb : ∀ x ∈ n.info, isByte x) :
    (setS (if whyS S kN ≠ 0 then (makeS S kN).2 else S) kN nmN (noteBytes n)).1 ≠ 6 ∧
    (((keepS S kN nmN (noteBytes n)).1 = 0 ∧ (keepS S kN nmN (noteBytes n)).2.on = true ∧ NtJ (keepS S kN nmN (noteBytes n)).2 (some n) ∧ (keepS S kN nmN (noteBytes n)).2.armed = S.armed) ∨
     (S.armed = true ∧ (keepS S kN nmN (noteBytes n)).1 = 7 ∧ (keepS S kN nmN (noteBytes n)).2.on = false ∧ (keepS S kN nmN (noteBytes n)).2.armed = false ∧ ∃ q, NtJ (keepS S kN nmN (noteBytes n)).2 q ∧ (q = o ∨ q = some n))) := by
  obtain ⟨x, h1, h2⟩ := h.one
  have hv := optB_len h.ok
  have hl : (noteBytes n).length ≤ 1540 := optB_len (o := some n) ⟨hn, hb⟩
  obtain ⟨q1, q2⟩ := keep_law (b := noteBytes n) h1 h2 hon kN_ok (by decide) (by decide) (by omega) (by omega) (by rw [h.room]; show ((1 : Nat) : Int) + _ ≤ _; omega) (by rw [h.room]; decide)
  refine ⟨q1, ?_⟩
  rcases q2 with ⟨r1, r2, r3, r4, r5⟩ | ⟨r0, r1, r2, r3, r4, z, r5, r6⟩
  · exact .inl ⟨r1, r2, ⟨r4.trans h.room, ⟨_, r3, .inr rfl⟩, ⟨hn, hb⟩⟩, r5⟩
  · refine .inr ⟨r0, r1, r2, r4, ?_⟩
    rcases r6 with r6 | r6
    · exact ⟨o, ⟨r3.trans h.room, ⟨z, r5, r6⟩, h.ok⟩, .inl rfl⟩
    · exact ⟨some n, ⟨r3.trans h.room, ⟨z, r5, r6⟩, ⟨hn, hb⟩⟩, .inr rfl⟩
theorem NtJ.notfull {S : Str} {o : Option Nt} {n : Nt} (h : NtJ S o) (hn : n.okB = true) (hb : ∀ x ∈ n.info, isByte x) : (setS (if whyS S kN ≠ 0 then (makeS S kN).2 else S) kN nmN (noteBytes n)).1 ≠ 6 := by
  cases hon : S.on with
  | true => exact (h.keep hon hn hb).1
  | false =>
    have hm : mayS S kN = 7 := by simp [mayS, hon]
    have hw : whyS S kN = 7 := by unfold whyS; rw [hm]; rfl
    have hk : makeS S kN = (7, S) := by simp [makeS, hw]
    rw [if_pos (by rw [hw]; decide), hk, setS_why (by rw [hw]; decide), hw]
    show (7 : Int) ≠ 6
    decide
/-- The attribute that a Load reads. -/
theorem NtK.attr {S : Str} {o : Option Nt} (h : NtK S o) (hon : S.on = true) : attrS S kN nmN = match (motive := Option Nt → List Int × Int) o with | none => ([], 4) | some n => (noteBytes n, 0) := by
  obtain ⟨x, h1, h2⟩ := h.one
  have hm := may_of hon kN_ok
  have hg := h1.get
  rcases h2 with ⟨rfl, hv⟩ | rfl
  · have hw : whyS S kN = 4 := by unfold whyS; rw [if_pos hm, hg]; rfl
    cases o with
    | none => simp [attrS, hw]
    | some n =>
      have := noteBytes_length n
      have hv : noteBytes n = [] := hv
      rw [hv] at this
      simp at this
      omega
  · have hw : whyS S kN = 0 := by unfold whyS; rw [if_pos hm, hg]; rfl
    unfold attrS
    rw [if_pos hw, hg]
    unfold kObj
    cases o with
    | none => rfl
    | some n =>
      have h0 : noteBytes n ≠ [] := fun e => by
        have := noteBytes_length n
        rw [e] at this
        simp at this
        omega
      have hb : optB (some n) = noteBytes n := rfl
      simp [hb, h0, get]
theorem NtK.attr_off {S : Str} (hon : S.on = false) : attrS S kN nmN = ([], 7) := by
  have hm : mayS S kN = 7 := by simp [mayS, hon]
  have hw : whyS S kN = 7 := by unfold whyS; rw [hm]; rfl
  simp [attrS, hw]
theorem num_back (n : Nt) (h : n.okB = true) : IntKind.i64.wrap (getB (((noteBytes n).drop 0).take 8)) = n.ph ∧ IntKind.i64.wrap (getB (((noteBytes n).drop 8).take 8)) = n.bo ∧ IntKind.i64.wrap (getB (((noteBytes n).drop 16).take 8)) = n.no ∧ IntKind.i64.wrap (getB (((noteBytes n).drop 24).take 8)) = n.st ∧ IntKind.i64.wrap (getB (((noteBytes n).drop 32).take 8)) = n.nu ∧ (noteBytes n).drop 40 = n.info := by
  obtain ⟨⟨q0, q0'⟩, ⟨q1, q1'⟩, ⟨q2, q2'⟩, ⟨q3, q3'⟩, ⟨q4, q4'⟩, q5⟩ := Nt.bounds h
  have key : ∀ (a b : List Int) (x : Int) (k : Nat), a.length = k → 0 ≤ x → x ≤ 1099511627776 → IntKind.i64.wrap (getB (((a ++ (putB x 8 ++ b)).drop k).take 8)) = x := fun a b x k ha hx0 hx1 => by
    rw [← ha, List.drop_left, List.take_left' (putB_length x 8), getB_put 8 x hx0 (by omega), IntKind.wrap_i64]
    omega
  have e : noteBytes n = putB n.ph 8 ++ (putB n.bo 8 ++ (putB n.no 8 ++ (putB n.st 8 ++ (putB n.nu 8 ++ n.info)))) := by simp [noteBytes, numsB, Nt.nums]
  have L := putB_length
  rw [e]
  refine ⟨?_, ?_, ?_, ?_, ?_, ?_⟩
  · exact key [] _ n.ph 0 rfl (by omega) (by omega)
  · exact key (putB n.ph 8) _ n.bo 8 (L _ _) (by omega) (by omega)
  · rw [← List.append_assoc]; exact key (putB n.ph 8 ++ putB n.bo 8) _ n.no 16 (by simp [L]) (by omega) (by omega)
  · rw [← List.append_assoc, ← List.append_assoc]; exact key (putB n.ph 8 ++ putB n.bo 8 ++ putB n.no 8) _ n.st 24 (by simp [L]) (by omega) (by omega)
  · rw [← List.append_assoc, ← List.append_assoc, ← List.append_assoc]; exact key (putB n.ph 8 ++ putB n.bo 8 ++ putB n.no 8 ++ putB n.st 8) _ n.nu 32 (by simp [L]) (by omega) (by omega)
  · rw [← List.append_assoc, ← List.append_assoc, ← List.append_assoc, ← List.append_assoc]
    exact List.drop_left' (by simp [L])
end Go.Proofs.Ytnokhjhhadnckaa
/- role.Load of a store that keeps notes alone. -/
namespace Go.Proofs.Ytnokhjhhadnckaa
open Go.RowKit
def zN : Nt := ⟨0, 0, 0, 0, 0, []⟩
def loadS (S : Str) (o : Option Nt) : Nt × Int := if S.on = false then (zN, 7) else match o with | none => (zN, 4) | some n => (n, 0)
def ntUpto (n : Nt) (i : Int) : Array Value := #[if 0 < i then .int .i64 n.ph else .int .i64 0, if 1 < i then .int .i64 n.bo else .int .i64 0, if 2 < i then .int .i64 n.no else .int .i64 0, if 3 < i then .int .i64 n.st else .int .i64 0, if 4 < i then .int .i64 n.nu else .int .i64 0, .slice none 0 0]
section
variable {W w : World} {I : Hp} {l : List HP} {p : Nat} {S : Str}
set_option maxRecDepth 4000
set_option maxHeartbeats 4000000
theorem St.set6 {b : Nat} {c0 c1 c2 c3 c4 c5 : Value} {t : TypeId} {f : Nat × Nat} (h : St W I w (HP.pt b (.cells #[c0, c1, c2, c3, c4, c5] t f) :: l)) (v0 v1 v2 v3 v4 v5 : Value) :
    St W I ((((((w.setCell ⟨b, 0, none⟩ v0).setCell ⟨b, 1, none⟩ v1).setCell ⟨b, 2, none⟩ v2).setCell ⟨b, 3, none⟩ v3).setCell ⟨b, 4, none⟩ v4).setCell ⟨b, 5, none⟩ v5) (HP.pt b (.cells #[v0, v1, v2, v3, v4, v5] t f) :: l) := by
  have h1 := h.setCell 0 v0
  have h2 := h1.setCell 1 v1
  have h3 := h2.setCell 2 v2
  have h4 := h3.setCell 3 v3
  have h5 := h4.setCell 4 v4
  have h6 := h5.setCell 5 v5
  simp only [List.setIfInBounds_toArray, List.set_cons_zero, List.set_cons_succ] at h6
  exact h6
theorem getn_spec (v : Value) (b : List Int) (a : Int) (x : Int) (w : World) (hs : SliceSrc w 1 v b.length (b.map byteV)) (hb : ∀ x ∈ b, isByte x) (h0 : 0 ≤ a) (hl : a + 8 ≤ b.length) (hbl : b.length ≤ 1000000) (hx : IntKind.i64.wrap (getB ((b.drop a.toNat).take 8)) = x) :
    Calls Try.prog 81 #[v, .int .i64 a, .int .i64 8] w fun e w' => ∃ n, e = .returned (.tuple #[.int .u64 n, .bool true]) ∧ IntKind.i64.wrap n = x ∧ w = w' := by
  obtain ⟨k, rfl⟩ : ∃ k : Nat, a = k := ⟨a.toNat, by omega⟩
  refine (get_ok v b k 8 w hs hb (by decide) (by decide) (by omega) hbl).mono ?_
  rintro e w' ⟨rfl, rfl⟩
  exact ⟨_, rfl, hx, rfl⟩
theorem load_spec (o : Option Nt) {m : Nat} (h : St W I w (storeHP p S :: l)) (hk : Inv S m) (hj : NtK S o) :
    Calls Try.prog 48 #[.pointer (some ⟨p, 0, none⟩)] w fun e w' => ∃ I' A c, I.sub I' ∧ e = .returned (.tuple #[.agg #[.int .i64 (loadS S o).1.ph, .int .i64 (loadS S o).1.bo, .int .i64 (loadS S o).1.no, .int .i64 (loadS S o).1.st, .int .i64 (loadS S o).1.nu, .slice A (loadS S o).1.info.length c], .int .i64 (loadS S o).2]) ∧ St W I' w' (storeHP p S :: l) ∧ BytesI I' (.slice A (loadS S o).1.info.length c) (loadS S o).1.info := by
  have h0 : St W I (w.alloc (.cells #[.int .i64 0, .int .i64 0, .int .i64 0, .int .i64 0, .int .i64 0, .slice none 0 0] 74)) (storeHP p S :: HP.pt w.heap.size (.cells #[.int .i64 0, .int .i64 0, .int .i64 0, .int .i64 0, .int .i64 0, .slice none 0 0] 74) :: l) := (h.alloc (.cells #[.int .i64 0, .int .i64 0, .int .i64 0, .int .i64 0, .int .i64 0, .slice none 0 0] 74)).pull 1 _ rfl
  have H0 := Lib.hid h0
  clear h0
  have HJ := Lib.hid hj
  have HK := Lib.hid hk
  clear h hk hj
  cases ho : S.on with
  | false =>
    have HL := Lib.hid (show loadS S o = (zN, 7) by simp [loadS, ho])
    go_enter Try.func48, Try.ntmps48
    go_wp2_with fail
    refine (ready_spec H0.out).mono ?_
    rw [ho]
    rintro e w1 ⟨rfl, rfl⟩
    go_wp2_with fail
    refine bodyPost_ret (v := .tuple #[.agg #[.int .i64 0, .int .i64 0, .int .i64 0, .int .i64 0, .int .i64 0, .slice none 0 0], .int .i64 7]) (by simp [results, Try.results48, go_sem]) rfl ?_
    rw [HL.out]
    exact ⟨I, none, 0, Hp.sub.refl _, rfl, H0.out.perm (List.Perm.swap _ _ _) |>.drop, bytes_nil I⟩
  | true =>
    go_enter Try.func48, Try.ntmps48
    go_wp2_with fail
    refine (ready_spec H0.out).mono ?_
    rw [ho]
    rintro e w1 ⟨rfl, rfl⟩
    go_wp2_with fail
    refine (rown_spec _).mono ?_
    rintro e w2 ⟨rfl, hb2⟩
    have H2 := Lib.hid (H0.out.keep hb2)
    clear hb2
    go_wp2_with fail
    have hc := attr_spec kN nmN H2.out HK.out
    rw [HJ.out.attr ho] at hc
    simp only [K4.val, kN, nmN] at hc
    cases o with
    | none =>
      have HL := Lib.hid (show loadS S none = (zN, 4) by simp [loadS, ho])
      refine hc.mono ?_
      clear hc
      rintro e w3 ⟨hb3, v3, rfl, ho3⟩
      obtain ⟨A3, c3, rfl⟩ := is_slice ho3
      have h3 := H2.out.keep hb3
      have y := cells_of (h3.pull 1 _ rfl).heap
      have y0 := y 0
      have y1 := y 1
      have y2 := y 2
      have y3 := y 3
      have y4 := y 4
      have y5 := y 5
      simp at y0 y1 y2 y3 y4 y5
      have f := frozen_of_row (h3.pull 1 _ rfl).heap
      have H3 := Lib.hid h3
      clear y ho3 hb3 h3
      go_wp2_with fail
      have h6 := St.set6 (H3.out.pull 1 _ rfl) (.int .i64 0) (.int .i64 0) (.int .i64 0) (.int .i64 0) (.int .i64 0) (.slice none 0 0)
      generalize (World.setCell _ _ _ : World) = w6 at h6 ⊢
      have y := cells_of h6.heap
      have y0 := y 0
      have y1 := y 1
      have y2 := y 2
      have y3 := y 3
      have y4 := y 4
      have y5 := y 5
      simp at y0 y1 y2 y3 y4 y5
      refine bodyPost_ret (v := .tuple #[.agg #[.int .i64 0, .int .i64 0, .int .i64 0, .int .i64 0, .int .i64 0, .slice none 0 0], .int .i64 4]) (by simp [results, Try.results48, go_sem, y0, y1, y2, y3, y4, y5]) rfl ?_
      rw [HL.out]
      exact ⟨I, none, 0, Hp.sub.refl _, rfl, h6.drop, bytes_nil I⟩
    | some n =>
      have HL := Lib.hid (show loadS S (some n) = (n, 0) by simp [loadS, ho])
      have hok := HJ.out.ok
      have hnb := noteBytes_length n
      have hil := (Nt.bounds hok.1).2.2.2.2.2
      have HNB := Lib.hid (num_back n hok.1)
      have HBY : Hid (∀ x ∈ noteBytes n, isByte x) := Lib.hid fun x hx => by
        rcases List.mem_append.1 hx with hx | hx
        · obtain ⟨y, _, hy⟩ := List.mem_flatMap.1 hx
          exact putB_bytes y 8 x hy
        · exact hok.2 x hx
      have HNL := Lib.hid hnb
      have HIL := Lib.hid hil
      clear hnb hil
      dsimp only at hc
      refine hc.mono ?_
      clear hc
      rintro e w3 ⟨hb3, v3, rfl, ho3⟩
      have hsrc := SliceSrc.of_owns ho3 (bytes_one (noteBytes n))
      obtain ⟨A3, c3, rfl⟩ := is_slice ho3
      obtain ⟨I3, hs3, hB3, h3⟩ := own_at_call H2.out hb3 ho3
      have HS3 := Lib.hid hs3
      have HB3 := Lib.hid hB3
      have H3 := Lib.hid h3
      clear ho3 hb3 h3 hsrc hs3 hB3 hok
      go_wp2_with fail
      have i0 : ∀ w : World, (Instr.index 142 (.agg #[.pointer (some ⟨w3.heap.size, 0, none⟩), .pointer (some ⟨w3.heap.size, 1, none⟩), .pointer (some ⟨w3.heap.size, 2, none⟩), .pointer (some ⟨w3.heap.size, 3, none⟩), .pointer (some ⟨w3.heap.size, 4, none⟩)]) (.int .i64 0)).run Try.prog w = .ok (.pointer (some ⟨w3.heap.size, 0, none⟩)) w := fun _ => by kernel_rfl
      have i1 : ∀ w : World, (Instr.index 142 (.agg #[.pointer (some ⟨w3.heap.size, 0, none⟩), .pointer (some ⟨w3.heap.size, 1, none⟩), .pointer (some ⟨w3.heap.size, 2, none⟩), .pointer (some ⟨w3.heap.size, 3, none⟩), .pointer (some ⟨w3.heap.size, 4, none⟩)]) (.int .i64 1)).run Try.prog w = .ok (.pointer (some ⟨w3.heap.size, 1, none⟩)) w := fun _ => by kernel_rfl
      have i2 : ∀ w : World, (Instr.index 142 (.agg #[.pointer (some ⟨w3.heap.size, 0, none⟩), .pointer (some ⟨w3.heap.size, 1, none⟩), .pointer (some ⟨w3.heap.size, 2, none⟩), .pointer (some ⟨w3.heap.size, 3, none⟩), .pointer (some ⟨w3.heap.size, 4, none⟩)]) (.int .i64 2)).run Try.prog w = .ok (.pointer (some ⟨w3.heap.size, 2, none⟩)) w := fun _ => by kernel_rfl
      have i3 : ∀ w : World, (Instr.index 142 (.agg #[.pointer (some ⟨w3.heap.size, 0, none⟩), .pointer (some ⟨w3.heap.size, 1, none⟩), .pointer (some ⟨w3.heap.size, 2, none⟩), .pointer (some ⟨w3.heap.size, 3, none⟩), .pointer (some ⟨w3.heap.size, 4, none⟩)]) (.int .i64 3)).run Try.prog w = .ok (.pointer (some ⟨w3.heap.size, 3, none⟩)) w := fun _ => by kernel_rfl
      have i4 : ∀ w : World, (Instr.index 142 (.agg #[.pointer (some ⟨w3.heap.size, 0, none⟩), .pointer (some ⟨w3.heap.size, 1, none⟩), .pointer (some ⟨w3.heap.size, 2, none⟩), .pointer (some ⟨w3.heap.size, 3, none⟩), .pointer (some ⟨w3.heap.size, 4, none⟩)]) (.int .i64 4)).run Try.prog w = .ok (.pointer (some ⟨w3.heap.size, 4, none⟩)) w := fun _ => by kernel_rfl
      go_loopw [8, 35] (fun a8 a35 wr => ∃ i : Int, a35 = .int .i64 i ∧ a8 = .int .i64 (8 * i) ∧ 0 ≤ i ∧ i ≤ 5 ∧ St W I3 wr (HP.pt w3.heap.size (.cells (ntUpto n i) 74) :: storeHP p S :: HP.pt w.heap.size (.cells #[.int .i64 0, .int .i64 0, .int .i64 0, .int .i64 0, .int .i64 0, .slice none 0 0] 74) :: l)) (fun _ a35 _ => 5 - (intOf a35).toNat)
      case atStart => exact ⟨0, rfl, rfl, by omega, by omega, H3.out.alloc _⟩
      case round =>
       obtain ⟨i, rfl, rfl, hi0, hi5, hst⟩ := hrel
       by_cases hlt : i < 5
       · have hcs : i = 0 ∨ i = 1 ∨ i = 2 ∨ i = 3 ∨ i = 4 := by omega
         clear hlt hi0 hi5
         rcases hcs with rfl | rfl | rfl | rfl | rfl
         · have hst : St W I3 wr (HP.pt w3.heap.size (.cells #[.int .i64 0, .int .i64 0, .int .i64 0, .int .i64 0, .int .i64 0, .slice none 0 0] 74) :: storeHP p S :: HP.pt w.heap.size (.cells #[.int .i64 0, .int .i64 0, .int .i64 0, .int .i64 0, .int .i64 0, .slice none 0 0] 74) :: l) := hst
           have f := frozen_of_row hst.heap
           have y := cells_of hst.heap 0
           simp at y
           have hg := getn_spec (.slice A3 (noteBytes n).length c3) (noteBytes n) 0 n.ph wr (bytes_src hst HB3.out) HBY.out (by omega) (by have := HNL.out; omega) (by have := HNL.out; have := HIL.out; omega) HNB.out.1
           have h2 := hst.setCell 0 (.int .i64 n.ph)
           simp only [List.setIfInBounds_toArray, List.set_cons_zero, List.set_cons_succ] at h2
           have HG := Lib.hid hg
           have H2' := Lib.hid h2
           clear hst hg h2
           go_wp2_with fail
           refine HG.out.mono ?_
           clear HG
           rintro e w5 ⟨u, rfl, hu, rfl⟩
           go_wp2_with fail
           go_roundw
           case rel => exact ⟨1, rfl, rfl, by omega, by omega, H2'.out⟩
           case measure => simp [intOf]
         · have hst : St W I3 wr (HP.pt w3.heap.size (.cells #[.int .i64 n.ph, .int .i64 0, .int .i64 0, .int .i64 0, .int .i64 0, .slice none 0 0] 74) :: storeHP p S :: HP.pt w.heap.size (.cells #[.int .i64 0, .int .i64 0, .int .i64 0, .int .i64 0, .int .i64 0, .slice none 0 0] 74) :: l) := hst
           have f := frozen_of_row hst.heap
           have y := cells_of hst.heap 1
           simp at y
           have hg := getn_spec (.slice A3 (noteBytes n).length c3) (noteBytes n) 8 n.bo wr (bytes_src hst HB3.out) HBY.out (by omega) (by have := HNL.out; omega) (by have := HNL.out; have := HIL.out; omega) HNB.out.2.1
           have h2 := hst.setCell 1 (.int .i64 n.bo)
           simp only [List.setIfInBounds_toArray, List.set_cons_zero, List.set_cons_succ] at h2
           have HG := Lib.hid hg
           have H2' := Lib.hid h2
           clear hst hg h2
           go_wp2_with fail
           refine HG.out.mono ?_
           clear HG
           rintro e w5 ⟨u, rfl, hu, rfl⟩
           go_wp2_with fail
           go_roundw
           case rel => exact ⟨2, rfl, rfl, by omega, by omega, H2'.out⟩
           case measure => simp [intOf]
         · have hst : St W I3 wr (HP.pt w3.heap.size (.cells #[.int .i64 n.ph, .int .i64 n.bo, .int .i64 0, .int .i64 0, .int .i64 0, .slice none 0 0] 74) :: storeHP p S :: HP.pt w.heap.size (.cells #[.int .i64 0, .int .i64 0, .int .i64 0, .int .i64 0, .int .i64 0, .slice none 0 0] 74) :: l) := hst
           have f := frozen_of_row hst.heap
           have y := cells_of hst.heap 2
           simp at y
           have hg := getn_spec (.slice A3 (noteBytes n).length c3) (noteBytes n) 16 n.no wr (bytes_src hst HB3.out) HBY.out (by omega) (by have := HNL.out; omega) (by have := HNL.out; have := HIL.out; omega) HNB.out.2.2.1
           have h2 := hst.setCell 2 (.int .i64 n.no)
           simp only [List.setIfInBounds_toArray, List.set_cons_zero, List.set_cons_succ] at h2
           have HG := Lib.hid hg
           have H2' := Lib.hid h2
           clear hst hg h2
           go_wp2_with fail
           refine HG.out.mono ?_
           clear HG
           rintro e w5 ⟨u, rfl, hu, rfl⟩
           go_wp2_with fail
           go_roundw
           case rel => exact ⟨3, rfl, rfl, by omega, by omega, H2'.out⟩
           case measure => simp [intOf]
         · have hst : St W I3 wr (HP.pt w3.heap.size (.cells #[.int .i64 n.ph, .int .i64 n.bo, .int .i64 n.no, .int .i64 0, .int .i64 0, .slice none 0 0] 74) :: storeHP p S :: HP.pt w.heap.size (.cells #[.int .i64 0, .int .i64 0, .int .i64 0, .int .i64 0, .int .i64 0, .slice none 0 0] 74) :: l) := hst
           have f := frozen_of_row hst.heap
           have y := cells_of hst.heap 3
           simp at y
           have hg := getn_spec (.slice A3 (noteBytes n).length c3) (noteBytes n) 24 n.st wr (bytes_src hst HB3.out) HBY.out (by omega) (by have := HNL.out; omega) (by have := HNL.out; have := HIL.out; omega) HNB.out.2.2.2.1
           have h2 := hst.setCell 3 (.int .i64 n.st)
           simp only [List.setIfInBounds_toArray, List.set_cons_zero, List.set_cons_succ] at h2
           have HG := Lib.hid hg
           have H2' := Lib.hid h2
           clear hst hg h2
           go_wp2_with fail
           refine HG.out.mono ?_
           clear HG
           rintro e w5 ⟨u, rfl, hu, rfl⟩
           go_wp2_with fail
           go_roundw
           case rel => exact ⟨4, rfl, rfl, by omega, by omega, H2'.out⟩
           case measure => simp [intOf]
         · have hst : St W I3 wr (HP.pt w3.heap.size (.cells #[.int .i64 n.ph, .int .i64 n.bo, .int .i64 n.no, .int .i64 n.st, .int .i64 0, .slice none 0 0] 74) :: storeHP p S :: HP.pt w.heap.size (.cells #[.int .i64 0, .int .i64 0, .int .i64 0, .int .i64 0, .int .i64 0, .slice none 0 0] 74) :: l) := hst
           have f := frozen_of_row hst.heap
           have y := cells_of hst.heap 4
           simp at y
           have hg := getn_spec (.slice A3 (noteBytes n).length c3) (noteBytes n) 32 n.nu wr (bytes_src hst HB3.out) HBY.out (by omega) (by have := HNL.out; omega) (by have := HNL.out; have := HIL.out; omega) HNB.out.2.2.2.2.1
           have h2 := hst.setCell 4 (.int .i64 n.nu)
           simp only [List.setIfInBounds_toArray, List.set_cons_zero, List.set_cons_succ] at h2
           have HG := Lib.hid hg
           have H2' := Lib.hid h2
           clear hst hg h2
           go_wp2_with fail
           refine HG.out.mono ?_
           clear HG
           rintro e w5 ⟨u, rfl, hu, rfl⟩
           go_wp2_with fail
           go_roundw
           case rel => exact ⟨5, rfl, rfl, by omega, by omega, H2'.out⟩
           case measure => simp [intOf]

       · obtain rfl : i = 5 := by omega
         have hst : St W I3 wr (HP.pt w3.heap.size (.cells #[.int .i64 n.ph, .int .i64 n.bo, .int .i64 n.no, .int .i64 n.st, .int .i64 n.nu, .slice none 0 0] 74) :: storeHP p S :: HP.pt w.heap.size (.cells #[.int .i64 0, .int .i64 0, .int .i64 0, .int .i64 0, .int .i64 0, .slice none 0 0] 74) :: l) := hst
         have hsrc := bytes_src hst HB3.out
         obtain ⟨A', c', e1, _, hcap, _⟩ := HB3.out
         simp only [Value.slice.injEq, true_and] at e1
         obtain ⟨rfl, rfl⟩ := e1
         obtain ⟨j, hj⟩ : ∃ j, (noteBytes n).length = j := ⟨_, rfl⟩
         have hj40 : j = 40 + n.info.length := hj.symm.trans HNL.out
         have hps := sliced_src (lo := 40) (hi := (noteBytes n).length) hsrc hcap (by have := HNL.out; omega) (Nat.le_refl _)
         rw [Nat.mul_one, Nat.mul_one, show (noteBytes n).length - 40 = n.info.length by have := HNL.out; omega, ← List.map_drop, ← List.map_take, HNB.out.2.2.2.2.2, List.take_of_length_le (Nat.le_refl _)] at hps
         have HPS := Lib.hid hps
         have HST := Lib.hid hst
         have hj1 : 40 ≤ j := by omega
         have hj2 : (40 : Int) ≤ (j : Int) := by omega
         have hmin : min (40 : Int) (j : Int) = 40 := by omega
         rw [hj] at hcap
         rw [hj]
         have hsub : j - 40 = n.info.length := by omega
         have hjs : j ≤ 10000 := by have := HIL.out; omega
         have HJ40 := Lib.hid hj40
         clear hst hsrc hps hlt hi0 hi5 hj hj40
         by_cases hco : c3 = 40
         · have HSM : Hid (SliceSrc wr 1 (.slice A3 n.info.length 0) n.info.length (n.info.map byteV)) := Lib.hid (by have := HPS.out; have e : (noteBytes n).length - 40 = n.info.length := (by have := HNL.out; omega); simpa [sliced, hco, e] using this)
           clear HPS
           go_wp2_with fail
           refine (cloneB_spec _ _ _ _ HSM.out (by have := HIL.out; omega)).mono ?_
           rintro e w4 ⟨v4, rfl, ho4, hb4⟩
           obtain ⟨A4, c4, rfl⟩ := is_slice ho4
           obtain ⟨I4, hs4, hB4, h4⟩ := own_at_call HST.out hb4 ho4
           have y := cells_of h4.heap
           have y0 := y 0
           have y1 := y 1
           have y2 := y 2
           have y3 := y 3
           have y4 := y 4
           have y5 := y 5
           simp at y0 y1 y2 y3 y4 y5
           have f := frozen_of_row h4.heap
           have z := cells_of (h4.pull 2 _ rfl).heap
           have z0 := z 0
           have z1 := z 1
           have z2 := z 2
           have z3 := z 3
           have z4 := z 4
           have z5 := z 5
           simp at z0 z1 z2 z3 z4 z5
           have f2 := frozen_of_row (h4.pull 2 _ rfl).heap
           have hne := (h4.perm (show List.Perm _ (HP.pt w3.heap.size _ :: HP.pt w.heap.size _ :: storeHP p S :: l) from (List.Perm.swap _ _ _).cons _)).ne
           have h5 := h4.setCell 5 (.slice A4 n.info.length c4)
           simp only [List.setIfInBounds_toArray, List.set_cons_zero, List.set_cons_succ] at h5
           have H5 := Lib.hid h5
           have HS4 := Lib.hid (HS3.out.trans hs4)
           have HB4 := Lib.hid hB4
           clear y z ho4 hb4 hs4 hB4 h4 h5 HSM
           go_wp2_with fail
           have h6 := St.set6 (H5.out.pull 2 _ rfl) (.int .i64 n.ph) (.int .i64 n.bo) (.int .i64 n.no) (.int .i64 n.st) (.int .i64 n.nu) (.slice A4 n.info.length c4)
           generalize (World.setCell _ _ _ : World) = w6 at h6 ⊢
           have y := cells_of h6.heap
           have y0 := y 0
           have y1 := y 1
           have y2 := y 2
           have y3 := y 3
           have y4 := y 4
           have y5 := y 5
           simp at y0 y1 y2 y3 y4 y5
           refine bodyPost_ret (v := .tuple #[.agg #[.int .i64 n.ph, .int .i64 n.bo, .int .i64 n.no, .int .i64 n.st, .int .i64 n.nu, .slice A4 n.info.length c4], .int .i64 0]) (by simp [results, Try.results48, go_sem, y0, y1, y2, y3, y4, y5]) rfl ?_
           rw [HL.out]
           exact ⟨I4, A4, c4, HS4.out, rfl, h6.drop.drop, HB4.out⟩
         · have HSM : Hid (SliceSrc wr 1 (.slice (Option.map (fun x => x.add 40) A3) n.info.length (c3 - 40)) n.info.length (n.info.map byteV)) := Lib.hid (by have := HPS.out; have e : (noteBytes n).length - 40 = n.info.length := (by have := HNL.out; omega); simpa [sliced, hco, e] using this)
           clear HPS
           go_wp2_with fail
           refine (cloneB_spec _ _ _ _ HSM.out (by have := HIL.out; omega)).mono ?_
           rintro e w4 ⟨v4, rfl, ho4, hb4⟩
           obtain ⟨A4, c4, rfl⟩ := is_slice ho4
           obtain ⟨I4, hs4, hB4, h4⟩ := own_at_call HST.out hb4 ho4
           have y := cells_of h4.heap
           have y0 := y 0
           have y1 := y 1
           have y2 := y 2
           have y3 := y 3
           have y4 := y 4
           have y5 := y 5
           simp at y0 y1 y2 y3 y4 y5
           have f := frozen_of_row h4.heap
           have z := cells_of (h4.pull 2 _ rfl).heap
           have z0 := z 0
           have z1 := z 1
           have z2 := z 2
           have z3 := z 3
           have z4 := z 4
           have z5 := z 5
           simp at z0 z1 z2 z3 z4 z5
           have f2 := frozen_of_row (h4.pull 2 _ rfl).heap
           have hne := (h4.perm (show List.Perm _ (HP.pt w3.heap.size _ :: HP.pt w.heap.size _ :: storeHP p S :: l) from (List.Perm.swap _ _ _).cons _)).ne
           have h5 := h4.setCell 5 (.slice A4 n.info.length c4)
           simp only [List.setIfInBounds_toArray, List.set_cons_zero, List.set_cons_succ] at h5
           have H5 := Lib.hid h5
           have HS4 := Lib.hid (HS3.out.trans hs4)
           have HB4 := Lib.hid hB4
           clear y z ho4 hb4 hs4 hB4 h4 h5 HSM
           go_wp2_with fail
           have h6 := St.set6 (H5.out.pull 2 _ rfl) (.int .i64 n.ph) (.int .i64 n.bo) (.int .i64 n.no) (.int .i64 n.st) (.int .i64 n.nu) (.slice A4 n.info.length c4)
           generalize (World.setCell _ _ _ : World) = w6 at h6 ⊢
           have y := cells_of h6.heap
           have y0 := y 0
           have y1 := y 1
           have y2 := y 2
           have y3 := y 3
           have y4 := y 4
           have y5 := y 5
           simp at y0 y1 y2 y3 y4 y5
           refine bodyPost_ret (v := .tuple #[.agg #[.int .i64 n.ph, .int .i64 n.bo, .int .i64 n.no, .int .i64 n.st, .int .i64 n.nu, .slice A4 n.info.length c4], .int .i64 0]) (by simp [results, Try.results48, go_sem, y0, y1, y2, y3, y4, y5]) rfl ?_
           rw [HL.out]
           exact ⟨I4, A4, c4, HS4.out, rfl, h6.drop.drop, HB4.out⟩
end
end Go.Proofs.Ytnokhjhhadnckaa
/- hectographlaw21.known, note; hectographref21.Same. -/
namespace Go.Proofs.Ytnokhjhhadnckaa
open Go.RowKit
theorem known_tags : demoteTags 1 1 [⟨1, 1, 0, 0⟩] 3 = ([⟨1, 1, 0, 0⟩, ⟨3, 0, 2, 3⟩], 0) := by kernel_rfl
set_option maxHeartbeats 400000 in
theorem may_primary (w : World) : Calls Try.prog 83 #[.int .i64 1] w fun e w' => e = .returned (.int .i64 0) ∧ w = w' := by
  go_enter Try.func83, Try.ntmps83
  go_wp2
  go_ret
  exact ⟨rfl, rfl⟩
theorem one_tag (w : World) (t : Tag) {g : Nat} (hgz : g = w.heap.size) : TagsAt (w.alloc (.cells #[.int .i64 t.id, .int .i64 t.own, .int .i64 t.heir, .int .i64 t.at_] 135)) (some ⟨g, 0, none⟩) 1 [t] := by
  subst hgz
  refine ⟨rfl, fun _ => ⟨w.heap.size, 0, rfl, by simp, fun i x hi => ?_⟩⟩
  have hi0 : i = 0 := by
    obtain ⟨h, _⟩ := List.getElem?_eq_some_iff.1 hi
    simp at h; exact h
  subst hi0
  simp at hi
  subst hi
  have hg := heap_alloc_new w (.cells #[.int .i64 t.id, .int .i64 t.own, .int .i64 t.heir, .int .i64 t.at_] 135)
  refine ⟨?_, ?_, ?_, ?_⟩ <;> (rw [cell_of_row _ _ _ _ _ _ hg]; simp)
set_option maxHeartbeats 4000000 in
theorem known21_spec (w : World) : Calls Try.prog 44 #[] w fun e w' => e = .returned (.bool true) ∧ Below w.heap.size w w' := by
  go_enter Try.func44, Try.ntmps44
  go_wp2_with fail
  refine (new_spec 10000 (St.init w)).mono ?_
  rintro e w1 ⟨p, rfl, h1⟩
  have H1 := Lib.hid h1
  clear h1
  go_wp2_with fail
  have hj : NtK (newS 10000) none := ⟨⟨none, One.new 10000 kN, .inl ⟨rfl, rfl⟩⟩, trivial⟩
  have hc := load_spec none H1.out (keeps_new 10000).inv hj
  rw [show loadS (newS 10000) none = (zN, 4) from rfl] at hc
  simp only [zN] at hc
  refine hc.mono ?_
  clear hc hj
  rintro e w2 ⟨I2, A2, c2, hs2, rfl, h2, _⟩
  have hw2 := h2.below
  clear h2
  go_wp2_with fail
  refine (demote_any _ 1 _ [⟨1, 1, 0, 0⟩] 1 1 3 _ (one_tag _ ⟨1, 1, 0, 0⟩ (by simp)) (by omega) (Nat.le_refl _)).mono ?_
  rw [known_tags]
  rintro e w3 ⟨A3, n3, c3, rfl, ht3, hn3, hc3, hb3⟩
  have hn : n3 = 2 := ht3.1.symm
  subst hn
  obtain ⟨b, off, x, rfl, hB, hx, x0, x1, x2, x3⟩ := ht3.at_ (k := 1) (by omega)
  simp at hx
  subst hx
  have hw3 : Below w.heap.size w w3 := ((hw2.alloc hw2.size _).alloc (by have := hw2.size; simp; omega) _).trans (hb3.mono (by have := hw2.size; simp; omega))
  have heq := tag_eqIn ⟨3, 0, 2, 3⟩ ⟨3, 0, 2, 3⟩
  have hgd := tag_eqGuard
  clear hb3 hw2 ht3
  simp only [Nat.one_mul] at x0 x1 x2 x3
  go_wp2_with (first
    | (go_at_call 83; refine (may_primary _).mono ?_; rintro e w4 ⟨rfl, rfl⟩)
    | (go_at_call 84; refine (peer_any 1 _).mono ?_; rintro e w4 ⟨rfl, rfl⟩)
    | fail)
  go_ret
  exact ⟨rfl, hw3⟩
set_option maxHeartbeats 2000000 in
theorem refRight21 (ph bo no st nu : Int) (A : Option Addr) (n c : Nat) (w : World) (hn : n ≤ 9223372036854775807) :
    Calls Try.prog 46 #[.agg #[.int .i64 ph, .int .i64 bo, .int .i64 no, .int .i64 st, .int .i64 nu, .slice A n c]] w fun e w' => e = .returned (.bool (noteB ph bo no st nu n)) ∧ Below w.heap.size w w' := refNoteRight_any ph bo no st nu A n c w hn
set_option maxHeartbeats 2000000 in
theorem note_spec (n : Nt) (raw : Bool) (A : Option Addr) (c : Nat) (w : World) :
    Calls Try.prog 45 #[.agg #[.int .i64 n.ph, .int .i64 n.bo, .int .i64 n.no, .int .i64 n.st, .int .i64 n.nu, .slice A n.info.length c], .bool raw] w fun e w' => ∃ q : Nt, q.info = n.info ∧ e = .returned (.agg #[.int .i64 q.ph, .int .i64 q.bo, .int .i64 q.no, .int .i64 q.st, .int .i64 q.nu, .slice A n.info.length c]) ∧ Below w.heap.size w w' := by
  cases raw
  · go_enter Try.func45, Try.ntmps45
    go_wp2
    refine bodyPost_ret (v := (.agg #[.int .i64 (wrap64 (1 + (bits .and .i64 n.ph 255).tmod 5)), .int .i64 (bits .and .i64 n.bo 1048575), .int .i64 (bits .and .i64 n.no 16777215), .int .i64 (bits .and .i64 n.st 15), .int .i64 (bits .and .i64 n.nu 511), .slice A n.info.length c])) (by simp [results, Try.results45, go_sem]) rfl ?_
    exact ⟨⟨wrap64 (1 + (bits .and .i64 n.ph 255).tmod 5), bits .and .i64 n.bo 1048575, bits .and .i64 n.no 16777215, bits .and .i64 n.st 15, bits .and .i64 n.nu 511, n.info⟩, rfl, rfl, ((Below.refl w.heap.size w).alloc (Nat.le_refl _) _).alloc (by simp) _⟩
  · go_enter Try.func45, Try.ntmps45
    go_wp2
    refine bodyPost_ret (v := (.agg #[.int .i64 n.ph, .int .i64 n.bo, .int .i64 n.no, .int .i64 n.st, .int .i64 n.nu, .slice A n.info.length c])) (by simp [results, Try.results45, go_sem]) rfl ?_
    exact ⟨n, rfl, rfl, ((Below.refl w.heap.size w).alloc (Nat.le_refl _) _).alloc (by simp) _⟩
def sameN (a b : Nt) : Bool := decide (a.ph = b.ph ∧ a.bo = b.bo ∧ a.no = b.no ∧ a.st = b.st ∧ a.nu = b.nu ∧ (strOfNums a.info).toList = (strOfNums b.info).toList)
theorem sameN_self (a : Nt) : sameN a a = true := by simp [sameN]
set_option maxHeartbeats 4000000 in
theorem same21_spec (a b : Nt) (A : Option Addr) (c : Nat) (B : Option Addr) (d : Nat) (w : World) (ha : SliceSrc w 1 (.slice A a.info.length c) a.info.length (a.info.map byteV)) (hb : SliceSrc w 1 (.slice B b.info.length d) b.info.length (b.info.map byteV)) :
    Calls Try.prog 49 #[.agg #[.int .i64 a.ph, .int .i64 a.bo, .int .i64 a.no, .int .i64 a.st, .int .i64 a.nu, .slice A a.info.length c], .agg #[.int .i64 b.ph, .int .i64 b.bo, .int .i64 b.no, .int .i64 b.st, .int .i64 b.nu, .slice B b.info.length d]] w fun e w' => e = .returned (.bool (sameN a b)) ∧ Below w.heap.size w w' := by
  have h1 : ∀ o o' : Obj, (convert 31 9 (.slice A a.info.length c)).run Try.prog ((w.alloc o).alloc o') = .ok (.string (strOfNums a.info)) ((w.alloc o).alloc o') := fun o o' => src_string (ha.below (((Below.refl w.heap.size w).alloc (Nat.le_refl _) o).alloc (by simp) o'))
  have h2 : ∀ o o' : Obj, (convert 31 9 (.slice B b.info.length d)).run Try.prog ((w.alloc o).alloc o') = .ok (.string (strOfNums b.info)) ((w.alloc o).alloc o') := fun o o' => src_string (hb.below (((Below.refl w.heap.size w).alloc (Nat.le_refl _) o).alloc (by simp) o'))
  obtain ⟨sa, hsa⟩ : ∃ s, strOfNums a.info = s := ⟨_, rfl⟩
  obtain ⟨sb, hsb⟩ : ∃ s, strOfNums b.info = s := ⟨_, rfl⟩
  rw [hsa] at h1
  rw [hsb] at h2
  have HS : Hid (∀ r : Bool, (r = true ↔ a.ph = b.ph ∧ a.bo = b.bo ∧ a.no = b.no ∧ a.st = b.st ∧ a.nu = b.nu ∧ sa.toList = sb.toList) → r = sameN a b) := fun r hr => by
    rw [sameN, hsa, hsb, Bool.eq_iff_iff, hr, decide_eq_true_eq]
  clear ha hb hsa hsb
  go_enter Try.func49, Try.ntmps49
  go_wp2
  all_goals
    go_ret
    refine ⟨ret_bool (HS.out _ ?_), ((Below.refl w.heap.size w).alloc (Nat.le_refl _) _).alloc (by simp) _⟩
    first
      | (simp_all; done)
      | fail
end Go.Proofs.Ytnokhjhhadnckaa
