/- The document's own store (hectographref3) as plain data, and in memory. hectographref3's functions that only read and make memory. hectographref3: find. Cells of an owned row of structs. -/
import Derived.Test.YtagljjhfkhadpaaGreatShows
import Derived.Test.YtagljjhfkhadpaaGreatTools
import Derived.Test.YtagljjhfkhadpaaGreatPutGet
/- The document's own store (hectographref3) as plain data, and in memory. -/
set_option linter.unusedSimpArgs false
set_option linter.unusedVariables false
set_option linter.unusedSectionVars false
namespace Go.Proofs.YtagljjhfkhadpaaGreat
open Go.RowKit
structure RB where
  there : Bool
  data : List Int
  attrs : List (ByteArray × List Int)
structure RD where
  what : Int
  n : Int
  name : ByteArray
  p : List Int
structure RT where
  key : K4
  dry : RB
  wet : List RD
structure RS where
  room : Int
  count : Int
  l : List RT
  off : Bool
  fused : Bool
  n : Int
  torn : Int
  keep : List Int
def RB.no : RB := ⟨false, [], []⟩
def heldI (n lo hi : Int) : Int := if n < lo then lo else if hi < n then hi else n
def nameGe (a b : ByteArray) : Bool := !Op.bytesLess a.toList b.toList
/-- One attribute on the way: what was laid out, was the new one laid. -/
def setStep (name : ByteArray) (v : List Int) (s : List (ByteArray × List Int) × Bool) (x : ByteArray × List Int) : List (ByteArray × List Int) × Bool :=
  if s.2 = false ∧ nameGe x.1 name = true then (s.1 ++ (if v = [] then [] else [(name, v)]) ++ (if x.1.toList = name.toList then [] else [x]), true) else (s.1 ++ [x], s.2)
def rset (l : List (ByteArray × List Int)) (name : ByteArray) (v : List Int) : List (ByteArray × List Int) :=
  let s := l.foldl (setStep name v) ([], false)
  s.1 ++ (if s.2 = false ∧ v ≠ [] then [(name, v)] else [])
def rafter (b : RB) (d : RD) : RB :=
  if d.what = 1 then ⟨true, [], []⟩
  else if d.what = 2 then { b with data := layB b.data d.n.toNat d.p }
  else if d.what = 3 then { b with data := b.data.take (min d.n.toNat b.data.length) }
  else if d.what = 4 then RB.no
  else { b with attrs := rset b.attrs d.name d.p }
def rnow (t : RT) : RB := t.wet.foldl rafter t.dry
def rfind (l : List RT) (k : K4) : Nat × Bool :=
  match l with
  | [] => (0, false)
  | t :: ts => if t.key = k then (0, true) else if k.lt t.key then (0, false) else ((rfind ts k).1 + 1, (rfind ts k).2)
def rbody (R : RS) (k : K4) : RB := if (rfind R.l k).2 then (match R.l[(rfind R.l k).1]? with | some t => rnow t | none => RB.no) else RB.no
def rweight (b : RB) : Int := b.data.length + attrSize b.attrs
def rused (l : List RT) : Int := (l.map fun t => rweight (rnow t)).sum
def rleft (R : RS) : Int := max 0 (R.room - rused R.l)
def rthings (l : List RT) : Nat := l.countP fun t => (rnow t).there
/-- What stays of a thing when the power goes: so many deeds, and a piece of the next one. -/
def rleaves (t : RT) (k : Nat) (torn : Int) : RB :=
  let b := (t.wet.take k).foldl rafter t.dry
  match t.wet[k]? with
  | some d => if d.what = 2 ∧ 0 < torn then { b with data := layB b.data d.n.toNat (d.p.take (min torn.toNat (d.p.length - 1))) } else b
  | none => b
structure RF where
  out : List RT
  at_ : Nat
  lost : Int
def rkeepN (keep : List Int) (i : Nat) (n : Nat) : Nat := match keep[i]? with
  | some k => (heldI k 0 n).toNat
  | none => 0
def fallStep (keep : List Int) (torn : Int) (s : RF) (t : RT) : RF :=
  if t.wet = [] then (if t.dry.there then ⟨s.out ++ [t], s.at_, s.lost⟩ else s)
  else
    let k := rkeepN keep s.at_ t.wet.length
    let b := rleaves t k torn
    ⟨if b.there then s.out ++ [⟨t.key, b, []⟩] else s.out, s.at_ + 1, s.lost + (t.wet.length : Int) - k⟩
def rfall (R : RS) (keep : List Int) (torn : Int) : RS × Int :=
  if R.off then (R, 0)
  else
    let s := R.l.foldl (fallStep keep torn) ⟨[], 0, 0⟩
    ({ R with l := s.out, off := true, fused := false }, s.lost)
def rburn (R : RS) : Bool × RS :=
  if R.fused = false then (false, R) else if 0 < R.n then (false, { R with n := R.n - 1 }) else (true, (rfall R R.keep R.torn).1)
def rput (l : List RT) (k : K4) (d : RD) : List RT :=
  let l' := if (rfind l k).2 then l else l.take (rfind l k).1 ++ [⟨k, RB.no, []⟩] ++ l.drop (rfind l k).1
  match l'[(rfind l k).1]? with
  | some t => l'.set (rfind l k).1 { t with wet := t.wet ++ [d] }
  | none => l'
/-- The deed as it is kept. -/
def rdeed (b : RB) (d : RD) : RD := if d.what = 6 then { d with what := 2, n := b.data.length } else if d.what = 3 then { d with n := heldI d.n 0 b.data.length } else d
def rwhy (R : RS) (k : K4) (d : RD) : Int :=
  if R.off then 7 else if k.ok = false then 1
  else if d.what = 1 ∧ (rbody R k).there then 5
  else if d.what = 1 ∧ 2000 ≤ rthings R.l then 6
  else if d.what ≠ 1 ∧ (rbody R k).there = false then 4
  else if d.what = 5 ∧ (d.name.size < 1 ∨ 20 < d.name.size ∨ 4096 < d.p.length) then 1
  else if (rdeed (rbody R k) d).what = 2 ∧ ((rdeed (rbody R k) d).n < 0 ∨ 16384 - min (d.p.length : Int) 16384 < (rdeed (rbody R k) d).n ∨ 16384 < d.p.length) then 3
  else if ((rdeed (rbody R k) d).what = 2 ∨ d.what = 5) ∧ rleft R < rweight (rafter (rbody R k) (rdeed (rbody R k) d)) - rweight (rbody R k) then 6
  else 0
def rdo (R : RS) (k : K4) (d : RD) : Int × RS :=
  if rwhy R k d ≠ 0 then (rwhy R k d, R)
  else if (rburn R).1 then (7, (rburn R).2)
  else (0, { (rburn R).2 with l := rput R.l k (rdeed (rbody R k) d), count := wrap64 (R.count + 1) })
def rbarrier (R : RS) : Int × RS :=
  if R.off then (7, R)
  else if (rburn R).1 then (7, (rburn R).2)
  else (0, { (rburn R).2 with l := (R.l.filter fun t => (rnow t).there).map (fun t => ⟨t.key, rnow t, []⟩), count := wrap64 (R.count + 1) })
def rread (R : RS) (k : K4) (off n : Int) : List Int × Int :=
  if R.off then ([], 7) else if k.ok = false then ([], 1) else if (rbody R k).there = false then ([], 4)
  else if off < 0 ∨ ((rbody R k).data.length : Int) < off ∨ n < 0 then ([], 3)
  else (((rbody R k).data.drop off.toNat).take (min n.toNat ((rbody R k).data.length - off.toNat)), 0)
def rattr (R : RS) (k : K4) (nm : ByteArray) : List Int × Int :=
  if R.off then ([], 7) else if k.ok = false then ([], 1)
  else match (rbody R k).attrs.find? fun x => x.1.toList == nm.toList with
    | some x => (x.2, 0)
    | none => ([], 4)
def rkeys (R : RS) (kind img : Int) : List K4 := if R.off then [] else (R.l.filter fun t => t.key.kind == kind && t.key.img == img && (rnow t).there).map RT.key
def rfuse (R : RS) (n : Int) (keep : List Int) (torn : Int) : RS := { R with fused := decide (0 ≤ n), n := n, keep := keep, torn := torn }
def rnew (room : Int) : RS := ⟨heldI room 0 1048576, 0, [], false, false, 0, 0, []⟩
/-- An attribute, a deed, a thing, each with what it leads to. -/
abbrev AZ := (ByteArray × List Int) × Value
def AZ.cells (z : AZ) : List Value := [.string z.1.1, z.2]
def AttrsI (I : Hp) (v : Value) (l : List (ByteArray × List Int)) : Prop := ∃ zs : List AZ, zs.map (·.1) = l ∧ RowI I 2 v l.length (zs.flatMap AZ.cells) ∧ ∀ z ∈ zs, BytesI I z.2 z.1.2
abbrev DZ := RD × Value
def DZ.cells (z : DZ) : List Value := [.int .i64 z.1.what, .int .i64 z.1.n, .string z.1.name, z.2]
def DeedsI (I : Hp) (v : Value) (l : List RD) : Prop := ∃ zs : List DZ, zs.map (·.1) = l ∧ RowI I 4 v l.length (zs.flatMap DZ.cells) ∧ ∀ z ∈ zs, BytesI I z.2 z.1.p
structure TZ where
  t : RT
  dv : Value
  av : Value
  wv : Value
def TZ.cells (z : TZ) : List Value := [.int .i64 z.t.key.kind, .int .i64 z.t.key.img, .int .i64 z.t.key.num, .int .i64 z.t.key.snap, .bool z.t.dry.there, z.dv, z.av, z.wv]
def BodyI (I : Hp) (dv av : Value) (b : RB) : Prop := BytesI I dv b.data ∧ AttrsI I av b.attrs
def TZ.ok (I : Hp) (z : TZ) : Prop := BodyI I z.dv z.av z.t.dry ∧ DeedsI I z.wv z.t.wet
theorem AttrsI.mono {I I' : Hp} {v : Value} {l : List (ByteArray × List Int)} (s : I.sub I') (h : AttrsI I v l) : AttrsI I' v l := by
  obtain ⟨zs, h1, h2, h3⟩ := h
  exact ⟨zs, h1, h2.mono s, fun z hz => (bytesIP _ _).mono s (h3 z hz)⟩
theorem DeedsI.mono {I I' : Hp} {v : Value} {l : List RD} (s : I.sub I') (h : DeedsI I v l) : DeedsI I' v l := by
  obtain ⟨zs, h1, h2, h3⟩ := h
  exact ⟨zs, h1, h2.mono s, fun z hz => (bytesIP _ _).mono s (h3 z hz)⟩
theorem BodyI.mono {I I' : Hp} {dv av : Value} {b : RB} (s : I.sub I') (h : BodyI I dv av b) : BodyI I' dv av b := ⟨(bytesIP _ _).mono s h.1, h.2.mono s⟩
theorem TZ.ok_mono {I I' : Hp} {z : TZ} (s : I.sub I') (h : z.ok I) : z.ok I' := ⟨h.1.mono s, h.2.mono s⟩
def thingsIP (zs : List TZ) : IP := ⟨fun I => ∀ z ∈ zs, z.ok I, fun s h z hz => TZ.ok_mono s (h z hz)⟩
def RS.cells (R : RS) (vl vk : Value) : Array Value := #[.int .i64 R.room, .int .i64 R.count, vl, .bool R.off, .bool R.fused, .int .i64 R.n, .int .i64 R.torn, vk]
def rowHP (vl : Value) (zs : List TZ) : HP := HP.row 95 8 vl zs.length (zs.flatMap TZ.cells)
def refHP (q : Nat) (R : RS) : HP :=
  HP.ex fun x : List TZ × Value × Value => HP.all [HP.pure (x.1.map TZ.t = R.l), HP.pt q (.cells (R.cells x.2.1 x.2.2) 57), rowHP x.2.1 x.1, HP.imm (thingsIP x.1), HP.imm (intsIP x.2.2 R.keep)]
section
variable {W w : World} {I : Hp} {l : List HP} {q : Nat} {R : RS}
theorem St.ref_open (h : St W I w (refHP q R :: l)) : ∃ zs vl vk, zs.map TZ.t = R.l ∧ (thingsIP zs).p I ∧ IntsI I vk R.keep ∧ St W I w (HP.pt q (.cells (R.cells vl vk) 57) :: rowHP vl zs :: l) := by
  obtain ⟨⟨zs, vl, vk⟩, h⟩ := h.ex_open
  obtain ⟨e, h⟩ := (St.all_open h).pure_open
  have h1 := (h.pull 2 _ rfl).imm_open
  have h2 := (h1.2.pull 2 _ rfl).imm_open
  exact ⟨zs, vl, vk, e, h1.1, h2.1, h2.2⟩
theorem St.ref_shut {zs : List TZ} {vl vk : Value} (h : St W I w (HP.pt q (.cells (R.cells vl vk) 57) :: rowHP vl zs :: l)) (e : zs.map TZ.t = R.l) (hz : (thingsIP zs).p I) (hk : IntsI I vk R.keep) : St W I w (refHP q R :: l) := by
  have h1 := St.imm_shut (A := thingsIP zs) hz (St.imm_shut (A := intsIP vk R.keep) hk h)
  have h2 : St W I w (HP.pt q (.cells (R.cells vl vk) 57) :: rowHP vl zs :: HP.imm (thingsIP zs) :: HP.imm (intsIP vk R.keep) :: l) := h1.perm (by ((try simp only [List.eraseIdx_cons_succ, List.eraseIdx_cons_zero, List.cons_append, List.nil_append]); repeat (first | with_reducible exact List.Perm.refl _ | (apply perm_step; (· repeat (first | with_reducible exact find_here | with_reducible apply find_there))))))
  exact St.ex_shut (zs, vl, vk) (St.all_shut (St.pure_shut e h2))
end
end Go.Proofs.YtagljjhfkhadpaaGreat
/- hectographref3's functions that only read and make memory. -/
namespace Go.Proofs.YtagljjhfkhadpaaGreat
open Go.RowKit
section
variable {W w : World} {I : Hp} {l : List HP} {q : Nat} {R : RS}
set_option maxRecDepth 4000
set_option maxHeartbeats 4000000
theorem held_spec (n lo hi : Int) (w : World) : Calls Tryz.prog 24 #[.int .i64 n, .int .i64 lo, .int .i64 hi] w fun e w' => e = .returned (.int .i64 (heldI n lo hi)) ∧ w = w' := by
  unfold heldI
  by_cases h1 : n < lo
  · rw [if_pos h1]
    go_enter Tryz.func24, Tryz.ntmps24
    go_wp2_with fail
    go_ret
    exact ⟨rfl, rfl⟩
  · rw [if_neg h1]
    by_cases h2 : hi < n
    · rw [if_pos h2]
      go_enter Tryz.func24, Tryz.ntmps24
      go_wp2_with fail
      go_ret
      exact ⟨rfl, rfl⟩
    · rw [if_neg h2]
      go_enter Tryz.func24, Tryz.ntmps24
      go_wp2_with fail
      go_ret
      exact ⟨rfl, rfl⟩
theorem ret_bool' {a b : Bool} (h : a = b) : Ending.returned (.bool a) = .returned (.bool b) := by rw [h]
theorem less_spec (a b : K4) (w : World) : Calls Tryz.prog 79 #[a.val, b.val] w fun e w' => e = .returned (.bool (a.lt b)) ∧ Below w.heap.size w w' := by
  obtain ⟨a0, a1, a2, a3⟩ := a
  obtain ⟨b0, b1, b2, b3⟩ := b
  have HR : Hid (∀ r : Bool, (r = true ↔ (a0 < b0 ∨ (a0 = b0 ∧ (a1 < b1 ∨ (a1 = b1 ∧ (a2 < b2 ∨ (a2 = b2 ∧ a3 < b3))))))) → r = (K4.mk a0 a1 a2 a3).lt ⟨b0, b1, b2, b3⟩) := fun r hr => by
    rw [K4.lt, Bool.eq_iff_iff, hr, decide_eq_true_eq]
  unfold K4.val
  go_enter Tryz.func79, Tryz.ntmps79
  go_wp2
  all_goals
    go_ret
    refine ⟨ret_bool' (HR.out _ ?_), ((Below.refl w.heap.size w).alloc (Nat.le_refl _) _).alloc (by simp) _⟩
    simp only [bne_iff_ne, ne_eq, bne_eq_false_iff_eq, decide_eq_true_eq] at *
    omega
theorem right3_spec (a : K4) (w : World) : Calls Tryz.prog 14 #[a.val] w fun e w' => e = .returned (.bool a.ok) ∧ Below w.heap.size w w' := by
  obtain ⟨a0, a1, a2, a3⟩ := a
  have HR : Hid (∀ r : Bool, (r = true ↔ (1 ≤ a0 ∧ a0 ≤ 255 ∧ 0 ≤ a1 ∧ a1 ≤ 255 ∧ 0 ≤ a2 ∧ a2 ≤ 1073741824 ∧ 0 ≤ a3 ∧ a3 ≤ 1073741824)) → r = (K4.mk a0 a1 a2 a3).ok) := fun r hr => by
    rw [K4.ok, Bool.eq_iff_iff, hr, decide_eq_true_eq]
  unfold K4.val
  go_enter Tryz.func14, Tryz.ntmps14
  go_wp2
  all_goals
    go_ret
    refine ⟨ret_bool' (HR.out _ ?_), (Below.refl w.heap.size w).alloc (Nat.le_refl _) _⟩
    simp only [decide_eq_true_eq, Bool.false_eq_true, false_iff]
    omega
theorem lay_map3 {b p : List Int} {off : Nat} (hz : ¬ p = []) : (b.map byteV ++ List.replicate (off + p.length - b.length) (Value.int .u8 0)).take off ++ (p.map byteV ++ (b.map byteV ++ List.replicate (off + p.length - b.length) (Value.int .u8 0)).drop (off + p.length)) = (layB b off p).map byteV := by
  by_cases h : b.length ≤ off + p.length
  · exact lay_map2 hz h
  · rw [show off + p.length - b.length = 0 by omega, List.replicate_zero, List.append_nil]
    exact lay_map hz (by omega)
theorem row_some3 {w : World} {e : TypeId} {size n : Nat} {A : Option Addr} {c : Nat} {xs : List Value} (h : w.ownsRow 0 e size (.slice A n c) n xs) (hn : 0 < n) : ∃ g, A = some ⟨g, 0, none⟩ ∧ n ≤ c := by
  rcases h.2 with ⟨_, e2⟩ | ⟨g, cap, cur, e1, _, _, h1, _⟩
  · omega
  · cases e1; exact ⟨g, rfl, h1⟩
/-- make([]byte, 0) that is written out: an empty row. -/
theorem write_spec3 (bv pv : Value) (b p : List Int) (off : Nat) (h : St W I w l) (hb : BytesI I bv b) (hp : BytesI I pv p) (hl : b.length + off + p.length ≤ 1000000) :
    Calls Tryz.prog 57 #[bv, .int .i64 off, pv] w fun e w' => ∃ I' v, I.sub I' ∧ e = .returned v ∧ BytesI I' v (layB b off p) ∧ St W I' w' l := by
  have H := Lib.hid h
  have HB := Lib.hid hb
  have HPP := Lib.hid hp
  obtain ⟨A, c, e1, _⟩ := hb
  subst e1
  obtain ⟨B, d, e1, _⟩ := hp
  subst e1
  clear h
  by_cases h0 : p = []
  · subst h0
    have HL := Lib.hid (show layB b off [] = b by simp [layB])
    go_enter Tryz.func57, Tryz.ntmps57
    go_wp2_with fail
    go_ret
    rw [HL.out]
    exact ⟨I, _, Hp.sub.refl _, rfl, HB.out, H.out⟩
  · have hpl : 0 < p.length := List.length_pos_iff.2 h0
    have hp0 : ((p.length : Int) == 0) = false := by simp; omega
    have h1 := St.lit_row H.out #[] [] 0 rfl rfl (by unfold maxLen; omega)
    obtain ⟨v2, w2, hr2, h2⟩ := St.bytes_append 31 h1 (bytes_src h1 HB.out) (by omega)
    rw [Nat.zero_add, List.nil_append] at h2
    obtain ⟨A2, c2, rfl⟩ := is_slice h2.row_owns
    have HR2 := Lib.hid hr2
    have H2 := Lib.hid h2
    have HBL := Lib.hid hl
    clear h1 hr2 h2 hl h0
    go_enter Tryz.func57, Tryz.ntmps57
    go_wp2_with (at_builtin; refine Lib.wpList_append_run _ rfl (.tmp 12) (.tmp 13) 31 31 rfl _ _ rfl rfl _ _ HR2.out ?_)
    have hsum : IntKind.i64.wrap ((off : Int) + (p.length : Int)) = ((off + p.length : Nat) : Int) := by rw [IntKind.wrap_i64]; have := HBL.out; omega
    obtain ⟨m, hm⟩ : ∃ m, off + p.length - b.length = m := ⟨_, rfl⟩
    have HM := Lib.hid hm
    clear hm
    go_loopw [7] (fun a7 wr => ∃ (k : Nat) (A : Option Addr) (c : Nat), a7 = .slice A (b.length + k) c ∧ k ≤ m ∧ St W I wr (HP.row 5 1 (.slice A (b.length + k) c) (b.length + k) (b.map byteV ++ List.replicate k (.int .u8 0)) :: l)) (fun a7 _ => m + b.length - (match a7 with | .slice _ n _ => n | _ => 0))
    case atStart => exact ⟨0, A2, c2, rfl, Nat.zero_le _, by simpa using H2.out⟩
    case round =>
      obtain ⟨k, A3, c3, rfl, hk, hst⟩ := hrel
      by_cases hlt : k < m
      · have hd : decide (b.length + k < off + p.length) = true := by rw [decide_eq_true_eq]; have := HM.out; omega
        have hd2 : decide ((b.length : Int) + (k : Int) < (off : Int) + (p.length : Int)) = true := by rw [decide_eq_true_eq]; have := HM.out; omega
        have hst2 := hst.keep (below_alloc wr (.cells #[.int .u8 0] 5))
        obtain ⟨v', w', hr, h2⟩ := St.bytes_append 31 hst2 (byte_src wr 0) (by have := HBL.out; have := HM.out; omega)
        obtain ⟨A', c', rfl⟩ := is_slice h2.row_owns
        rw [List.append_assoc, show List.replicate k (Value.int .u8 0) ++ [.int .u8 0] = List.replicate (k + 1) (.int .u8 0) from List.replicate_succ'.symm] at h2
        have HR := Lib.hid hr
        have H3 := Lib.hid h2
        clear hst hst2 hr h2
        go_wp2_with (at_builtin; refine Lib.wpList_append_run _ rfl (.tmp 22) (.tmp 23) 31 31 rfl _ _ rfl rfl _ _ HR.out ?_)
        go_roundw
        case rel => exact ⟨k + 1, A', c', rfl, hlt, H3.out⟩
        case measure => show m + b.length - (b.length + k + 1) < m + b.length - (b.length + k); omega
      · obtain rfl : k = m := by omega
        have hmv := HM.out
        have hbl := HBL.out
        have hd : decide (b.length + k < off + p.length) = false := by rw [decide_eq_false_iff_not]; omega
        have hd2 : decide ((b.length : Int) + (k : Int) < (off : Int) + (p.length : Int)) = false := by rw [decide_eq_false_iff_not]; omega
        obtain ⟨g, rfl, hgc⟩ := row_some3 hst.row_owns (by omega)
        have hoff : off ≤ b.length + k := by omega
        have hoc : off < c3 := by omega
        obtain ⟨w5, hrun, _, hst5⟩ := row_copy (P := Tryz.prog) (cs := p.map byteV) (off := off) hst (by simp; omega) (dT := 31) (sT := 31) (ty := 3) Tryz.underlying31 (by kernel_rfl) (by have := bytes_src hst HPP.out; simpa using this) (c3 - off)
        simp only [List.length_map] at hrun hst5
        rw [← hmv, lay_map3 (by intro e; rw [e] at hpl; simp at hpl)] at hst5
        have hlen : (layB b off p).length = b.length + k := by
          have := hst5.row_len
          simp only [List.length_map, Nat.mul_one] at this
          omega
        have hst6 : St W I w5 (HP.row 5 1 (.slice (some ⟨g, 0, none⟩) (layB b off p).length c3) (layB b off p).length ((layB b off p).map byteV) :: l) := by
          rw [hlen, ← hmv]; exact hst5
        obtain ⟨I6, hs6, hb6, h6⟩ := hst6.freeze_row
        rw [hlen] at hb6
        have HS6 := Lib.hid hs6
        have HB6 := Lib.hid hb6
        have H6 := Lib.hid h6
        have HLEN := Lib.hid hlen
        clear hst hst5 hst6 hs6 hb6 h6 hlen hmv hbl
        go_wp2_with fail
        go_ret
        exact ⟨I6, _, HS6.out, rfl, by have := HB6.out; rw [← HLEN.out] at this; unfold BytesI; rw [← HLEN.out]; exact this, H6.out⟩
end
end Go.Proofs.YtagljjhfkhadpaaGreat
/- hectographref3: find. Cells of an owned row of structs. -/
namespace Go.Proofs.YtagljjhfkhadpaaGreat
open Go.RowKit
theorem key_guard : Tryz.prog.eqGuardType Tryz.prog.depth 30 = false := by kernel_rfl
theorem key_eqGuard (op : BinOp) (x y : Operand) (xs ys : Array Value) (w : World) : (eqGuard op 30 x y (.agg xs) (.agg ys)).run Tryz.prog w = .ok () w := run_eqGuard_agg _ _ _ _ _ _ _ key_guard
theorem flatz_get {α : Type} {mk : α → List Value} {k : Nat} (hk : ∀ a, (mk a).length = k) : ∀ (l : List α) (i j : Nat) (a : α), l[i]? = some a → j < k → (l.flatMap mk)[i * k + j]? = (mk a)[j]?
  | [], i, j, a, h, _ => by simp at h
  | b :: l, 0, j, a, h, hj => by
    simp only [List.getElem?_cons_zero, Option.some.injEq] at h
    subst h
    rw [List.flatMap_cons, Nat.zero_mul, Nat.zero_add, List.getElem?_append_left (by rw [hk]; exact hj)]
  | b :: l, i + 1, j, a, h, hj => by
    rw [List.flatMap_cons, List.getElem?_append_right (by rw [hk, Nat.add_mul]; omega), hk, show (i + 1) * k + j - k = i * k + j by rw [Nat.add_mul]; omega]
    exact flatz_get hk l i j a (by simpa using h) hj
theorem flatz_len {α : Type} {mk : α → List Value} {k : Nat} (hk : ∀ a, (mk a).length = k) : ∀ l : List α, (l.flatMap mk).length = l.length * k
  | [] => by simp
  | a :: l => by rw [List.flatMap_cons, List.length_append, hk, flatz_len hk l, List.length_cons, Nat.add_mul]; omega
section
variable {W w : World} {I : Hp} {l : List HP} {q : Nat} {R : RS}
/-- An element of a row that is owned. -/
theorem St.row_elem {α : Type} {mk : α → List Value} {k : Nat} {e : TypeId} {v : Value} {zs : List α} (h : St W I w (HP.row e k v zs.length (zs.flatMap mk) :: l)) (hk : ∀ a, (mk a).length = k) {i : Nat} {a : α} (ha : zs[i]? = some a) :
    ∃ g c, v = .slice (some ⟨g, 0, none⟩) zs.length c ∧ zs.length ≤ c ∧ g < w.heap.size ∧ ∀ j, j < k → w.cell? ⟨g, i * k + j, none⟩ = (mk a)[j]? := by
  have hil := (List.getElem?_eq_some_iff.1 ha).1
  obtain ⟨hl, p⟩ := h.row_open
  rcases p with ⟨_, e2, _⟩ | ⟨g, cap, cur, rfl, p3, p4, p5, p6, s⟩
  · omega
  · refine ⟨g, cap, rfl, p3, s.lt, fun j hj => ?_⟩
    rw [cells_of s.heap]
    have h7 := flatz_get hk zs i j a ha hj
    rw [← h7, ← p6, List.getElem?_take, if_pos, ← Array.getElem?_toList]
    calc i * k + j < i * k + k := by omega
      _ = (i + 1) * k := by rw [Nat.add_mul, Nat.one_mul]
      _ ≤ zs.length * k := Nat.mul_le_mul_right _ hil
theorem St.row_slice {α : Type} {mk : α → List Value} {k : Nat} {e : TypeId} {v : Value} {zs : List α} (h : St W I w (HP.row e k v zs.length (zs.flatMap mk) :: l)) : ∃ A c, v = .slice A zs.length c ∧ zs.length ≤ c := by
  obtain ⟨_, p⟩ := h.row_open
  rcases p with ⟨rfl, e2, _⟩ | ⟨g, cap, cur, rfl, p3, _⟩
  · exact ⟨none, 0, by rw [e2], by omega⟩
  · exact ⟨_, cap, rfl, p3⟩
theorem rfind_at {L : List RT} {k : K4} {i : Nat} {t : RT} (ht : L[i]? = some t) (hp : rfind L k = ((rfind (L.drop i) k).1 + i, (rfind (L.drop i) k).2)) :
    (t.key = k → rfind L k = (i, true)) ∧ (t.key ≠ k → k.lt t.key = true → rfind L k = (i, false)) ∧ (t.key ≠ k → k.lt t.key = false → rfind L k = ((rfind (L.drop (i + 1)) k).1 + (i + 1), (rfind (L.drop (i + 1)) k).2)) := by
  obtain ⟨hil, he⟩ := List.getElem?_eq_some_iff.1 ht
  have e : L.drop i = t :: L.drop (i + 1) := by rw [List.drop_eq_getElem_cons hil, he]
  rw [hp, e]
  refine ⟨fun h => by simp [rfind, h], fun h1 h2 => by simp [rfind, h1, h2], fun h1 h2 => ?_⟩
  simp only [rfind, h1, h2, if_false, Bool.false_eq_true, Prod.mk.injEq, and_true]
  omega
set_option maxRecDepth 4000
set_option maxHeartbeats 4000000
theorem find_spec (k : K4) (h : St W I w (refHP q R :: l)) (hn : R.l.length ≤ 1000000) :
    Calls Tryz.prog 66 #[.pointer (some ⟨q, 0, none⟩), k.val] w fun e w' => ∃ I', I.sub I' ∧ e = .returned (.tuple #[.int .i64 (rfind R.l k).1, .bool (rfind R.l k).2]) ∧ St W I' w' (refHP q R :: l) := by
  obtain ⟨I1, hs1, hI1, h1⟩ := (h.alloc (.cells #[.int .i64 k.kind, .int .i64 k.img, .int .i64 k.num, .int .i64 k.snap] 30)).freeze
  have H1 := Lib.hid h1
  have HS1 := Lib.hid hs1
  have HI1 := Lib.hid hI1
  clear h h1 hs1 hI1
  unfold K4.val
  go_enter Tryz.func66, Tryz.ntmps66
  go_wp2_with fail
  go_loopw [6] (fun a6 wr => ∃ i : Nat, a6 = .int .i64 i ∧ i ≤ R.l.length ∧ rfind R.l k = ((rfind (R.l.drop i) k).1 + i, (rfind (R.l.drop i) k).2) ∧ St W I1 wr (refHP q R :: l)) (fun a6 _ => R.l.length - (intOf a6).toNat)
  case atStart => exact ⟨0, rfl, Nat.zero_le _, rfl, H1.out⟩
  case round =>
    obtain ⟨i, rfl, hi, hf, hst⟩ := hrel
    obtain ⟨zs, vl, vk, hzs, hz, hkk, hop⟩ := hst.ref_open
    have hzl : zs.length = R.l.length := by rw [← hzs, List.length_map]
    have y2 := cells_of hop.heap 2
    simp [RS.cells] at y2
    have b := cells_of (hst.imm_heap HI1.out)
    have b0 := b 0
    have b1 := b 1
    have b2 := b 2
    have b3 := b 3
    simp at b0 b1 b2 b3
    by_cases hlt : i < R.l.length
    · obtain ⟨z, hzi⟩ : ∃ z, zs[i]? = some z := ⟨_, List.getElem?_eq_getElem (by omega)⟩
      obtain ⟨g, c, rfl, hgc, hgl, hc⟩ := St.row_elem (mk := TZ.cells) (hop.pull 1 _ rfl) (fun _ => rfl) hzi
      have ht : R.l[i]? = some z.t := by rw [← hzs, List.getElem?_map, hzi]; rfl
      obtain ⟨f1, f2, f3⟩ := rfind_at ht hf
      have c0 := hc 0 (by omega)
      have c1 := hc 1 (by omega)
      have c2 := hc 2 (by omega)
      have c3 := hc 3 (by omega)
      simp only [TZ.cells, List.getElem?_cons_zero, List.getElem?_cons_succ, Nat.add_zero] at c0 c1 c2 c3
      rw [hzl] at y2
      have heq := key_eqIn z.t.key k
      simp only [K4.val] at heq
      have hgd := key_eqGuard
      have HST := Lib.hid hst
      have HLS := less_spec k z.t.key
      simp only [K4.val] at HLS
      have HF1 := Lib.hid f1
      have HF2 := Lib.hid f2
      have HF3 := Lib.hid f3
      clear hop hst hz hkk hzs hzi ht hc f1 f2 f3 hf b
      by_cases hke : z.t.key = k
      · have hd : decide (z.t.key = k) = true := by simpa using hke
        have HR := Lib.hid (HF1.out hke)
        clear HF1 HF2 HF3 hke
        go_wp2_with fail
        go_quiet (fail)
        go_wp2_with fail
        go_ret2
        rw [HR.out]
        exact ⟨I1, HS1.out, rfl, HST.out.drewN nq⟩
      · have hd : decide (z.t.key = k) = false := by simpa using hke
        cases hls : k.lt z.t.key with
        | true =>
          have HR := Lib.hid (HF2.out hke hls)
          rw [hls] at HLS
          have HL2 := Lib.hid HLS
          clear HF1 HF2 HF3 hke hls HLS
          go_wp2_with fail
          go_quiet (fail)
          go_wp2_with fail
          refine wp_region_calm [1, 2, 3, 5] [0, 4, 6, 7, 8] [9] (by kernel_rfl) (by kernel_rfl) ?_
          simp only [pickL, List.getElem?_cons_zero, List.getElem?_cons_succ]
          repeat (refine wpPlain_step _ (Or.inl ⟨by rfl, by intro w; go_simp; try with_reducible rfl⟩) ?_; (try simp only [Act.put, List.setIfInBounds_toArray, List.set_cons_zero, List.set_cons_succ]))
          refine wpPlain_nil ?_
          repeat still_step
          refine wpStill_nil ?_
          go_wp2_with fail
          refine (HL2.out _).mono ?_
          rintro e w3 ⟨rfl, hb3⟩
          have H3 := Lib.hid (((HST.out.drewN nq).drew).keep hb3)
          clear hb3
          go_wp2_with fail
          refine NoPanic.normal ?_
          go_wp2_with fail
          go_ret2
          rw [HR.out]
          exact ⟨I1, HS1.out, rfl, H3.out⟩
        | false =>
          have HR := Lib.hid (HF3.out hke hls)
          rw [hls] at HLS
          have HL2 := Lib.hid HLS
          clear HF1 HF2 HF3 hke hls HLS
          go_wp2_with fail
          go_quiet (fail)
          go_wp2_with fail
          refine wp_region_calm [1, 2, 3, 5] [0, 4, 6, 7, 8] [9] (by kernel_rfl) (by kernel_rfl) ?_
          simp only [pickL, List.getElem?_cons_zero, List.getElem?_cons_succ]
          repeat (refine wpPlain_step _ (Or.inl ⟨by rfl, by intro w; go_simp; try with_reducible rfl⟩) ?_; (try simp only [Act.put, List.setIfInBounds_toArray, List.set_cons_zero, List.set_cons_succ]))
          refine wpPlain_nil ?_
          repeat still_step
          refine wpStill_nil ?_
          go_wp2_with fail
          refine (HL2.out _).mono ?_
          rintro e w3 ⟨rfl, hb3⟩
          have H3 := Lib.hid (((HST.out.drewN nq).drew).keep hb3)
          clear hb3
          go_wp2_with fail
          refine NoPanic.normal ?_
          go_wp2_with fail
          go_roundw
          case rel => exact ⟨i + 1, by go_num, by omega, HR.out, H3.out⟩
          case measure => simp [intOf]; omega
    · obtain rfl : i = R.l.length := by omega
      rw [List.drop_length] at hf
      obtain ⟨A, c, e1, hac⟩ := (hop.pull 1 _ rfl).row_slice (mk := TZ.cells)
      subst e1
      rw [hzl] at y2
      have HR : Hid (rfind R.l k = (R.l.length, false)) := Lib.hid (by rw [hf]; simp [rfind])
      have HST := Lib.hid hst
      clear hop hst hz hkk hzs hf b hac
      go_wp2_with fail
      go_ret2
      rw [HR.out]
      exact ⟨I1, HS1.out, rfl, HST.out⟩
end
end Go.Proofs.YtagljjhfkhadpaaGreat
