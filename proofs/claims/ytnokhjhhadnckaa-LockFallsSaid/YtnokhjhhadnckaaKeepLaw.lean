/- An attribute that is kept in an object of its own: done, or not done, wholly. No program in sight. -/
import Derived.Test.YtnokhjhhadnckaaLock
set_option linter.unusedSimpArgs false
set_option linter.unusedVariables false
set_option linter.unusedSectionVars false
namespace Go.Proofs.Ytnokhjhhadnckaa
open Go.RowKit
def kObj (nm : ByteArray) (v : List Int) : Option TS := some ⟨[], if v = [] then [] else [(nm, v)]⟩
/-- The object's attribute is v: no object, and none. -/
def objV (nm : ByteArray) (x : Option TS) (v : List Int) : Prop := (x = none ∧ v = []) ∨ x = kObj nm v
theorem kObj_size (nm : ByteArray) (v : List Int) : sizeO (kObj nm v) = if v = [] then 0 else (nm.size : Int) + v.length := by
  unfold kObj sizeO TS.size attrSize
  by_cases hv : v = [] <;> simp [hv]
theorem kObj_fine (nm : ByteArray) (v : List Int) (h1 : nm.size ≤ 20) (h2 : v.length ≤ 4096) : fine (kObj nm v) := by
  unfold fine
  rw [kObj_size]
  split <;> omega
theorem none_fine : fine none := by unfold fine sizeO; simp
theorem step_made (x : Option TS) (nm : ByteArray) : stepD x madeD = kObj nm [] := by simp [stepD, madeD, kObj]
theorem step_set (nm : ByteArray) (v b : List Int) : stepD (kObj nm v) (setD nm b) = kObj nm b := by
  show (some ({ b := [], attr := setAttr (if v = [] then [] else [(nm, v)]) nm b } : TS)) = _
  unfold kObj setAttr
  by_cases hb : b = []
  · rw [if_pos hb, if_pos hb]
    by_cases hv : v = []
    · rw [if_pos hv]; rfl
    · rw [if_neg hv]; simp [del]
  · rw [if_neg hb, if_neg hb]
    by_cases hv : v = []
    · rw [if_pos hv]; rfl
    · rw [if_neg hv]; simp [put, del]
theorem keptN_le (n : Int) (k : Nat) : keptN n k ≤ k := by unfold keptN; omega
theorem stays_some {y : Option TS} {ds : List Dd} (h : ∀ d ∈ ds, d.kind ≠ 1) (n torn : Int) : ∃ m, m ≤ ds.length ∧ stays y ds n torn = (ds.take m).foldl stepD y := by
  refine ⟨keptN n ds.length, keptN_le _ _, ?_⟩
  unfold stays
  split
  · rename_i d hd
    rw [if_neg (fun q => h d (List.mem_of_getElem? hd) q.1)]
  · rfl
/-- A fuse that takes the power. -/
theorem One.burnt {S : Str} {K : K4} {x y : Option TS} {ds : List Dd} (h : One S K x y ds) (hon : S.on = true) (hb : (burnsS S).1 = true) (hk : ∀ d ∈ ds, d.kind ≠ 1) (h1 : fine x) (h2 : ∀ m, m ≤ ds.length → fine ((ds.take m).foldl stepD y)) :
    ∃ m, m ≤ ds.length ∧ One (burnsS S).2 K ((ds.take m).foldl stepD y) ((ds.take m).foldl stepD y) [] ∧ (burnsS S).2.on = false ∧ (burnsS S).2.room = S.room ∧ (burnsS S).2.armed = false := by
  obtain ⟨_, _, e⟩ := burns_true hb
  obtain ⟨m, hm, hs⟩ := stays_some (y := y) hk (keepAt S.keep 0) S.torn
  have hf := h.fell hon S.keep S.torn h1 (by rw [hs]; exact h2 m hm)
  rw [hs] at hf
  rw [e]
  exact ⟨m, hm, hf⟩
/-- How it ends: done, or the power went. -/
def Kept (S : Str) (K : K4) (nm : ByteArray) (v b : List Int) (r : Int × Str) : Prop :=
  (r.1 = 0 ∧ r.2.on = true ∧ One r.2 K (kObj nm b) (kObj nm b) [] ∧ r.2.room = S.room ∧ r.2.armed = S.armed) ∨
  (S.armed = true ∧ r.1 = 7 ∧ r.2.on = false ∧ r.2.room = S.room ∧ r.2.armed = false ∧ ∃ z, One r.2 K z z [] ∧ (objV nm z v ∨ objV nm z b))
theorem may_of {S : Str} {K : K4} (hon : S.on = true) (hK : K.ok = true) : mayS S K = 0 := by simp [mayS, hon, hK]
theorem set_room {S : Str} {K : K4} {nm : ByteArray} {v b : List Int} {y : Option TS} {ds : List Dd} (h : One S K (kObj nm v) y ds) (hn1 : 1 ≤ nm.size) (hn2 : nm.size ≤ 20) (hb : b.length ≤ 4096) (hv : v.length ≤ 4096) (hr : (nm.size : Int) + b.length ≤ S.room) (hr2 : S.room ≤ 1048576) :
    setWhy S ⟨[], if v = [] then [] else [(nm, v)]⟩ nm b = 0 := by
  unfold setWhy
  rw [if_neg (by omega), if_neg]
  have hu := h.used
  rw [kObj_size] at hu
  by_cases h0 : v = []
  · rw [if_pos h0] at hu
    have hrs : roomS S = max 0 S.room := by
      unfold roomS
      rw [← wrap_eq, IntKind.wrap_i64, hu]
      omega
    have hg : growS ⟨[], if v = [] then [] else [(nm, v)]⟩ nm b = if b = [] then 0 else (nm.size : Int) + b.length := by
      unfold growS
      rw [if_pos h0]
      simp [get]
    rw [hrs, hg]
    split <;> omega
  · rw [if_neg h0] at hu
    have hrs : roomS S = max 0 (S.room - ((nm.size : Int) + v.length)) := by
      unfold roomS
      rw [← wrap_eq, IntKind.wrap_i64, hu]
      omega
    have hg : growS ⟨[], if v = [] then [] else [(nm, v)]⟩ nm b = (if b = [] then 0 else (nm.size : Int) + b.length) - ((nm.size : Int) + v.length) := by
      unfold growS
      rw [if_neg h0]
      simp [get]
    rw [hrs, hg]
    split <;> omega
theorem One.barriered {S : Str} {K : K4} {x y : Option TS} {ds : List Dd} {nm : ByteArray} {v b : List Int} (h : One S K (kObj nm b) y ds) (hon : S.on = true) (hk : ∀ d ∈ ds, d.kind ≠ 1) (h1 : nm.size ≤ 20) (h2 : b.length ≤ 4096)
    (hz : ∀ m, m ≤ ds.length → fine ((ds.take m).foldl stepD y) ∧ (objV nm ((ds.take m).foldl stepD y) v ∨ objV nm ((ds.take m).foldl stepD y) b)) : Kept S K nm v b (barrierS S) := by
  cases hb : (burnsS S).1 with
  | false =>
    obtain ⟨e1, e2, e3, e4, e5, _⟩ := h.dried hon hb
    exact .inl ⟨e1, e3, e2, e4, e5⟩
  | true =>
    rw [barrier_burnt hon hb]
    obtain ⟨m, hm, g1, g2, g3, g4⟩ := h.burnt hon hb hk (kObj_fine nm b h1 h2) fun m hm => (hz m hm).1
    exact .inr ⟨(burns_true hb).1, rfl, g2, g3, g4, _, g1, (hz m hm).2⟩
theorem One.seted {S : Str} {K : K4} {y : Option TS} {ds : List Dd} {nm : ByteArray} {u v b : List Int} (h : One S K (kObj nm u) y ds) (hon : S.on = true) (hK : K.ok = true) (hk : ∀ d ∈ ds, d.kind ≠ 1) (hn1 : 1 ≤ nm.size) (h1 : nm.size ≤ 20) (h2 : b.length ≤ 4096) (hu : u.length ≤ 4096)
    (hr : (nm.size : Int) + b.length ≤ S.room) (hr2 : S.room ≤ 1048576) (hz : ∀ m, m ≤ ds.length → fine ((ds.take m).foldl stepD y) ∧ objV nm ((ds.take m).foldl stepD y) v) :
    (setS S K nm b).1 ≠ 6 ∧ Kept S K nm v b (if (setS S K nm b).1 ≠ 0 then setS S K nm b else barrierS (setS S K nm b).2) := by
  have hw : whyS S K = 0 := by
    unfold whyS
    rw [if_pos (may_of hon hK), h.get]
    rfl
  have hok := setS_ok hw h.get (set_room h hn1 h1 h2 hu hr hr2)
  cases hb : (burnsS S).1 with
  | true =>
    rw [do_burnt hb] at hok
    rw [hok]
    obtain ⟨m, hm, g1, g2, g3, g4⟩ := h.burnt hon hb hk (kObj_fine nm u h1 hu) fun m hm => (hz m hm).1
    refine ⟨by simp [offE], ?_⟩
    rw [if_pos (by simp [offE])]
    exact .inr ⟨(burns_true hb).1, rfl, g2, g3, g4, _, g1, .inl (hz m hm).2⟩
  | false =>
    obtain ⟨e1, g1, g2⟩ := h.did (setD nm b) hb (kObj_fine nm u h1 hu) (by rw [step_set]; exact kObj_fine nm b h1 h2)
    rw [e1] at hok
    rw [hok]
    refine ⟨by simp [offE], ?_⟩
    rw [if_neg (by simp [offE])]
    rw [step_set] at g1
    have hbr := One.barriered (x := kObj nm b) (v := v) g1 (g2.on.trans hon) (fun d hd => by
      rcases List.mem_append.1 hd with hd | hd
      · exact hk d hd
      · rw [List.mem_singleton.1 hd]; show (4 : Int) ≠ 1; decide) h1 h2 (fun m hm => by
      by_cases hmd : m ≤ ds.length
      · rw [List.take_append_of_le_length hmd]
        exact ⟨(hz m hmd).1, .inl (hz m hmd).2⟩
      · rw [List.take_of_length_le (by simp; omega), List.foldl_append, ← h.fold]
        show fine (stepD (kObj nm u) (setD nm b)) ∧ (objV nm (stepD (kObj nm u) (setD nm b)) v ∨ objV nm (stepD (kObj nm u) (setD nm b)) b)
        rw [step_set]
        exact ⟨kObj_fine nm b h1 h2, .inr (.inr rfl)⟩)
    rcases hbr with ⟨q1, q2, q3, q4, q5⟩ | ⟨q0, q1, q2, q3, q4, q5⟩
    · exact .inl ⟨q1, q2, q3, q4.trans g2.room, q5.trans g2.armed⟩
    · exact .inr ⟨g2.armed ▸ q0, q1, q2, q3.trans g2.room, q4, q5⟩
/-- An attribute is kept, whatever falls. -/
theorem keep_law {S : Str} {K : K4} {nm : ByteArray} {x : Option TS} {v b : List Int} (h : One S K x x []) (hx : objV nm x v) (hon : S.on = true) (hK : K.ok = true) (hn1 : 1 ≤ nm.size) (hn2 : nm.size ≤ 20) (hv : v.length ≤ 4096) (hb : b.length ≤ 4096)
    (hr : (nm.size : Int) + b.length ≤ S.room) (hr2 : S.room ≤ 1048576) :
    (setS (if whyS S K ≠ 0 then (makeS S K).2 else S) K nm b).1 ≠ 6 ∧ Kept S K nm v b (keepS S K nm b) := by
  rcases hx with ⟨rfl, rfl⟩ | rfl
  · have hw : whyS S K = 4 := by
      unfold whyS
      rw [if_pos (may_of hon hK), h.get]
      rfl
    have hwn : whyS S K ≠ 0 := by rw [hw]; decide
    have hl := h.len
    have hm : makeS S K = (offE (doS S K madeD).1, (doS S K madeD).2) := by
      unfold makeS
      rw [if_neg hwn, if_neg (by simp [hw]), if_neg (by omega)]
    cases hbn : (burnsS S).1 with
    | true =>
      rw [do_burnt hbn] at hm
      obtain ⟨m, hmm, g1, g2, g3, g4⟩ := h.burnt hon hbn (fun d hd => by cases hd) none_fine (fun m _ => by simpa using none_fine)
      have hk : keepS S K nm b = (7, (burnsS S).2) := by
        unfold keepS
        rw [hm, if_pos ⟨hwn, by simp [offE]⟩]
        rfl
      rw [if_pos hwn, hm, hk]
      refine ⟨?_, .inr ⟨(burns_true hbn).1, rfl, g2, g3, g4, _, g1, .inl (.inl ⟨by simp, rfl⟩)⟩⟩
      have hw7 : whyS (burnsS S).2 K ≠ 0 := by
        unfold whyS
        have : mayS (burnsS S).2 K = 7 := by simp [mayS, g2]
        rw [this, if_neg (by decide)]
        decide
      have h7 : whyS (burnsS S).2 K = 7 := by
        unfold whyS
        have : mayS (burnsS S).2 K = 7 := by simp [mayS, g2]
        rw [this]
        rfl
      rw [setS_why hw7, h7]
      show (7 : Int) ≠ 6
      decide
    | false =>
      obtain ⟨e1, g1, g2⟩ := h.did madeD hbn none_fine (by rw [step_made _ nm]; exact kObj_fine nm [] hn2 (by simp))
      rw [step_made _ nm] at g1
      rw [e1] at hm
      obtain ⟨q1, q2⟩ := One.seted (u := []) (v := []) (b := b) g1 (g2.on.trans hon) hK (fun d hd => by rw [List.mem_singleton.1 hd]; show (0 : Int) ≠ 1; decide) hn1 hn2 hb (by simp) (by rw [g2.room]; exact hr) (by rw [g2.room]; exact hr2) (fun m hm' => by
        match m, hm' with
        | 0, _ => exact ⟨none_fine, .inl ⟨rfl, rfl⟩⟩
        | 1, _ =>
          show fine (stepD none madeD) ∧ objV nm (stepD none madeD) []
          rw [step_made _ nm]
          exact ⟨kObj_fine nm [] hn2 (by simp), .inr rfl⟩)
      have hk : keepS S K nm b = if (setS (doS S K madeD).2 K nm b).1 ≠ 0 then setS (doS S K madeD).2 K nm b else barrierS (setS (doS S K madeD).2 K nm b).2 := by
        unfold keepS
        rw [hm, if_neg (fun h => h.2 rfl), if_pos hwn]
      rw [if_pos hwn, hm, hk]
      refine ⟨q1, ?_⟩
      rcases q2 with ⟨r1, r2, r3, r4, r5⟩ | ⟨r0, r1, r2, r3, r4, r5⟩
      · exact .inl ⟨r1, r2, r3, r4.trans g2.room, r5.trans g2.armed⟩
      · exact .inr ⟨g2.armed ▸ r0, r1, r2, r3.trans g2.room, r4, r5⟩
  · have hw : whyS S K = 0 := by
      unfold whyS
      rw [if_pos (may_of hon hK), h.get]
      rfl
    have hwn : ¬ whyS S K ≠ 0 := fun h => h hw
    obtain ⟨q1, q2⟩ := One.seted (u := v) (v := v) (b := b) h hon hK (fun d hd => by cases hd) hn1 hn2 hb hv hr hr2 (fun m hm' => by
      have : ([] : List Dd).take m = [] := by simp
      rw [this]
      exact ⟨kObj_fine nm v hn2 hv, .inr rfl⟩)
    have hk : keepS S K nm b = if (setS S K nm b).1 ≠ 0 then setS S K nm b else barrierS (setS S K nm b).2 := by
      unfold keepS
      rw [if_neg (fun h => hwn h.1), if_neg hwn]
    rw [if_neg hwn, hk]
    exact ⟨q1, q2⟩
end Go.Proofs.Ytnokhjhhadnckaa
