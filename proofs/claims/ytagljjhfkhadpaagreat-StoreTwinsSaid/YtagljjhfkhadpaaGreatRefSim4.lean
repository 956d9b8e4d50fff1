/- The document's store and the program's: what each act answers, what each shows. No program in sight. -/
import Derived.Test.YtagljjhfkhadpaaGreatRefSim3
import Derived.Test.YtagljjhfkhadpaaGreatRoomsPlain
set_option linter.unusedSimpArgs false
set_option linter.unusedVariables false
set_option linter.unusedSectionVars false
namespace Go.Proofs.YtagljjhfkhadpaaGreat
open Go.RowKit
section
variable {S : Str} {R : RS} {c : Nat}
theorem SR.used_eq (h : SR S R) (hi : RInv R c) : S.used = rused R.l ∧ 0 ≤ rused R.l ∧ rused R.l ≤ 1000000000000000 := by
  have hb := rused_small hi R.l.length
  rw [List.take_length] at hb
  refine ⟨?_, hb⟩
  rw [h.used, h.sum]
  unfold wrap64
  omega
theorem SR.roomy (h : SR S R) (hi : RInv R c) : roomS S = rleft R := by
  obtain ⟨h1, h2, h3⟩ := h.used_eq hi
  have h4 := hi.room
  unfold roomS rleft
  rw [h.room, h1]
  unfold wrap64
  omega
theorem wet_bound : ∀ {L : List RT}, (∀ t ∈ L, t.wet.length ≤ c) → 0 ≤ wetSum L ∧ wetSum L ≤ (L.length : Int) * c
  | [], _ => by simp [wetSum]
  | t :: L, h => by
    have ih := wet_bound (L := L) fun u hu => h u (List.mem_cons_of_mem _ hu)
    have ht := h t (List.mem_cons_self ..)
    unfold wetSum at *
    simp only [List.map_cons, List.sum_cons, List.length_cons]
    have : ((L.length + 1 : Nat) : Int) * c = (L.length : Int) * c + c := by rw [Int.natCast_add, Int.add_mul]; simp
    rw [this]
    omega
theorem SR.wet_eq (h : SR S R) (hi : RInv R c) : S.wet = wetSum R.l ∧ 0 ≤ wetSum R.l ∧ wetSum R.l ≤ 10000000000 := by
  have hb := wet_bound (c := c) (L := R.l) fun t ht => by have := (hi.fits t ht).size; omega
  have h1 := hi.len
  have h2 := hi.most
  have h3 : (R.l.length : Int) * c ≤ 100000 * 100000 := by
    have := Nat.mul_le_mul (show R.l.length ≤ 100000 by omega) h2
    have h4 : ((R.l.length * c : Nat) : Int) ≤ ((100000 * 100000 : Nat) : Int) := by exact_mod_cast this
    rw [Int.natCast_mul] at h4
    exact h4
  refine ⟨?_, hb.1, by omega⟩
  rw [h.wet]
  unfold wrap64
  omega
theorem rdo_off {k : K4} {d : RD} (h : R.off = true) : rdo R k d = (7, R) := rdo_err (e := 7) (by simp [rwhy, h]) (by decide)
theorem rdo_bad {k : K4} {d : RD} (h : R.off = false) (hk : k.ok = false) : rdo R k d = (1, R) := rdo_err (e := 1) (by simp [rwhy, h, hk]) (by decide)
theorem SR.why_off (h : SR S R) {k : K4} (ho : R.off = true) : whyS S k = 7 := by
  unfold whyS mayS
  rw [h.on, ho]
  simp
theorem SR.why_bad (h : SR S R) {k : K4} (ho : R.off = false) (hk : k.ok = false) : whyS S k = 1 := by
  unfold whyS mayS
  rw [h.on, ho, hk]
  simp
theorem SR.why_on (h : SR S R) {k : K4} (ho : R.off = false) (hk : k.ok = true) : whyS S k = if (get k S.seen).isSome then 0 else 4 := by
  unfold whyS mayS
  rw [h.on, ho, hk]
  simp
theorem rdo_ok {k : K4} {d : RD} (h : rwhy R k d = 0) : rdo R k d = (if (rburn R).1 then 7 else 0, if (rburn R).1 then (rburn R).2 else { (rburn R).2 with l := rput R.l k (rdeed (rbody R k) d), count := wrap64 (R.count + 1) }) := by
  unfold rdo
  rw [if_neg (by simp [h])]
  split <;> rfl
theorem rdo_not {k : K4} {d : RD} (h : R.off = false) (hk : k.ok = true) (h1 : d.what ≠ 1) (hb : (rbody R k).there = false) : rdo R k d = (4, R) := rdo_err (e := 4) (by simp [rwhy, h, hk, h1, hb]) (by decide)
/-- Both do the deed. -/
theorem SR.both (h : SR S R) (ho : R.off = false) {k : K4} {d : RD} {d' : Dd} (hl : LegD (get k S.seen) (rdeed (rbody R k) d)) (he : toD (rdeed (rbody R k) d) = d') (hw : rwhy R k d = 0) :
    offE (doS S k d').1 = (rdo R k d).1 ∧ SR (doS S k d').2 (rdo R k d).2 := by
  rw [← he, rdo_ok hw]
  exact h.done ho hl
theorem things_few (hi : RInv R c) : rthings R.l ≤ c := by
  have := List.countP_le_length (p := fun t : RT => (rnow t).there) (l := R.l)
  unfold rthings
  have := hi.len
  omega
theorem SR.make (h : SR S R) (hi : RInv R c) (hc : c < 2000) (k : K4) : (makeS S k).1 = (rdo R k ⟨1, 0, ⟨#[]⟩, []⟩).1 ∧ SR (makeS S k).2 (rdo R k ⟨1, 0, ⟨#[]⟩, []⟩).2 := by
  have hth := (h.body k).there
  cases ho : R.off with
  | true =>
    rw [rdo_off ho]
    unfold makeS
    rw [h.why_off ho]
    exact ⟨rfl, h⟩
  | false =>
    cases hk : k.ok with
    | false =>
      rw [rdo_bad ho hk]
      unfold makeS
      rw [h.why_bad ho hk]
      exact ⟨rfl, h⟩
    | true =>
      unfold makeS
      rw [h.why_on ho hk]
      cases hg : get k S.seen with
      | some t =>
        rw [hg] at hth
        have e : rdo R k ⟨1, 0, ⟨#[]⟩, []⟩ = (5, R) := rdo_err (e := 5) (by simp [rwhy, ho, hk, hth]) (by decide)
        rw [e]
        exact ⟨rfl, h⟩
      | none =>
        rw [hg] at hth
        have hf := h.few
        have hl := hi.len
        have ht := things_few hi
        simp only [Option.isSome_none, Bool.false_eq_true, if_false]
        rw [if_neg (by omega), if_neg (by omega), if_neg (by omega)]
        have hw : rwhy R k ⟨1, 0, ⟨#[]⟩, []⟩ = 0 := by
          unfold rwhy
          rw [if_neg (by simp [ho]), if_neg (by simp [hk]), if_neg (by simp [hth]), if_neg (by simp; omega), if_neg (by simp), if_neg (by simp), if_neg (by simp [rdeed]), if_neg (by simp [rdeed])]
        refine h.both ho (d' := madeD) ?_ ?_ hw
        · exact ⟨by simp [rdeed], by simp [rdeed], .inl (by simp [rdeed])⟩
        · simp [rdeed, toD]
theorem SR.write (h : SR S R) (hi : RInv R c) (k : K4) (off : Int) (p : List Int) : (writeS S k off p).1 = (rdo R k ⟨2, off, ⟨#[]⟩, p⟩).1 ∧ SR (writeS S k off p).2 (rdo R k ⟨2, off, ⟨#[]⟩, p⟩).2 := by
  have hb := h.body k
  have hth := hb.there
  cases ho : R.off with
  | true => rw [rdo_off ho, writeS_why (by rw [h.why_off ho]; decide), h.why_off ho]; exact ⟨rfl, h⟩
  | false =>
    cases hk : k.ok with
    | false => rw [rdo_bad ho hk, writeS_why (by rw [h.why_bad ho hk]; decide), h.why_bad ho hk]; exact ⟨rfl, h⟩
    | true =>
      have hw := h.why_on ho hk
      cases hg : get k S.seen with
      | none =>
        rw [hg] at hth hw
        rw [rdo_not ho hk (by simp) hth, writeS_why (by rw [hw]; decide), hw]
        exact ⟨rfl, h⟩
      | some t =>
        rw [hg] at hth hw hb
        have hw : whyS S k = 0 := hw
        have hd : rdeed (rbody R k) ⟨2, off, ⟨#[]⟩, p⟩ = ⟨2, off, ⟨#[]⟩, p⟩ := by simp [rdeed]
        have hrg : (off < 0 ∨ 16384 < (p.length : Int) ∨ 16384 - (p.length : Int) < off) ↔ (off < 0 ∨ 16384 - min (p.length : Int) 16384 < off ∨ 16384 < p.length) := by omega
        have hdiff : rweight (rafter (rbody R k) ⟨2, off, ⟨#[]⟩, p⟩) - rweight (rbody R k) = ((layB t.b off.toNat p).length : Int) - t.b.length := by
          simp only [rafter, rweight]
          rw [hb.2.1]
          simp
          omega
        by_cases hr : off < 0 ∨ 16384 < (p.length : Int) ∨ 16384 - (p.length : Int) < off
        · have e1 : writeWhy S t off p = 3 := by unfold writeWhy; rw [if_pos hr]
          have e2 : rdo R k ⟨2, off, ⟨#[]⟩, p⟩ = (3, R) := rdo_err (e := 3) (by
            unfold rwhy
            rw [if_neg (by simp [ho]), if_neg (by simp [hk]), if_neg (by simp), if_neg (by simp), if_neg (by simp [hth]), if_neg (by simp), hd, if_pos ⟨rfl, hrg.1 hr⟩]) (by decide)
          rw [writeS_bad hw hg (by rw [e1]; decide), e1, e2]
          exact ⟨rfl, h⟩
        · by_cases hf : p ≠ [] ∧ roomS S < off + p.length - t.b.length
          · have e1 : writeWhy S t off p = 6 := by unfold writeWhy; rw [if_neg hr, if_pos hf]
            have hlt : rleft R < rweight (rafter (rbody R k) ⟨2, off, ⟨#[]⟩, p⟩) - rweight (rbody R k) := by
              rw [hdiff, ← h.roomy hi, layB_length, if_neg hf.1]
              have := hf.2
              omega
            have e2 : rdo R k ⟨2, off, ⟨#[]⟩, p⟩ = (6, R) := rdo_err (e := 6) (by
              unfold rwhy
              rw [if_neg (by simp [ho]), if_neg (by simp [hk]), if_neg (by simp), if_neg (by simp), if_neg (by simp [hth]), if_neg (by simp), hd, if_neg (fun q => hr (hrg.2 q.2)), if_pos ⟨.inl rfl, hlt⟩]) (by decide)
            rw [writeS_bad hw hg (by rw [e1]; decide), e1, e2]
            exact ⟨rfl, h⟩
          · have e1 : writeWhy S t off p = 0 := by unfold writeWhy; rw [if_neg hr, if_neg hf]
            have e2 : rwhy R k ⟨2, off, ⟨#[]⟩, p⟩ = 0 := by
              unfold rwhy
              rw [if_neg (by simp [ho]), if_neg (by simp [hk]), if_neg (by simp), if_neg (by simp), if_neg (by simp [hth]), if_neg (by simp), hd, if_neg (fun q => hr (hrg.2 q.2)), if_neg (fun q => hf ?_)]
              have q2 := q.2
              rw [hdiff, ← h.roomy hi, layB_length] at q2
              have hr0 : 0 ≤ roomS S := by unfold roomS; omega
              by_cases hp : p = []
              · rw [if_pos hp] at q2; omega
              · rw [if_neg hp] at q2
                exact ⟨hp, by omega⟩
            rw [writeS_ok hw hg e1]
            refine h.both ho (d' := wroteD off p) ?_ ?_ e2
            · rw [hd, hg]
              exact ⟨by simp, by simp, .inr rfl⟩
            · simp [hd, toD]
theorem rdo_append (k : K4) (p : List Int) : rdo R k ⟨6, 0, ⟨#[]⟩, p⟩ = rdo R k ⟨2, (rbody R k).data.length, ⟨#[]⟩, p⟩ := by
  have e : rdeed (rbody R k) ⟨6, 0, ⟨#[]⟩, p⟩ = rdeed (rbody R k) ⟨2, (rbody R k).data.length, ⟨#[]⟩, p⟩ := by simp [rdeed]
  have e2 : rwhy R k ⟨6, 0, ⟨#[]⟩, p⟩ = rwhy R k ⟨2, (rbody R k).data.length, ⟨#[]⟩, p⟩ := by
    unfold rwhy
    rw [e]
    simp
  unfold rdo
  rw [e, e2]
theorem SR.append (h : SR S R) (hi : RInv R c) (k : K4) (p : List Int) : (appendS S k p).1 = (rdo R k ⟨6, 0, ⟨#[]⟩, p⟩).1 ∧ SR (appendS S k p).2 (rdo R k ⟨6, 0, ⟨#[]⟩, p⟩).2 := by
  rw [rdo_append]
  have hb := h.body k
  unfold appendS
  cases hg : get k S.seen with
  | none =>
    have hw := h.write hi k (rbody R k).data.length p
    unfold writeS at hw
    rw [hg] at hw
    exact hw
  | some t =>
    rw [hg] at hb
    rw [hb.2.1]
    exact h.write hi k t.b.length p
theorem SR.trim (h : SR S R) (k : K4) (n : Int) : (trimS S k n).1 = (rdo R k ⟨3, n, ⟨#[]⟩, []⟩).1 ∧ SR (trimS S k n).2 (rdo R k ⟨3, n, ⟨#[]⟩, []⟩).2 := by
  have hb := h.body k
  have hth := hb.there
  unfold trimS
  cases ho : R.off with
  | true => rw [rdo_off ho, h.why_off ho]; cases get k S.seen <;> exact ⟨rfl, h⟩
  | false =>
    cases hk : k.ok with
    | false => rw [rdo_bad ho hk, h.why_bad ho hk]; cases get k S.seen <;> exact ⟨rfl, h⟩
    | true =>
      have hw := h.why_on ho hk
      cases hg : get k S.seen with
      | none =>
        rw [hg] at hth hw
        rw [rdo_not ho hk (by simp) hth, hw]
        exact ⟨rfl, h⟩
      | some t =>
        rw [hg] at hth hw hb
        have hw : whyS S k = 0 := hw
        simp only
        rw [if_pos hw]
        have hd : rdeed (rbody R k) ⟨3, n, ⟨#[]⟩, []⟩ = ⟨3, heldI n 0 t.b.length, ⟨#[]⟩, []⟩ := by
          simp [rdeed, hb.2.1]
        refine h.both ho (d' := cutD t n) ?_ ?_ ?_
        · rw [hd, hg]
          exact ⟨by simp, by simp, .inr rfl⟩
        · rw [hd]
          simp only [toD, cutD]
          have : heldI n 0 t.b.length = max 0 (min n t.b.length) := by
            unfold heldI
            split
            · omega
            · split <;> omega
          rw [this]
          simp
        · unfold rwhy
          rw [if_neg (by simp [ho]), if_neg (by simp [hk]), if_neg (by simp), if_neg (by simp), if_neg (by simp [hth]), if_neg (by simp), hd, if_neg (by simp), if_neg (by simp)]
theorem SR.drop (h : SR S R) (k : K4) : (dropS S k).1 = (rdo R k ⟨4, 0, ⟨#[]⟩, []⟩).1 ∧ SR (dropS S k).2 (rdo R k ⟨4, 0, ⟨#[]⟩, []⟩).2 := by
  have hb := h.body k
  have hth := hb.there
  unfold dropS
  cases ho : R.off with
  | true => rw [rdo_off ho, h.why_off ho]; exact ⟨rfl, h⟩
  | false =>
    cases hk : k.ok with
    | false => rw [rdo_bad ho hk, h.why_bad ho hk]; exact ⟨rfl, h⟩
    | true =>
      have hw := h.why_on ho hk
      cases hg : get k S.seen with
      | none =>
        rw [hg] at hth hw
        rw [rdo_not ho hk (by simp) hth, hw]
        exact ⟨rfl, h⟩
      | some t =>
        rw [hg] at hth hw hb
        have hw : whyS S k = 0 := hw
        rw [if_pos hw]
        have hd : rdeed (rbody R k) ⟨4, 0, ⟨#[]⟩, []⟩ = ⟨4, 0, ⟨#[]⟩, []⟩ := by simp [rdeed]
        refine h.both ho ?_ ?_ ?_
        · rw [hd, hg]
          exact ⟨by simp, by simp, .inr rfl⟩
        · rw [hd]
          simp [toD]
        · unfold rwhy
          rw [if_neg (by simp [ho]), if_neg (by simp [hk]), if_neg (by simp), if_neg (by simp), if_neg (by simp [hth]), if_neg (by simp), hd, if_neg (by simp), if_neg (by simp)]
theorem grow_eq {b : RB} {t : TS} (hb : SameB b (some t)) (nm : ByteArray) (v : List Int) : rweight (rafter b ⟨5, 0, nm, v⟩) - rweight b = growS t nm v := by
  obtain ⟨q1, q2, q3, q4⟩ := hb
  have hn : (t.attr.map (·.1)).Nodup := nodup_perm (rise_nodup q3) q4
  have h1 : rweight (rafter b ⟨5, 0, nm, v⟩) = b.data.length + attrSize (setAttr t.attr nm v) := by
    simp only [rafter, rweight]
    rw [← attrSize_perm (rset_perm q3 q4 nm v)]
    simp
  have h2 : rweight b = b.data.length + attrSize t.attr := by unfold rweight; rw [attrSize_perm q4]
  rw [h1, h2]
  have h3 := attr_del hn nm
  have hold : growS t nm v = (if v = [] then 0 else (nm.size : Int) + v.length) - (attrSize t.attr - attrSize (del nm t.attr)) := by
    rw [h3]
    unfold growS
    cases get nm t.attr <;> simp
  rw [hold]
  unfold setAttr
  by_cases hv : v = []
  · rw [if_pos hv, if_pos hv]
    omega
  · rw [if_neg hv, if_neg hv]
    have : attrSize (put nm v t.attr) = (nm.size : Int) + v.length + attrSize (del nm t.attr) := by simp [attrSize, put]
    rw [this]
    omega
theorem SR.set (h : SR S R) (hi : RInv R c) (k : K4) (nm : ByteArray) (v : List Int) : (setS S k nm v).1 = (rdo R k ⟨5, 0, nm, v⟩).1 ∧ SR (setS S k nm v).2 (rdo R k ⟨5, 0, nm, v⟩).2 := by
  have hb := h.body k
  have hth := hb.there
  cases ho : R.off with
  | true => rw [rdo_off ho, setS_why (by rw [h.why_off ho]; decide), h.why_off ho]; exact ⟨rfl, h⟩
  | false =>
    cases hk : k.ok with
    | false => rw [rdo_bad ho hk, setS_why (by rw [h.why_bad ho hk]; decide), h.why_bad ho hk]; exact ⟨rfl, h⟩
    | true =>
      have hw := h.why_on ho hk
      cases hg : get k S.seen with
      | none =>
        rw [hg] at hth hw
        rw [rdo_not ho hk (by simp) hth, setS_why (by rw [hw]; decide), hw]
        exact ⟨rfl, h⟩
      | some t =>
        rw [hg] at hth hw hb
        have hw : whyS S k = 0 := hw
        have hd : rdeed (rbody R k) ⟨5, 0, nm, v⟩ = ⟨5, 0, nm, v⟩ := by simp [rdeed]
        by_cases hr : nm.size < 1 ∨ 20 < nm.size ∨ 4096 < v.length
        · have e1 : setWhy S t nm v = 1 := by unfold setWhy; rw [if_pos hr]
          have e2 : rdo R k ⟨5, 0, nm, v⟩ = (1, R) := rdo_err (e := 1) (by
            unfold rwhy
            rw [if_neg (by simp [ho]), if_neg (by simp [hk]), if_neg (by simp), if_neg (by simp), if_neg (by simp [hth]), if_pos ⟨rfl, hr⟩]) (by decide)
          rw [setS_bad hw hg (by rw [e1]; decide), e1, e2]
          exact ⟨rfl, h⟩
        · by_cases hf : roomS S < growS t nm v
          · have e1 : setWhy S t nm v = 6 := by unfold setWhy; rw [if_neg hr, if_pos hf]
            have hlt : rleft R < rweight (rafter (rbody R k) ⟨5, 0, nm, v⟩) - rweight (rbody R k) := by
              rw [grow_eq hb, ← h.roomy hi]
              exact hf
            have e2 : rdo R k ⟨5, 0, nm, v⟩ = (6, R) := rdo_err (e := 6) (by
              unfold rwhy
              rw [if_neg (by simp [ho]), if_neg (by simp [hk]), if_neg (by simp), if_neg (by simp), if_neg (by simp [hth]), if_neg (fun q => hr q.2), hd, if_neg (by simp), if_pos ⟨.inr rfl, hlt⟩]) (by decide)
            rw [setS_bad hw hg (by rw [e1]; decide), e1, e2]
            exact ⟨rfl, h⟩
          · have e1 : setWhy S t nm v = 0 := by unfold setWhy; rw [if_neg hr, if_neg hf]
            have e2 : rwhy R k ⟨5, 0, nm, v⟩ = 0 := by
              unfold rwhy
              rw [if_neg (by simp [ho]), if_neg (by simp [hk]), if_neg (by simp), if_neg (by simp), if_neg (by simp [hth]), if_neg (fun q => hr q.2), hd, if_neg (by simp), if_neg (fun q => hf ?_)]
              have q2 := q.2
              rw [grow_eq hb, ← h.roomy hi] at q2
              exact q2
            rw [setS_ok hw hg e1]
            refine h.both ho (d' := setD nm v) ?_ ?_ e2
            · rw [hd, hg]
              exact ⟨by simp, by simp, .inr rfl⟩
            · simp [hd, toD]
theorem SR.act (h : SR S R) (hi : RInv R c) (hc : c < 2000) (a : A3) (h0 : 0 ≤ a.what ∧ a.what < 7) : (actS S a).1 = (actR R a).1 ∧ SR (actS S a).2 (actR R a).2 := by
  have h7 : a.what = 0 ∨ a.what = 1 ∨ a.what = 2 ∨ a.what = 3 ∨ a.what = 4 ∨ a.what = 5 ∨ a.what = 6 := by omega
  unfold actS actR actD
  rcases h7 with e | e | e | e | e | e | e <;> rw [e] <;> simp
  · exact h.make hi hc a.key
  · exact h.write hi a.key a.off a.p
  · exact h.append hi a.key a.p
  · exact h.trim a.key a.n
  · exact h.drop a.key
  · exact h.set hi a.key a.name a.p
  · exact h.bar
theorem SR.read (h : SR S R) (k : K4) (off n : Int) : readS S k off n = rread R k off n := by
  have hb := h.body k
  have hth := hb.there
  unfold readS rread
  cases ho : R.off with
  | true => rw [h.why_off ho]; simp
  | false =>
    cases hk : k.ok with
    | false => rw [h.why_bad ho hk]; simp
    | true =>
      rw [h.why_on ho hk]
      cases hg : get k S.seen with
      | none => rw [hg] at hth; simp [hth]
      | some t =>
        rw [hg] at hth hb
        rw [hb.2.1]
        simp [hth]
theorem SR.attr (h : SR S R) (k : K4) (nm : ByteArray) : attrS S k nm = rattr R k nm := by
  have hb := h.body k
  unfold attrS rattr
  cases ho : R.off with
  | true => rw [h.why_off ho]; simp
  | false =>
    cases hk : k.ok with
    | false => rw [h.why_bad ho hk]; simp
    | true =>
      rw [h.why_on ho hk]
      cases hg : get k S.seen with
      | none =>
        rw [hg] at hb
        rw [show rbody R k = RB.no from hb]
        simp [RB.no]
      | some t =>
        rw [hg] at hb
        have ha := hb.attr nm
        simp only [Option.isSome_some, if_true, Bool.false_eq_true, if_false]
        cases hf : (rbody R k).attrs.find? fun x => x.1.toList == nm.toList with
        | none =>
          rw [hf] at ha
          rw [← ha]
          simp
        | some x =>
          rw [hf] at ha
          rw [← ha]
          simp
end
end Go.Proofs.YtagljjhfkhadpaaGreat
