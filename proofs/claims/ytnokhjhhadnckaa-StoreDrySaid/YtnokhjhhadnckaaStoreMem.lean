/- The store in memory. -/
import Derived.Test.YtnokhjhhadnckaaStoreFns
import Derived.Test.YtnokhjhhadnckaaProg
import Derived.WalkKit
import Derived.WalkSpells
set_option linter.unusedSimpArgs false
set_option linter.unusedVariables false
set_option linter.unusedSectionVars false
namespace Go.Proofs.Ytnokhjhhadnckaa
open Go.RowKit
section keys
theorem key_under : Try.prog.underlying 27 = some (.struct (Try.prog.fieldsOf 27)) := by kernel_rfl
theorem grp_under : Try.prog.underlying 113 = some (.struct (Try.prog.fieldsOf 113)) := by kernel_rfl
theorem key_stood : Try.prog.stoodInHeld 27 = false := by kernel_rfl
theorem grp_stood : Try.prog.stoodInHeld 113 = false := by kernel_rfl
theorem key_fields : (Try.prog.fieldsOf 27).toList.map (fun f => (f.name == "_", f.type, f.offset)) = [(false, 3, 0), (false, 3, 1), (false, 3, 2), (false, 3, 3)] := by kernel_rfl
theorem grp_fields : (Try.prog.fieldsOf 113).toList.map (fun f => (f.name == "_", f.type, f.offset)) = [(false, 3, 0), (false, 3, 1)] := by kernel_rfl
set_option maxRecDepth 100000 in
theorem key_eqRun (a0 a1 a2 a3 b0 b1 b2 b3 : Int) (w : World) : (Op.equalIn 10000 27 (.agg #[.int .i64 a0, .int .i64 a1, .int .i64 a2, .int .i64 a3]) (.agg #[.int .i64 b0, .int .i64 b1, .int .i64 b2, .int .i64 b3])).run Try.prog w = .ok (a0 == b0 && a1 == b1 && a2 == b2 && a3 == b3) w := by
  rw [run_equalIn_struct w 9999 _ _ _ key_under key_stood]
  obtain ⟨fs, hfs⟩ : ∃ fs, (Try.prog.fieldsOf 27).toList = fs := ⟨_, rfl⟩
  have h := key_fields
  rw [hfs] at h ⊢
  match fs, h with
  | [f0, f1, f2, f3], h =>
    simp only [List.map_cons, List.map_nil, List.cons.injEq, Prod.mk.injEq, beq_eq_false_iff_ne, and_true] at h
    obtain ⟨⟨n0, t0, o0⟩, ⟨n1, t1, o1⟩, ⟨n2, t2, o2⟩, ⟨n3, t3, o3⟩⟩ := h
    simp only [Op.eqFields, n0, n1, n2, n3, t0, t1, t2, t3, o0, o1, o2, o3, ne_eq, not_false_eq_true, if_true]
    simp [go_sem]
    by_cases e0 : a0 = b0 <;> by_cases e1 : a1 = b1 <;> by_cases e2 : a2 = b2 <;> by_cases e3 : a3 = b3 <;> simp [e0, e1, e2, e3]
set_option maxRecDepth 100000 in
theorem grp_eqRun (a0 a1 b0 b1 : Int) (w : World) : (Op.equalIn 10000 113 (.agg #[.int .i64 a0, .int .i64 a1]) (.agg #[.int .i64 b0, .int .i64 b1])).run Try.prog w = .ok (a0 == b0 && a1 == b1) w := by
  rw [run_equalIn_struct w 9999 _ _ _ grp_under grp_stood]
  obtain ⟨fs, hfs⟩ : ∃ fs, (Try.prog.fieldsOf 113).toList = fs := ⟨_, rfl⟩
  have h := grp_fields
  rw [hfs] at h ⊢
  match fs, h with
  | [f0, f1], h =>
    simp only [List.map_cons, List.map_nil, List.cons.injEq, Prod.mk.injEq, beq_eq_false_iff_ne, and_true] at h
    obtain ⟨⟨n0, t0, o0⟩, ⟨n1, t1, o1⟩⟩ := h
    simp only [Op.eqFields, n0, n1, t0, t1, o0, o1, ne_eq, not_false_eq_true, if_true]
    simp [go_sem]
    by_cases e0 : a0 = b0 <;> by_cases e1 : a1 = b1 <;> simp [e0, e1]
theorem key_eqIn (x y : K4) (w : World) : (Op.equalIn 10000 27 x.val y.val).run Try.prog w = .ok (decide (x = y)) w := by
  obtain ⟨a0, a1, a2, a3⟩ := x
  obtain ⟨b0, b1, b2, b3⟩ := y
  have e : decide (K4.mk a0 a1 a2 a3 = K4.mk b0 b1 b2 b3) = (a0 == b0 && a1 == b1 && a2 == b2 && a3 == b3) := by
    rw [Bool.eq_iff_iff]
    simp [and_assoc]
  rw [e]
  exact key_eqRun _ _ _ _ _ _ _ _ w
theorem grp_eqIn (x y : G2) (w : World) : (Op.equalIn 10000 113 x.val y.val).run Try.prog w = .ok (decide (x = y)) w := by
  obtain ⟨a0, a1⟩ := x
  obtain ⟨b0, b1⟩ := y
  have e : decide (G2.mk a0 a1 = G2.mk b0 b1) = (a0 == b0 && a1 == b1) := by
    rw [Bool.eq_iff_iff]
    simp
  rw [e]
  exact grp_eqRun _ _ _ _ w
/-- Keys that are structs: found by asking one behind the other. -/
theorem find_asking {K : Type} [DecidableEq K] {P : Program} {k : TypeId} {fs : Array Field} (hu : P.underlying k = some (.struct fs)) (kv : K → Value) (heq : ∀ (w : World) (a b : K), (Op.equal k (kv a) (kv b)).run P w = .ok (decide (a = b)) w)
    (w : World) (a : K) (L : List (K × Value)) (es : List MapEntry) (h : es.map (fun x => (x.key, x.val)) = L.map (fun p => (kv p.1, p.2))) : (Instr.findKey k (kv a) es).run P w = .ok (at_ a L 0) w := by
  have ask : ∀ (L : List (K × Value)) (es : List MapEntry) (i : Nat), es.map (fun x => (x.key, x.val)) = L.map (fun p => (kv p.1, p.2)) → (Instr.findAsking k (kv a) es i).run P w = .ok (at_ a L i) w := by
    intro L
    induction L with
    | nil =>
      intro es i h
      have : es = [] := by simpa using h
      subst this
      simp [Instr.findAsking, at_]
    | cons p L ih =>
      intro es i h
      match es, h with
      | e :: es, h =>
        simp only [List.map_cons, List.cons.injEq, Prod.mk.injEq] at h
        obtain ⟨⟨h1, h2⟩, h3⟩ := h
        obtain ⟨c, v⟩ := p
        simp only at h1 h2
        simp only [Instr.findAsking, h1, Sem.run_bind, heq, Result.andThen, at_]
        by_cases e1 : a = c
        · simp [e1, h2]
        · simp [e1, ih es (i + 1) h3]
  match L, es, h with
  | [], [], _ => simp [Instr.findKey, run_underlying hu, Instr.findNow, at_, Result.andThen]
  | p :: L, e :: es, h =>
    have h2 := ask _ _ 0 h
    simp only [Instr.findKey, Sem.run_bind, run_underlying hu, Result.andThen, Instr.findNow, Instr.sameNow]
    simpa using h2
def keyKT : KT Try.prog 27 K4 where
  kv := K4.val
  inj := fun {a b} h => by
    obtain ⟨a0, a1, a2, a3⟩ := a
    obtain ⟨b0, b1, b2, b3⟩ := b
    simpa [K4.val] using h
  check := fun w em a => by
    obtain ⟨a0, a1, a2, a3⟩ := a
    cases em <;> (unfold K4.val; kernel_rfl)
  find := fun w a L es h => find_asking key_under K4.val (fun w a b => key_eqIn a b w) w a L es h
  stays := fun w a => by simp [Instr.keyThatStays, Instr.sameBits, K4.val]
def grpKT : KT Try.prog 113 G2 where
  kv := G2.val
  inj := fun {a b} h => by
    obtain ⟨a0, a1⟩ := a
    obtain ⟨b0, b1⟩ := b
    simpa [G2.val] using h
  check := fun w em a => by
    obtain ⟨a0, a1⟩ := a
    cases em <;> (unfold G2.val; kernel_rfl)
  find := fun w a L es h => find_asking grp_under G2.val (fun w a b => grp_eqIn a b w) w a L es h
  stays := fun w a => by simp [Instr.keyThatStays, Instr.sameBits, G2.val]
theorem bytes_beq' (a b : ByteArray) : (a == b) = decide (a = b) := by
  by_cases h : a = b
  · simp [h, (MapKept.bytes_beq b b).2 rfl]
  · simp only [h, decide_false]
    cases e : a == b
    · rfl
    · exact absurd ((MapKept.bytes_beq a b).1 e) h
def nameKT : KT Try.prog 9 ByteArray where
  kv := Value.string
  inj := fun {a b} h => by simpa using h
  check := fun w em a => MapKept.run_checkKey (d := .string) Try.underlying9 (by simp [MapKept.IsKey]) em 9999
  find := fun w a L es h => by
    have now : ∀ (L : List (ByteArray × Value)) (es : List MapEntry) (i : Nat), es.map (fun x => (x.key, x.val)) = L.map (fun p => (Value.string p.1, p.2)) → Instr.findNow .string (.string a) es i = some (at_ a L i) := by
      intro L
      induction L with
      | nil =>
        intro es i h
        have : es = [] := by simpa using h
        subst this
        rfl
      | cons p L ih =>
        intro es i h
        match es, h with
        | e :: es, h =>
          simp only [List.map_cons, List.cons.injEq, Prod.mk.injEq] at h
          obtain ⟨⟨h1, h2⟩, h3⟩ := h
          obtain ⟨c, v⟩ := p
          simp only at h1 h2
          simp only [Instr.findNow, h1, Instr.sameNow, bytes_beq', at_]
          by_cases e1 : a = c
          · simp [e1, h2]
          · simp [e1, ih es (i + 1) h3]
    exact MapKept.run_findKey Try.underlying9 (now L es 0 h)
  stays := fun w a => MapKept.run_keyThatStays (d := .string) (by simp [MapKept.IsKey])
end keys

/-- A row that is never written again reads as xs. -/
def RowI (I : Hp) (size : Nat) (v : Value) (n : Nat) (xs : List Value) : Prop :=
  ∃ A c, v = .slice A n c ∧ xs.length = n * size ∧ n ≤ c ∧ c ≤ maxLen ∧ (A = none → c = 0) ∧
    (0 < n → ∃ b off cs t f, A = some ⟨b, off, none⟩ ∧ I b = some (.cells cs t f) ∧ ∀ i x, xs[i]? = some x → cs[off + i]? = some x)
theorem RowI.mono {I I' : Hp} {size : Nat} {v : Value} {n : Nat} {xs : List Value} (s : I.sub I') (h : RowI I size v n xs) : RowI I' size v n xs := by
  obtain ⟨A, c, h1, h2, h3, h4, h5, h6⟩ := h
  refine ⟨A, c, h1, h2, h3, h4, h5, fun hn => ?_⟩
  obtain ⟨b, off, cs, t, f, e1, e2, e3⟩ := h6 hn
  exact ⟨b, off, cs, t, f, e1, s _ _ e2, e3⟩
def BytesI (I : Hp) (v : Value) (p : List Int) : Prop := RowI I 1 v p.length (p.map byteV)
def IntsI (I : Hp) (v : Value) (p : List Int) : Prop := RowI I 1 v p.length (p.map intV)
def bytesIP (v : Value) (p : List Int) : IP := ⟨fun I => BytesI I v p, fun s h => RowI.mono s h⟩
def intsIP (v : Value) (p : List Int) : IP := ⟨fun I => IntsI I v p, fun s h => RowI.mono s h⟩
def bytesHP (v : Value) (p : List Int) : HP := HP.row 5 1 v p.length (p.map byteV)
def attrOwn (v : Value) (p : List Int) : HP := HP.imm (bytesIP v p)
def thingHP (v : Value) (t : TS) : HP :=
  HP.ex fun x : Nat × Nat × Value => HP.all [HP.pure (v = .pointer (some ⟨x.1, 0, none⟩)), HP.pt x.1 (.cells #[x.2.2, .map (some x.2.1)] 100), bytesHP x.2.2 t.b, HP.mapOf nameKT attrOwn x.2.1 t.attr]
def dcells : List Dd → List Value → List Value
  | d :: ds, p :: ps => intV d.kind :: intV d.n :: p :: .string d.name :: dcells ds ps
  | _, _ => []
def psIP (ds : List Dd) (ps : List Value) : IP := ⟨fun I => ps.length = ds.length ∧ ∀ (i : Nat) (d : Dd) (p : Value), ds[i]? = some d → ps[i]? = some p → BytesI I p d.p, fun s h => ⟨h.1, fun i d p e f => (bytesIP p d.p).mono s (h.2 i d p e f)⟩⟩
def deedsHP (v : Value) (ds : List Dd) : HP :=
  HP.ex fun ps : List Value => HP.all [HP.imm (psIP ds ps), HP.row 95 4 v ds.length (dcells ds ps)]
def keysHP (v : Value) (ks : List K4) : HP := HP.row 27 4 v ks.length (ks.flatMap K4.vals)
/-- The blocks and the slice of a store's struct. -/
structure SB where
  m1 : Nat
  m2 : Nat
  m3 : Nat
  m4 : Nat
  vk : Value
def storeCells (S : Str) (B : SB) : Array Value :=
  #[.int .i64 S.room, .int .i64 S.used, .int .i64 S.deeds, .int .i64 S.wet, .bool S.on, .map (some B.m1), .map (some B.m2), .map (some B.m3), .map (some B.m4), .bool S.armed, .int .i64 S.fuse, .int .i64 S.torn, B.vk]
def storeBlk (p : Nat) (S : Str) (B : SB) : HP := HP.pt p (.cells (storeCells S B) 89)
def seenHP (B : SB) (S : Str) : HP := HP.mapOf keyKT thingHP B.m1 S.seen
def dryHP (B : SB) (S : Str) : HP := HP.mapOf keyKT thingHP B.m2 S.dry
def lateHP (B : SB) (S : Str) : HP := HP.mapOf keyKT deedsHP B.m3 S.late
def keyHP (B : SB) (S : Str) : HP := HP.mapOf grpKT keysHP B.m4 S.keys
def storeHP (p : Nat) (S : Str) : HP :=
  HP.ex fun B : SB => HP.all [storeBlk p S B, seenHP B S, dryHP B S, lateHP B S, keyHP B S, HP.imm (intsIP B.vk S.keep)]
variable {W w : World} {I : Hp} {l : List HP} {p : Nat} {S : Str}
theorem St.store_open (h : St W I w (storeHP p S :: l)) : ∃ B : SB, St W I w (storeBlk p S B :: seenHP B S :: dryHP B S :: lateHP B S :: keyHP B S :: HP.imm (intsIP B.vk S.keep) :: l) := by
  obtain ⟨B, h⟩ := h.ex_open
  exact ⟨B, h.all_open⟩
theorem St.store_shut {B : SB} (h : St W I w (storeBlk p S B :: seenHP B S :: dryHP B S :: lateHP B S :: keyHP B S :: HP.imm (intsIP B.vk S.keep) :: l)) : St W I w (storeHP p S :: l) :=
  St.ex_shut B (St.all_shut h)
theorem St.thing_open {v : Value} {t : TS} (h : St W I w (thingHP v t :: l)) : ∃ b m vb, v = .pointer (some ⟨b, 0, none⟩) ∧ St W I w (HP.pt b (.cells #[vb, .map (some m)] 100) :: bytesHP vb t.b :: HP.mapOf nameKT attrOwn m t.attr :: l) := by
  obtain ⟨⟨b, m, vb⟩, h⟩ := h.ex_open
  obtain ⟨e, h⟩ := (St.all_open h).pure_open
  exact ⟨b, m, vb, e, h⟩
theorem St.thing_shut {b m : Nat} {vb : Value} {t : TS} (h : St W I w (HP.pt b (.cells #[vb, .map (some m)] 100) :: bytesHP vb t.b :: HP.mapOf nameKT attrOwn m t.attr :: l)) : St W I w (thingHP (.pointer (some ⟨b, 0, none⟩)) t :: l) :=
  St.ex_shut (b, m, vb) (St.all_shut (St.pure_shut rfl h))
/-- The store's own cells. -/
theorem St.store_cell (h : St W I w (storeHP p S :: l)) : ∃ B : SB, w.heap[p]? = some (.cells (storeCells S B) 89) := by
  obtain ⟨B, h⟩ := h.store_open
  exact ⟨B, h.heap⟩
theorem St.store_lt (h : St W I w (storeHP p S :: l)) : p < w.heap.size := by
  obtain ⟨B, h⟩ := h.store_open
  exact h.lt
end Go.Proofs.Ytnokhjhhadnckaa
