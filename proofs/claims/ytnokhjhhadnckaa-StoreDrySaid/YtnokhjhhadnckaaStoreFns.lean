/- The store as plain data. No program in sight. -/
import Derived.Test.YtnokhjhhadnckaaMapOf
set_option linter.unusedSimpArgs false
set_option linter.unusedVariables false
set_option linter.unusedSectionVars false
namespace Go.Proofs.Ytnokhjhhadnckaa
open Go.RowKit
structure K4 where
  kind : Int
  img : Int
  num : Int
  snap : Int
  deriving DecidableEq
structure G2 where
  kind : Int
  img : Int
  deriving DecidableEq
def K4.val (k : K4) : Value := .agg #[.int .i64 k.kind, .int .i64 k.img, .int .i64 k.num, .int .i64 k.snap]
def K4.vals (k : K4) : List Value := [.int .i64 k.kind, .int .i64 k.img, .int .i64 k.num, .int .i64 k.snap]
def G2.val (g : G2) : Value := .agg #[.int .i64 g.kind, .int .i64 g.img]
def K4.ok (k : K4) : Bool := decide (1 ≤ k.kind ∧ k.kind ≤ 255 ∧ 0 ≤ k.img ∧ k.img ≤ 255 ∧ 0 ≤ k.num ∧ k.num ≤ 1073741824 ∧ 0 ≤ k.snap ∧ k.snap ≤ 1073741824)
def K4.grp (k : K4) : G2 := ⟨k.kind, k.img⟩
def K4.lt (a b : K4) : Bool := decide (a.kind < b.kind ∨ (a.kind = b.kind ∧ (a.img < b.img ∨ (a.img = b.img ∧ (a.num < b.num ∨ (a.num = b.num ∧ a.snap < b.snap))))))
structure TS where
  b : List Int
  attr : List (ByteArray × List Int)
structure Dd where
  kind : Int
  n : Int
  p : List Int
  name : ByteArray
structure Str where
  room : Int
  used : Int
  deeds : Int
  wet : Int
  on : Bool
  seen : List (K4 × TS)
  dry : List (K4 × TS)
  late : List (K4 × List Dd)
  keys : List (G2 × List K4)
  armed : Bool
  fuse : Int
  torn : Int
  keep : List Int
def byteV (x : Int) : Value := .int .u8 x
def intV (x : Int) : Value := .int .i64 x
/-- Bytes with p from off on. -/
def layB (b : List Int) (off : Nat) (p : List Int) : List Int :=
  if p = [] then b else (b ++ List.replicate (off + p.length - b.length) 0).take off ++ p ++ b.drop (off + p.length)
def attrSize (l : List (ByteArray × List Int)) : Int := (l.map fun x => (x.1.size : Int) + x.2.length).sum
def TS.size (t : TS) : Int := t.b.length + attrSize t.attr
def sizeO : Option TS → Int
  | none => 0
  | some t => t.size
def setAttr (l : List (ByteArray × List Int)) (name : ByteArray) (p : List Int) : List (ByteArray × List Int) :=
  if p = [] then del name l else put name p l
/-- An object behind a deed. -/
def stepD (t : Option TS) (d : Dd) : Option TS :=
  if d.kind = 0 then some ⟨[], []⟩
  else if d.kind = 3 then none
  else match t with
    | none => none
    | some t => if d.kind = 1 then some { t with b := layB t.b d.n.toNat d.p }
      else if d.kind = 2 then some { t with b := t.b.take (min d.n.toNat t.b.length) }
      else if d.kind = 4 then some { t with attr := setAttr t.attr d.name d.p }
      else some t
def Dd.ok (d : Dd) : Prop := 0 ≤ d.n ∧ d.n ≤ 16384 ∧ d.n + d.p.length ≤ 16384 + 4096
end Go.Proofs.Ytnokhjhhadnckaa
