/-
  No cell of these rows narrows 'for every input' (looked for: loops, veiled, ifaces, maps, wideKeys, modest, calm, conditions, laid).
  DERIVED. THE GIVEN ROWS OF THIS SEAT. 4 by the template 'for every input the law returns true; each argument reads behind the call as it read before'; 0 by the template 'total and deterministic' (their statements: YtagfdgdoboncfaaTotals.lean).
  GIVEN WITH THE SEED: the statements are not yours to turn. If you find one false, say at which input.
  Laid BY PROGRAM, IN A SANDBOX (cutbox-rows.mjs): the forced cells as the released guide's own fill.sh prints them over the translation 2756c0f3330370fa… (all of the seat's roots in one cut). By AI agents, Wed Nov 11 2026. No macro, syntax, notation, axiom, sorry.
-/
import Derived.Test.YtagfdgdoboncfaaChecked
import GoSem.Claim
import GoSem.ClaimJoined
import GoSem.ClaimMapViews
import Derived.JoinedTies
import Derived.KernelRfl
namespace Go.Proofs.Ytagfdgdoboncfaa
/- THE CELL 'sum', in the pinned program and in every row, IS THE sha256 OF THE DUMP (.gsa) THAT YtagfdgdoboncfaaProg.lean LOADS. Nothing in Lean hashes anything: it is a label: what it is worth is what the hold of that sum in a sandbox is worth. -/
noncomputable def Try.pinned : Pinned := { name := "ytagfdgdoboncfaa", sum := "2756c0f3330370fab88870e29cb56e2587e500ff617e597094636b3822891ba8", checked := Try.checked }
namespace Rows
def none {H : Type} : Left H := { results := [], args := [] }

/-- 'hectographlaw21.RoleGrows': WHATEVER THE INPUT: true; the input reads as it did. -/
def roleGrowsSpec : ChangeSpec := { name := "roleGrows", fn := fun _ => fun
  | [d1, d2, d3, d4] => { results := [.lit (.bool true)], args := [d1, d2, d3, d4] }
  | _ => none }
def roleGrowsRow : OpenClaim := { program := "ytagfdgdoboncfaa", sum := "2756c0f3330370fab88870e29cb56e2587e500ff617e597094636b3822891ba8", func := "hectograph/hectographlaw21.RoleGrows", spec := "roleGrows", plainKeys := false, apart := false }
def RoleGrowsSaid : Prop := roleGrowsRow.holds Try.pinned (OpenSpec.ofChange roleGrowsSpec)

/-- ITS FALSE NEIGHBOUR: 'it returns false'. Refute it at one input. -/
def roleGrowsWrong : ChangeSpec := { name := "roleGrows", fn := fun _ => fun
  | [d1, d2, d3, d4] => { results := [.lit (.bool false)], args := [d1, d2, d3, d4] }
  | _ => none }
def RoleGrowsWrongFalsely : Prop := roleGrowsRow.holds Try.pinned (OpenSpec.ofChange roleGrowsWrong)

/-- 'hectographlaw21.RoleTells': WHATEVER THE INPUT: true; the input reads as it did. -/
def roleTellsSpec : ChangeSpec := { name := "roleTells", fn := fun _ => fun
  | [d1, d2, d3, d4, d5] => { results := [.lit (.bool true)], args := [d1, d2, d3, d4, d5] }
  | _ => none }
def roleTellsRow : OpenClaim := { program := "ytagfdgdoboncfaa", sum := "2756c0f3330370fab88870e29cb56e2587e500ff617e597094636b3822891ba8", func := "hectograph/hectographlaw21.RoleTells", spec := "roleTells", plainKeys := false, apart := false }
def RoleTellsSaid : Prop := roleTellsRow.holds Try.pinned (OpenSpec.ofChange roleTellsSpec)

/-- ITS FALSE NEIGHBOUR: 'it returns false'. Refute it at one input. -/
def roleTellsWrong : ChangeSpec := { name := "roleTells", fn := fun _ => fun
  | [d1, d2, d3, d4, d5] => { results := [.lit (.bool false)], args := [d1, d2, d3, d4, d5] }
  | _ => none }
def RoleTellsWrongFalsely : Prop := roleTellsRow.holds Try.pinned (OpenSpec.ofChange roleTellsWrong)

/-- 'hectographlaw21.RoleTurns': WHATEVER THE INPUT: true; the input reads as it did. -/
def roleTurnsSpec : ChangeSpec := { name := "roleTurns", fn := fun _ => fun
  | [d1, d2, d3] => { results := [.lit (.bool true)], args := [d1, d2, d3] }
  | _ => none }
def roleTurnsRow : OpenClaim := { program := "ytagfdgdoboncfaa", sum := "2756c0f3330370fab88870e29cb56e2587e500ff617e597094636b3822891ba8", func := "hectograph/hectographlaw21.RoleTurns", spec := "roleTurns", plainKeys := false, apart := false }
def RoleTurnsSaid : Prop := roleTurnsRow.holds Try.pinned (OpenSpec.ofChange roleTurnsSpec)

/-- ITS FALSE NEIGHBOUR: 'it returns false'. Refute it at one input. -/
def roleTurnsWrong : ChangeSpec := { name := "roleTurns", fn := fun _ => fun
  | [d1, d2, d3] => { results := [.lit (.bool false)], args := [d1, d2, d3] }
  | _ => none }
def RoleTurnsWrongFalsely : Prop := roleTurnsRow.holds Try.pinned (OpenSpec.ofChange roleTurnsWrong)

/-- 'hectographlaw21.RoleForced': WHATEVER THE INPUT: true; the input reads as it did. -/
def roleForcedSpec : ChangeSpec := { name := "roleForced", fn := fun _ => fun
  | [d1, d2, d3] => { results := [.lit (.bool true)], args := [d1, d2, d3] }
  | _ => none }
def roleForcedRow : OpenClaim := { program := "ytagfdgdoboncfaa", sum := "2756c0f3330370fab88870e29cb56e2587e500ff617e597094636b3822891ba8", func := "hectograph/hectographlaw21.RoleForced", spec := "roleForced", plainKeys := false, apart := false }
def RoleForcedSaid : Prop := roleForcedRow.holds Try.pinned (OpenSpec.ofChange roleForcedSpec)

/-- ITS FALSE NEIGHBOUR: 'it returns false'. Refute it at one input. -/
def roleForcedWrong : ChangeSpec := { name := "roleForced", fn := fun _ => fun
  | [d1, d2, d3] => { results := [.lit (.bool false)], args := [d1, d2, d3] }
  | _ => none }
def RoleForcedWrongFalsely : Prop := roleForcedRow.holds Try.pinned (OpenSpec.ofChange roleForcedWrong)

/- THE SECOND FORM. 'bulk': how many values and letters a reading holds, each counted each time it is reached (what is shared counts as often as it is met; a slice's spare places count too). A statement '..UptoSaid' is the law's where the arguments, and the package variables that the reading takes, are together of bulk at most 1048576: NARROWER than '..Said'. Prove '..Said' where nothing that the law and all that it calls make is longer than what came in: it says more and counts as full. Else prove '..UptoSaid'. A law counts once. -/
mutual
def uptoBulk {H : Type} : DataW H → Nat
  | .lit (.string bytes) => bytes.length + 1
  | .lit _ => 1
  | .nil => 1
  | .ptr d => uptoBulk d + 1
  | .slice elems spare => uptoBulkAll elems + uptoBulkAll spare + 1
  | .agg parts => uptoBulkAll parts + 1
  | .iface _ d => uptoBulk d + 1
  | .map entries => uptoBulkEntries entries + 1
  | .held _ => 1
def uptoBulkAll {H : Type} : List (DataW H) → Nat
  | [] => 0
  | d :: r => uptoBulk d + uptoBulkAll r
def uptoBulkEntries {H : Type} : List (Lit × DataW H) → Nat
  | [] => 0
  | x :: r => uptoBulkEntry x + uptoBulkEntries r
def uptoBulkEntry {H : Type} : Lit × DataW H → Nat
  | (.string bytes, d) => bytes.length + uptoBulk d + 1
  | (_, d) => uptoBulk d + 1
 end
def uptoSmall : (H : Type) → List (DataW H) → Bool := fun _ ds => decide (uptoBulkAll ds ≤ 1048576)
def OpenSpec.upto (s : _root_.Go.ChangeSpec) : _root_.Go.OpenSpec := { _root_.Go.OpenSpec.ofChange s with cond := some uptoSmall }

/-- 'hectographlaw21.RoleGrows', WHERE WHAT IT READS IS OF BULK AT MOST 1048576: true; the input reads as it did. -/
def roleGrowsUptoRow : OpenClaim := { program := "ytagfdgdoboncfaa", sum := "2756c0f3330370fab88870e29cb56e2587e500ff617e597094636b3822891ba8", func := "hectograph/hectographlaw21.RoleGrows", spec := "roleGrows", plainKeys := false, apart := false, narrowed := true }
def RoleGrowsUptoSaid : Prop := roleGrowsUptoRow.holds Try.pinned (OpenSpec.upto roleGrowsSpec)

/-- 'hectographlaw21.RoleTells', WHERE WHAT IT READS IS OF BULK AT MOST 1048576: true; the input reads as it did. -/
def roleTellsUptoRow : OpenClaim := { program := "ytagfdgdoboncfaa", sum := "2756c0f3330370fab88870e29cb56e2587e500ff617e597094636b3822891ba8", func := "hectograph/hectographlaw21.RoleTells", spec := "roleTells", plainKeys := false, apart := false, narrowed := true }
def RoleTellsUptoSaid : Prop := roleTellsUptoRow.holds Try.pinned (OpenSpec.upto roleTellsSpec)

/-- 'hectographlaw21.RoleTurns', WHERE WHAT IT READS IS OF BULK AT MOST 1048576: true; the input reads as it did. -/
def roleTurnsUptoRow : OpenClaim := { program := "ytagfdgdoboncfaa", sum := "2756c0f3330370fab88870e29cb56e2587e500ff617e597094636b3822891ba8", func := "hectograph/hectographlaw21.RoleTurns", spec := "roleTurns", plainKeys := false, apart := false, narrowed := true }
def RoleTurnsUptoSaid : Prop := roleTurnsUptoRow.holds Try.pinned (OpenSpec.upto roleTurnsSpec)

/-- 'hectographlaw21.RoleForced', WHERE WHAT IT READS IS OF BULK AT MOST 1048576: true; the input reads as it did. -/
def roleForcedUptoRow : OpenClaim := { program := "ytagfdgdoboncfaa", sum := "2756c0f3330370fab88870e29cb56e2587e500ff617e597094636b3822891ba8", func := "hectograph/hectographlaw21.RoleForced", spec := "roleForced", plainKeys := false, apart := false, narrowed := true }
def RoleForcedUptoSaid : Prop := roleForcedUptoRow.holds Try.pinned (OpenSpec.upto roleForcedSpec)

end Rows
end Go.Proofs.Ytagfdgdoboncfaa
