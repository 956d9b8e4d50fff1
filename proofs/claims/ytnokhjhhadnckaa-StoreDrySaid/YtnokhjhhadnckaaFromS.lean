/- What follows a statement in a function's code. No program in sight. -/
import Derived.Test.YtnokhjhhadnckaaRegions
set_option linter.unusedSimpArgs false
set_option linter.unusedVariables false
set_option linter.unusedSectionVars false
namespace Go.Proofs.Ytnokhjhhadnckaa
/-- The first region of a code that is a sequence. -/
def headD : Code → Option Nat
  | .region i _ _ => some i
  | .seq a _ => headD a
  | _ => none
/-- The code from the statement that begins at region n on, to the end of the sequence that it stands in. -/
def fromS (n : Nat) : Code → Option Code
  | .region i o d => if i = n then some (.region i o d) else none
  | .seq a b => if headD a = some n then some (.seq a b) else match fromS n a with
    | some c => some c
    | none => fromS n b
  | .cond _ t e => match fromS n t with
    | some c => some c
    | none => fromS n e
  | .block _ b => fromS n b
  | .loop b => fromS n b
  | .scope b => fromS n b
  | _ => none
end Go.Proofs.Ytnokhjhhadnckaa
