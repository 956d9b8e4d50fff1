/-
  No cell of these rows narrows 'for every input' (looked for: loops, veiled, ifaces, maps, wideKeys, modest, calm, conditions, laid).
  DERIVED. THE GIVEN ROWS OF THIS SEAT. 9 by the template 'for every input the law returns true; each argument reads behind the call as it read before'; 0 by the template 'total and deterministic' (their statements: YtpjchngjhijgmaaGreatTotals.lean).
  GIVEN WITH THE SEED: the statements are not yours to turn. If you find one false, say at which input.
  Laid BY PROGRAM, IN A SANDBOX (cutbox-rows.mjs): the forced cells as the released guide's own fill.sh prints them over the translation ae40d0f129aee2d5… (all of the seat's roots in one cut). By AI agents, Wed Nov 11 2026. No macro, syntax, notation, axiom, sorry.
-/
import Derived.Test.YtpjchngjhijgmaaGreatChecked
import GoSem.Claim
import GoSem.ClaimJoined
import GoSem.ClaimMapViews
import Derived.JoinedTies
import Derived.KernelRfl
namespace Go.Proofs.YtpjchngjhijgmaaGreat
/- THE CELL 'sum', in the pinned program and in every row, IS THE sha256 OF THE DUMP (.gsa) THAT YtpjchngjhijgmaaGreatProg.lean LOADS. Nothing in Lean hashes anything: it is a label: what it is worth is what the hold of that sum in a sandbox is worth. -/
noncomputable def Tryz.pinned : Pinned := { name := "ytpjchngjhijgmaagreat", sum := "ae40d0f129aee2d55410070050314eb780c2992cf54acccfe33d1d55d6ee8383", checked := Tryz.checked }
namespace Rows
def none {H : Type} : Left H := { results := [], args := [] }

/-- 'hectographlaw16.JournalLies': WHATEVER THE INPUT: true; the input reads as it did. -/
def journalLiesSpec : ChangeSpec := { name := "journalLies", fn := fun _ => fun
  | [d1, d2, d3, d4, d5] => { results := [.lit (.bool true)], args := [d1, d2, d3, d4, d5] }
  | _ => none }
def journalLiesRow : OpenClaim := { program := "ytpjchngjhijgmaagreat", sum := "ae40d0f129aee2d55410070050314eb780c2992cf54acccfe33d1d55d6ee8383", func := "hectograph/hectographlaw16.JournalLies", spec := "journalLies", inPlace := ["slices.overlaps[hectograph/api.Key]"], unfollowed := true, recurses := true, plainKeys := false, apart := false }
def JournalLiesSaid : Prop := journalLiesRow.holds Tryz.pinned (OpenSpec.ofChange journalLiesSpec)

/-- ITS FALSE NEIGHBOUR: 'it returns false'. Refute it at one input. -/
def journalLiesWrong : ChangeSpec := { name := "journalLies", fn := fun _ => fun
  | [d1, d2, d3, d4, d5] => { results := [.lit (.bool false)], args := [d1, d2, d3, d4, d5] }
  | _ => none }
def JournalLiesWrongFalsely : Prop := journalLiesRow.holds Tryz.pinned (OpenSpec.ofChange journalLiesWrong)

/-- 'hectographlaw16.JournalTwice': WHATEVER THE INPUT: true; the input reads as it did. -/
def journalTwiceSpec : ChangeSpec := { name := "journalTwice", fn := fun _ => fun
  | [d1, d2, d3, d4, d5, d6, d7] => { results := [.lit (.bool true)], args := [d1, d2, d3, d4, d5, d6, d7] }
  | _ => none }
def journalTwiceRow : OpenClaim := { program := "ytpjchngjhijgmaagreat", sum := "ae40d0f129aee2d55410070050314eb780c2992cf54acccfe33d1d55d6ee8383", func := "hectograph/hectographlaw16.JournalTwice", spec := "journalTwice", inPlace := ["slices.overlaps[hectograph/api.Key]"], unfollowed := true, recurses := true, plainKeys := false, apart := false }
def JournalTwiceSaid : Prop := journalTwiceRow.holds Tryz.pinned (OpenSpec.ofChange journalTwiceSpec)

/-- ITS FALSE NEIGHBOUR: 'it returns false'. Refute it at one input. -/
def journalTwiceWrong : ChangeSpec := { name := "journalTwice", fn := fun _ => fun
  | [d1, d2, d3, d4, d5, d6, d7] => { results := [.lit (.bool false)], args := [d1, d2, d3, d4, d5, d6, d7] }
  | _ => none }
def JournalTwiceWrongFalsely : Prop := journalTwiceRow.holds Tryz.pinned (OpenSpec.ofChange journalTwiceWrong)

/-- 'hectographlaw16.JournalRots': WHATEVER THE INPUT: true; the input reads as it did. -/
def journalRotsSpec : ChangeSpec := { name := "journalRots", fn := fun _ => fun
  | [d1, d2, d3, d4, d5, d6, d7] => { results := [.lit (.bool true)], args := [d1, d2, d3, d4, d5, d6, d7] }
  | _ => none }
def journalRotsRow : OpenClaim := { program := "ytpjchngjhijgmaagreat", sum := "ae40d0f129aee2d55410070050314eb780c2992cf54acccfe33d1d55d6ee8383", func := "hectograph/hectographlaw16.JournalRots", spec := "journalRots", inPlace := ["slices.overlaps[hectograph/api.Key]"], unfollowed := true, recurses := true, plainKeys := false, apart := false }
def JournalRotsSaid : Prop := journalRotsRow.holds Tryz.pinned (OpenSpec.ofChange journalRotsSpec)

/-- ITS FALSE NEIGHBOUR: 'it returns false'. Refute it at one input. -/
def journalRotsWrong : ChangeSpec := { name := "journalRots", fn := fun _ => fun
  | [d1, d2, d3, d4, d5, d6, d7] => { results := [.lit (.bool false)], args := [d1, d2, d3, d4, d5, d6, d7] }
  | _ => none }
def JournalRotsWrongFalsely : Prop := journalRotsRow.holds Tryz.pinned (OpenSpec.ofChange journalRotsWrong)

/-- 'hectographlaw16.JournalMakes': WHATEVER THE INPUT: true; the input reads as it did. -/
def journalMakesSpec : ChangeSpec := { name := "journalMakes", fn := fun _ => fun
  | [d1, d2, d3, d4] => { results := [.lit (.bool true)], args := [d1, d2, d3, d4] }
  | _ => none }
def journalMakesRow : OpenClaim := { program := "ytpjchngjhijgmaagreat", sum := "ae40d0f129aee2d55410070050314eb780c2992cf54acccfe33d1d55d6ee8383", func := "hectograph/hectographlaw16.JournalMakes", spec := "journalMakes", inPlace := ["slices.overlaps[hectograph/api.Key]"], unfollowed := true, recurses := true, plainKeys := false, apart := false }
def JournalMakesSaid : Prop := journalMakesRow.holds Tryz.pinned (OpenSpec.ofChange journalMakesSpec)

/-- ITS FALSE NEIGHBOUR: 'it returns false'. Refute it at one input. -/
def journalMakesWrong : ChangeSpec := { name := "journalMakes", fn := fun _ => fun
  | [d1, d2, d3, d4] => { results := [.lit (.bool false)], args := [d1, d2, d3, d4] }
  | _ => none }
def JournalMakesWrongFalsely : Prop := journalMakesRow.holds Tryz.pinned (OpenSpec.ofChange journalMakesWrong)

/-- 'hectographlaw16.JournalTags': WHATEVER THE INPUT: true; the input reads as it did. -/
def journalTagsSpec : ChangeSpec := { name := "journalTags", fn := fun _ => fun
  | [d1, d2, d3, d4, d5] => { results := [.lit (.bool true)], args := [d1, d2, d3, d4, d5] }
  | _ => none }
def journalTagsRow : OpenClaim := { program := "ytpjchngjhijgmaagreat", sum := "ae40d0f129aee2d55410070050314eb780c2992cf54acccfe33d1d55d6ee8383", func := "hectograph/hectographlaw16.JournalTags", spec := "journalTags", inPlace := ["slices.overlaps[hectograph/api.Key]"], unfollowed := true, recurses := true, plainKeys := false, apart := false }
def JournalTagsSaid : Prop := journalTagsRow.holds Tryz.pinned (OpenSpec.ofChange journalTagsSpec)

/-- ITS FALSE NEIGHBOUR: 'it returns false'. Refute it at one input. -/
def journalTagsWrong : ChangeSpec := { name := "journalTags", fn := fun _ => fun
  | [d1, d2, d3, d4, d5] => { results := [.lit (.bool false)], args := [d1, d2, d3, d4, d5] }
  | _ => none }
def JournalTagsWrongFalsely : Prop := journalTagsRow.holds Tryz.pinned (OpenSpec.ofChange journalTagsWrong)

/-- 'hectographlaw16.JournalFits': WHATEVER THE INPUT: true; the input reads as it did. -/
def journalFitsSpec : ChangeSpec := { name := "journalFits", fn := fun _ => fun
  | [d1, d2, d3, d4, d5] => { results := [.lit (.bool true)], args := [d1, d2, d3, d4, d5] }
  | _ => none }
def journalFitsRow : OpenClaim := { program := "ytpjchngjhijgmaagreat", sum := "ae40d0f129aee2d55410070050314eb780c2992cf54acccfe33d1d55d6ee8383", func := "hectograph/hectographlaw16.JournalFits", spec := "journalFits", inPlace := ["slices.overlaps[hectograph/api.Key]"], unfollowed := true, recurses := true, plainKeys := false, apart := false }
def JournalFitsSaid : Prop := journalFitsRow.holds Tryz.pinned (OpenSpec.ofChange journalFitsSpec)

/-- ITS FALSE NEIGHBOUR: 'it returns false'. Refute it at one input. -/
def journalFitsWrong : ChangeSpec := { name := "journalFits", fn := fun _ => fun
  | [d1, d2, d3, d4, d5] => { results := [.lit (.bool false)], args := [d1, d2, d3, d4, d5] }
  | _ => none }
def JournalFitsWrongFalsely : Prop := journalFitsRow.holds Tryz.pinned (OpenSpec.ofChange journalFitsWrong)

/-- 'hectographlaw16.JournalTrims': WHATEVER THE INPUT: true; the input reads as it did. -/
def journalTrimsSpec : ChangeSpec := { name := "journalTrims", fn := fun _ => fun
  | [d1, d2, d3, d4, d5, d6, d7, d8] => { results := [.lit (.bool true)], args := [d1, d2, d3, d4, d5, d6, d7, d8] }
  | _ => none }
def journalTrimsRow : OpenClaim := { program := "ytpjchngjhijgmaagreat", sum := "ae40d0f129aee2d55410070050314eb780c2992cf54acccfe33d1d55d6ee8383", func := "hectograph/hectographlaw16.JournalTrims", spec := "journalTrims", inPlace := ["slices.overlaps[hectograph/api.Key]", "slices.overlaps[hectograph/api.Client]"], unfollowed := true, recurses := true, plainKeys := false, apart := false }
def JournalTrimsSaid : Prop := journalTrimsRow.holds Tryz.pinned (OpenSpec.ofChange journalTrimsSpec)

/-- ITS FALSE NEIGHBOUR: 'it returns false'. Refute it at one input. -/
def journalTrimsWrong : ChangeSpec := { name := "journalTrims", fn := fun _ => fun
  | [d1, d2, d3, d4, d5, d6, d7, d8] => { results := [.lit (.bool false)], args := [d1, d2, d3, d4, d5, d6, d7, d8] }
  | _ => none }
def JournalTrimsWrongFalsely : Prop := journalTrimsRow.holds Tryz.pinned (OpenSpec.ofChange journalTrimsWrong)

/-- 'hectographlaw16.JournalPlays': WHATEVER THE INPUT: true; the input reads as it did. -/
def journalPlaysSpec : ChangeSpec := { name := "journalPlays", fn := fun _ => fun
  | [d1, d2, d3, d4, d5, d6] => { results := [.lit (.bool true)], args := [d1, d2, d3, d4, d5, d6] }
  | _ => none }
def journalPlaysRow : OpenClaim := { program := "ytpjchngjhijgmaagreat", sum := "ae40d0f129aee2d55410070050314eb780c2992cf54acccfe33d1d55d6ee8383", func := "hectograph/hectographlaw16.JournalPlays", spec := "journalPlays", inPlace := ["slices.overlaps[hectograph/api.Key]", "slices.overlaps[hectograph/api.Client]"], unfollowed := true, recurses := true, plainKeys := false, apart := false }
def JournalPlaysSaid : Prop := journalPlaysRow.holds Tryz.pinned (OpenSpec.ofChange journalPlaysSpec)

/-- ITS FALSE NEIGHBOUR: 'it returns false'. Refute it at one input. -/
def journalPlaysWrong : ChangeSpec := { name := "journalPlays", fn := fun _ => fun
  | [d1, d2, d3, d4, d5, d6] => { results := [.lit (.bool false)], args := [d1, d2, d3, d4, d5, d6] }
  | _ => none }
def JournalPlaysWrongFalsely : Prop := journalPlaysRow.holds Tryz.pinned (OpenSpec.ofChange journalPlaysWrong)

/-- 'hectographlaw16.JournalFalls': WHATEVER THE INPUT: true; the input reads as it did. -/
def journalFallsSpec : ChangeSpec := { name := "journalFalls", fn := fun _ => fun
  | [d1, d2, d3, d4, d5, d6, d7] => { results := [.lit (.bool true)], args := [d1, d2, d3, d4, d5, d6, d7] }
  | _ => none }
def journalFallsRow : OpenClaim := { program := "ytpjchngjhijgmaagreat", sum := "ae40d0f129aee2d55410070050314eb780c2992cf54acccfe33d1d55d6ee8383", func := "hectograph/hectographlaw16.JournalFalls", spec := "journalFalls", inPlace := ["slices.overlaps[hectograph/api.Key]", "slices.overlaps[hectograph/api.Client]"], unfollowed := true, recurses := true, plainKeys := false, apart := false }
def JournalFallsSaid : Prop := journalFallsRow.holds Tryz.pinned (OpenSpec.ofChange journalFallsSpec)

/-- ITS FALSE NEIGHBOUR: 'it returns false'. Refute it at one input. -/
def journalFallsWrong : ChangeSpec := { name := "journalFalls", fn := fun _ => fun
  | [d1, d2, d3, d4, d5, d6, d7] => { results := [.lit (.bool false)], args := [d1, d2, d3, d4, d5, d6, d7] }
  | _ => none }
def JournalFallsWrongFalsely : Prop := journalFallsRow.holds Tryz.pinned (OpenSpec.ofChange journalFallsWrong)

/- THE SECOND FORM. 'bulk': how many values and letters a reading holds, each counted each time it is reached (what is shared counts as often as it is met; a slice's spare places count too). A statement '..UptoSaid' is the law's where the arguments, and the package variables that the reading takes, are together of bulk at most 1048576: NARROWER than '..Said'. Prove '..Said' where nothing that the law and all that it calls make is longer than what came in: it says more and counts as full. Else prove '..UptoSaid'. A law counts once. -/
mutual
def uptoBulk {H : Type} : DataW H → Nat
  | .lit (.string bytes) => bytes.length + 1
  | .lit _ => 1
  | .nil => 1
  | .ptr d => uptoBulk d + 1
  | .slice elems spare => uptoBulkAll elems + uptoBulkAll spare + 1
  | .agg parts => uptoBulkAll parts + 1
  | .iface _ d => uptoBulk d + 1
  | .map entries => uptoBulkEntries entries + 1
  | .held _ => 1
def uptoBulkAll {H : Type} : List (DataW H) → Nat
  | [] => 0
  | d :: r => uptoBulk d + uptoBulkAll r
def uptoBulkEntries {H : Type} : List (Lit × DataW H) → Nat
  | [] => 0
  | x :: r => uptoBulkEntry x + uptoBulkEntries r
def uptoBulkEntry {H : Type} : Lit × DataW H → Nat
  | (.string bytes, d) => bytes.length + uptoBulk d + 1
  | (_, d) => uptoBulk d + 1
 end
def uptoSmall : (H : Type) → List (DataW H) → Bool := fun _ ds => decide (uptoBulkAll ds ≤ 1048576)
def OpenSpec.upto (s : _root_.Go.ChangeSpec) : _root_.Go.OpenSpec := { _root_.Go.OpenSpec.ofChange s with cond := some uptoSmall }

/-- 'hectographlaw16.JournalLies', WHERE WHAT IT READS IS OF BULK AT MOST 1048576: true; the input reads as it did. -/
def journalLiesUptoRow : OpenClaim := { program := "ytpjchngjhijgmaagreat", sum := "ae40d0f129aee2d55410070050314eb780c2992cf54acccfe33d1d55d6ee8383", func := "hectograph/hectographlaw16.JournalLies", spec := "journalLies", inPlace := ["slices.overlaps[hectograph/api.Key]"], unfollowed := true, recurses := true, plainKeys := false, apart := false, narrowed := true }
def JournalLiesUptoSaid : Prop := journalLiesUptoRow.holds Tryz.pinned (OpenSpec.upto journalLiesSpec)

/-- 'hectographlaw16.JournalTwice', WHERE WHAT IT READS IS OF BULK AT MOST 1048576: true; the input reads as it did. -/
def journalTwiceUptoRow : OpenClaim := { program := "ytpjchngjhijgmaagreat", sum := "ae40d0f129aee2d55410070050314eb780c2992cf54acccfe33d1d55d6ee8383", func := "hectograph/hectographlaw16.JournalTwice", spec := "journalTwice", inPlace := ["slices.overlaps[hectograph/api.Key]"], unfollowed := true, recurses := true, plainKeys := false, apart := false, narrowed := true }
def JournalTwiceUptoSaid : Prop := journalTwiceUptoRow.holds Tryz.pinned (OpenSpec.upto journalTwiceSpec)

/-- 'hectographlaw16.JournalRots', WHERE WHAT IT READS IS OF BULK AT MOST 1048576: true; the input reads as it did. -/
def journalRotsUptoRow : OpenClaim := { program := "ytpjchngjhijgmaagreat", sum := "ae40d0f129aee2d55410070050314eb780c2992cf54acccfe33d1d55d6ee8383", func := "hectograph/hectographlaw16.JournalRots", spec := "journalRots", inPlace := ["slices.overlaps[hectograph/api.Key]"], unfollowed := true, recurses := true, plainKeys := false, apart := false, narrowed := true }
def JournalRotsUptoSaid : Prop := journalRotsUptoRow.holds Tryz.pinned (OpenSpec.upto journalRotsSpec)

/-- 'hectographlaw16.JournalMakes', WHERE WHAT IT READS IS OF BULK AT MOST 1048576: true; the input reads as it did. -/
def journalMakesUptoRow : OpenClaim := { program := "ytpjchngjhijgmaagreat", sum := "ae40d0f129aee2d55410070050314eb780c2992cf54acccfe33d1d55d6ee8383", func := "hectograph/hectographlaw16.JournalMakes", spec := "journalMakes", inPlace := ["slices.overlaps[hectograph/api.Key]"], unfollowed := true, recurses := true, plainKeys := false, apart := false, narrowed := true }
def JournalMakesUptoSaid : Prop := journalMakesUptoRow.holds Tryz.pinned (OpenSpec.upto journalMakesSpec)

/-- 'hectographlaw16.JournalTags', WHERE WHAT IT READS IS OF BULK AT MOST 1048576: true; the input reads as it did. -/
def journalTagsUptoRow : OpenClaim := { program := "ytpjchngjhijgmaagreat", sum := "ae40d0f129aee2d55410070050314eb780c2992cf54acccfe33d1d55d6ee8383", func := "hectograph/hectographlaw16.JournalTags", spec := "journalTags", inPlace := ["slices.overlaps[hectograph/api.Key]"], unfollowed := true, recurses := true, plainKeys := false, apart := false, narrowed := true }
def JournalTagsUptoSaid : Prop := journalTagsUptoRow.holds Tryz.pinned (OpenSpec.upto journalTagsSpec)

/-- 'hectographlaw16.JournalFits', WHERE WHAT IT READS IS OF BULK AT MOST 1048576: true; the input reads as it did. -/
def journalFitsUptoRow : OpenClaim := { program := "ytpjchngjhijgmaagreat", sum := "ae40d0f129aee2d55410070050314eb780c2992cf54acccfe33d1d55d6ee8383", func := "hectograph/hectographlaw16.JournalFits", spec := "journalFits", inPlace := ["slices.overlaps[hectograph/api.Key]"], unfollowed := true, recurses := true, plainKeys := false, apart := false, narrowed := true }
def JournalFitsUptoSaid : Prop := journalFitsUptoRow.holds Tryz.pinned (OpenSpec.upto journalFitsSpec)

/-- 'hectographlaw16.JournalTrims', WHERE WHAT IT READS IS OF BULK AT MOST 1048576: true; the input reads as it did. -/
def journalTrimsUptoRow : OpenClaim := { program := "ytpjchngjhijgmaagreat", sum := "ae40d0f129aee2d55410070050314eb780c2992cf54acccfe33d1d55d6ee8383", func := "hectograph/hectographlaw16.JournalTrims", spec := "journalTrims", inPlace := ["slices.overlaps[hectograph/api.Key]", "slices.overlaps[hectograph/api.Client]"], unfollowed := true, recurses := true, plainKeys := false, apart := false, narrowed := true }
def JournalTrimsUptoSaid : Prop := journalTrimsUptoRow.holds Tryz.pinned (OpenSpec.upto journalTrimsSpec)

/-- 'hectographlaw16.JournalPlays', WHERE WHAT IT READS IS OF BULK AT MOST 1048576: true; the input reads as it did. -/
def journalPlaysUptoRow : OpenClaim := { program := "ytpjchngjhijgmaagreat", sum := "ae40d0f129aee2d55410070050314eb780c2992cf54acccfe33d1d55d6ee8383", func := "hectograph/hectographlaw16.JournalPlays", spec := "journalPlays", inPlace := ["slices.overlaps[hectograph/api.Key]", "slices.overlaps[hectograph/api.Client]"], unfollowed := true, recurses := true, plainKeys := false, apart := false, narrowed := true }
def JournalPlaysUptoSaid : Prop := journalPlaysUptoRow.holds Tryz.pinned (OpenSpec.upto journalPlaysSpec)

/-- 'hectographlaw16.JournalFalls', WHERE WHAT IT READS IS OF BULK AT MOST 1048576: true; the input reads as it did. -/
def journalFallsUptoRow : OpenClaim := { program := "ytpjchngjhijgmaagreat", sum := "ae40d0f129aee2d55410070050314eb780c2992cf54acccfe33d1d55d6ee8383", func := "hectograph/hectographlaw16.JournalFalls", spec := "journalFalls", inPlace := ["slices.overlaps[hectograph/api.Key]", "slices.overlaps[hectograph/api.Client]"], unfollowed := true, recurses := true, plainKeys := false, apart := false, narrowed := true }
def JournalFallsUptoSaid : Prop := journalFallsUptoRow.holds Tryz.pinned (OpenSpec.upto journalFallsSpec)

end Rows
end Go.Proofs.YtpjchngjhijgmaaGreat
