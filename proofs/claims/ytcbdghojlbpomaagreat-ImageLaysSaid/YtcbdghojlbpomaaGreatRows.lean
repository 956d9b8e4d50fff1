/-
  No cell of these rows narrows 'for every input' (looked for: loops, veiled, ifaces, maps, wideKeys, modest, calm, conditions, laid).
  DERIVED. THE GIVEN ROWS OF THIS SEAT. 8 by the template 'for every input the law returns true; each argument reads behind the call as it read before'; 0 by the template 'total and deterministic' (their statements: YtcbdghojlbpomaaGreatTotals.lean).
  GIVEN WITH THE SEED: the statements are not yours to turn. If you find one false, say at which input.
  Laid BY PROGRAM, IN A SANDBOX (cutbox-rows.mjs): the forced cells as the released guide's own fill.sh prints them over the translation b115ec2affc154b1… (all of the seat's roots in one cut). By AI agents, Wed Nov 11 2026. No macro, syntax, notation, axiom, sorry.
-/
import Derived.Test.YtcbdghojlbpomaaGreatChecked
import GoSem.Claim
import GoSem.ClaimJoined
import GoSem.ClaimMapViews
import Derived.JoinedTies
import Derived.KernelRfl
namespace Go.Proofs.YtcbdghojlbpomaaGreat
/- THE CELL 'sum', in the pinned program and in every row, IS THE sha256 OF THE DUMP (.gsa) THAT YtcbdghojlbpomaaGreatProg.lean LOADS. Nothing in Lean hashes anything: it is a label: what it is worth is what the hold of that sum in a sandbox is worth. -/
noncomputable def Tryz.pinned : Pinned := { name := "ytcbdghojlbpomaagreat", sum := "b115ec2affc154b14855fe94fd46b43a9697a8762fe5138ab9d385ac580db79e", checked := Tryz.checked }
namespace Rows
def none {H : Type} : Left H := { results := [], args := [] }

/-- 'hectographlaw18.ImageFolds': WHATEVER THE INPUT: true; the input reads as it did. -/
def imageFoldsSpec : ChangeSpec := { name := "imageFolds", fn := fun _ => fun
  | [d1, d2, d3, d4, d5, d6] => { results := [.lit (.bool true)], args := [d1, d2, d3, d4, d5, d6] }
  | _ => none }
def imageFoldsRow : OpenClaim := { program := "ytcbdghojlbpomaagreat", sum := "b115ec2affc154b14855fe94fd46b43a9697a8762fe5138ab9d385ac580db79e", func := "hectograph/hectographlaw18.ImageFolds", spec := "imageFolds", inPlace := ["slices.overlaps[hectograph/api.Key]"], unfollowed := true, recurses := true, plainKeys := false, apart := false }
def ImageFoldsSaid : Prop := imageFoldsRow.holds Tryz.pinned (OpenSpec.ofChange imageFoldsSpec)

/-- ITS FALSE NEIGHBOUR: 'it returns false'. Refute it at one input. -/
def imageFoldsWrong : ChangeSpec := { name := "imageFolds", fn := fun _ => fun
  | [d1, d2, d3, d4, d5, d6] => { results := [.lit (.bool false)], args := [d1, d2, d3, d4, d5, d6] }
  | _ => none }
def ImageFoldsWrongFalsely : Prop := imageFoldsRow.holds Tryz.pinned (OpenSpec.ofChange imageFoldsWrong)

/-- 'hectographlaw18.ImageReads': WHATEVER THE INPUT: true; the input reads as it did. -/
def imageReadsSpec : ChangeSpec := { name := "imageReads", fn := fun _ => fun
  | [d1, d2, d3, d4, d5, d6, d7, d8] => { results := [.lit (.bool true)], args := [d1, d2, d3, d4, d5, d6, d7, d8] }
  | _ => none }
def imageReadsRow : OpenClaim := { program := "ytcbdghojlbpomaagreat", sum := "b115ec2affc154b14855fe94fd46b43a9697a8762fe5138ab9d385ac580db79e", func := "hectograph/hectographlaw18.ImageReads", spec := "imageReads", inPlace := ["slices.overlaps[hectograph/api.Key]"], unfollowed := true, recurses := true, plainKeys := false, apart := false }
def ImageReadsSaid : Prop := imageReadsRow.holds Tryz.pinned (OpenSpec.ofChange imageReadsSpec)

/-- ITS FALSE NEIGHBOUR: 'it returns false'. Refute it at one input. -/
def imageReadsWrong : ChangeSpec := { name := "imageReads", fn := fun _ => fun
  | [d1, d2, d3, d4, d5, d6, d7, d8] => { results := [.lit (.bool false)], args := [d1, d2, d3, d4, d5, d6, d7, d8] }
  | _ => none }
def ImageReadsWrongFalsely : Prop := imageReadsRow.holds Tryz.pinned (OpenSpec.ofChange imageReadsWrong)

/-- 'hectographlaw18.ImageHolds': WHATEVER THE INPUT: true; the input reads as it did. -/
def imageHoldsSpec : ChangeSpec := { name := "imageHolds", fn := fun _ => fun
  | [d1, d2, d3, d4, d5, d6] => { results := [.lit (.bool true)], args := [d1, d2, d3, d4, d5, d6] }
  | _ => none }
def imageHoldsRow : OpenClaim := { program := "ytcbdghojlbpomaagreat", sum := "b115ec2affc154b14855fe94fd46b43a9697a8762fe5138ab9d385ac580db79e", func := "hectograph/hectographlaw18.ImageHolds", spec := "imageHolds", inPlace := ["slices.overlaps[hectograph/api.Key]"], unfollowed := true, recurses := true, plainKeys := false, apart := false }
def ImageHoldsSaid : Prop := imageHoldsRow.holds Tryz.pinned (OpenSpec.ofChange imageHoldsSpec)

/-- ITS FALSE NEIGHBOUR: 'it returns false'. Refute it at one input. -/
def imageHoldsWrong : ChangeSpec := { name := "imageHolds", fn := fun _ => fun
  | [d1, d2, d3, d4, d5, d6] => { results := [.lit (.bool false)], args := [d1, d2, d3, d4, d5, d6] }
  | _ => none }
def ImageHoldsWrongFalsely : Prop := imageHoldsRow.holds Tryz.pinned (OpenSpec.ofChange imageHoldsWrong)

/-- 'hectographlaw18.ImageLays': WHATEVER THE INPUT: true; the input reads as it did. -/
def imageLaysSpec : ChangeSpec := { name := "imageLays", fn := fun _ => fun
  | [d1, d2, d3, d4, d5, d6, d7, d8] => { results := [.lit (.bool true)], args := [d1, d2, d3, d4, d5, d6, d7, d8] }
  | _ => none }
def imageLaysRow : OpenClaim := { program := "ytcbdghojlbpomaagreat", sum := "b115ec2affc154b14855fe94fd46b43a9697a8762fe5138ab9d385ac580db79e", func := "hectograph/hectographlaw18.ImageLays", spec := "imageLays", inPlace := ["slices.overlaps[hectograph/api.Key]"], unfollowed := true, recurses := true, plainKeys := false, apart := false }
def ImageLaysSaid : Prop := imageLaysRow.holds Tryz.pinned (OpenSpec.ofChange imageLaysSpec)

/-- ITS FALSE NEIGHBOUR: 'it returns false'. Refute it at one input. -/
def imageLaysWrong : ChangeSpec := { name := "imageLays", fn := fun _ => fun
  | [d1, d2, d3, d4, d5, d6, d7, d8] => { results := [.lit (.bool false)], args := [d1, d2, d3, d4, d5, d6, d7, d8] }
  | _ => none }
def ImageLaysWrongFalsely : Prop := imageLaysRow.holds Tryz.pinned (OpenSpec.ofChange imageLaysWrong)

/-- 'hectographlaw20.ApplierFalls': WHATEVER THE INPUT: true; the input reads as it did. -/
def applierFallsSpec : ChangeSpec := { name := "applierFalls", fn := fun _ => fun
  | [d1, d2, d3, d4, d5, d6, d7] => { results := [.lit (.bool true)], args := [d1, d2, d3, d4, d5, d6, d7] }
  | _ => none }
def applierFallsRow : OpenClaim := { program := "ytcbdghojlbpomaagreat", sum := "b115ec2affc154b14855fe94fd46b43a9697a8762fe5138ab9d385ac580db79e", func := "hectograph/hectographlaw20.ApplierFalls", spec := "applierFalls", inPlace := ["slices.overlaps[hectograph/api.Key]"], unfollowed := true, recurses := true, plainKeys := false, apart := false }
def ApplierFallsSaid : Prop := applierFallsRow.holds Tryz.pinned (OpenSpec.ofChange applierFallsSpec)

/-- ITS FALSE NEIGHBOUR: 'it returns false'. Refute it at one input. -/
def applierFallsWrong : ChangeSpec := { name := "applierFalls", fn := fun _ => fun
  | [d1, d2, d3, d4, d5, d6, d7] => { results := [.lit (.bool false)], args := [d1, d2, d3, d4, d5, d6, d7] }
  | _ => none }
def ApplierFallsWrongFalsely : Prop := applierFallsRow.holds Tryz.pinned (OpenSpec.ofChange applierFallsWrong)

/-- 'hectographlaw18.ImagePlays': WHATEVER THE INPUT: true; the input reads as it did. -/
def imagePlaysSpec : ChangeSpec := { name := "imagePlays", fn := fun _ => fun
  | [d1, d2, d3, d4, d5] => { results := [.lit (.bool true)], args := [d1, d2, d3, d4, d5] }
  | _ => none }
def imagePlaysRow : OpenClaim := { program := "ytcbdghojlbpomaagreat", sum := "b115ec2affc154b14855fe94fd46b43a9697a8762fe5138ab9d385ac580db79e", func := "hectograph/hectographlaw18.ImagePlays", spec := "imagePlays", inPlace := ["slices.overlaps[hectograph/api.Key]"], unfollowed := true, recurses := true, plainKeys := false, apart := false }
def ImagePlaysSaid : Prop := imagePlaysRow.holds Tryz.pinned (OpenSpec.ofChange imagePlaysSpec)

/-- ITS FALSE NEIGHBOUR: 'it returns false'. Refute it at one input. -/
def imagePlaysWrong : ChangeSpec := { name := "imagePlays", fn := fun _ => fun
  | [d1, d2, d3, d4, d5] => { results := [.lit (.bool false)], args := [d1, d2, d3, d4, d5] }
  | _ => none }
def ImagePlaysWrongFalsely : Prop := imagePlaysRow.holds Tryz.pinned (OpenSpec.ofChange imagePlaysWrong)

/-- 'hectographlaw20.ApplierFolds': WHATEVER THE INPUT: true; the input reads as it did. -/
def applierFoldsSpec : ChangeSpec := { name := "applierFolds", fn := fun _ => fun
  | [d1, d2, d3, d4, d5, d6, d7] => { results := [.lit (.bool true)], args := [d1, d2, d3, d4, d5, d6, d7] }
  | _ => none }
def applierFoldsRow : OpenClaim := { program := "ytcbdghojlbpomaagreat", sum := "b115ec2affc154b14855fe94fd46b43a9697a8762fe5138ab9d385ac580db79e", func := "hectograph/hectographlaw20.ApplierFolds", spec := "applierFolds", inPlace := ["slices.overlaps[hectograph/api.Key]"], unfollowed := true, recurses := true, plainKeys := false, apart := false }
def ApplierFoldsSaid : Prop := applierFoldsRow.holds Tryz.pinned (OpenSpec.ofChange applierFoldsSpec)

/-- ITS FALSE NEIGHBOUR: 'it returns false'. Refute it at one input. -/
def applierFoldsWrong : ChangeSpec := { name := "applierFolds", fn := fun _ => fun
  | [d1, d2, d3, d4, d5, d6, d7] => { results := [.lit (.bool false)], args := [d1, d2, d3, d4, d5, d6, d7] }
  | _ => none }
def ApplierFoldsWrongFalsely : Prop := applierFoldsRow.holds Tryz.pinned (OpenSpec.ofChange applierFoldsWrong)

/-- 'hectographlaw20.ApplierMakes': WHATEVER THE INPUT: true; the input reads as it did. -/
def applierMakesSpec : ChangeSpec := { name := "applierMakes", fn := fun _ => fun
  | [d1, d2, d3, d4, d5] => { results := [.lit (.bool true)], args := [d1, d2, d3, d4, d5] }
  | _ => none }
def applierMakesRow : OpenClaim := { program := "ytcbdghojlbpomaagreat", sum := "b115ec2affc154b14855fe94fd46b43a9697a8762fe5138ab9d385ac580db79e", func := "hectograph/hectographlaw20.ApplierMakes", spec := "applierMakes", inPlace := ["slices.overlaps[hectograph/api.Key]"], unfollowed := true, recurses := true, plainKeys := false, apart := false }
def ApplierMakesSaid : Prop := applierMakesRow.holds Tryz.pinned (OpenSpec.ofChange applierMakesSpec)

/-- ITS FALSE NEIGHBOUR: 'it returns false'. Refute it at one input. -/
def applierMakesWrong : ChangeSpec := { name := "applierMakes", fn := fun _ => fun
  | [d1, d2, d3, d4, d5] => { results := [.lit (.bool false)], args := [d1, d2, d3, d4, d5] }
  | _ => none }
def ApplierMakesWrongFalsely : Prop := applierMakesRow.holds Tryz.pinned (OpenSpec.ofChange applierMakesWrong)

/- THE SECOND FORM. 'bulk': how many values and letters a reading holds, each counted each time it is reached (what is shared counts as often as it is met; a slice's spare places count too). A statement '..UptoSaid' is the law's where the arguments, and the package variables that the reading takes, are together of bulk at most 1048576: NARROWER than '..Said'. Prove '..Said' where nothing that the law and all that it calls make is longer than what came in: it says more and counts as full. Else prove '..UptoSaid'. A law counts once. -/
mutual
def uptoBulk {H : Type} : DataW H → Nat
  | .lit (.string bytes) => bytes.length + 1
  | .lit _ => 1
  | .nil => 1
  | .ptr d => uptoBulk d + 1
  | .slice elems spare => uptoBulkAll elems + uptoBulkAll spare + 1
  | .agg parts => uptoBulkAll parts + 1
  | .iface _ d => uptoBulk d + 1
  | .map entries => uptoBulkEntries entries + 1
  | .held _ => 1
def uptoBulkAll {H : Type} : List (DataW H) → Nat
  | [] => 0
  | d :: r => uptoBulk d + uptoBulkAll r
def uptoBulkEntries {H : Type} : List (Lit × DataW H) → Nat
  | [] => 0
  | x :: r => uptoBulkEntry x + uptoBulkEntries r
def uptoBulkEntry {H : Type} : Lit × DataW H → Nat
  | (.string bytes, d) => bytes.length + uptoBulk d + 1
  | (_, d) => uptoBulk d + 1
 end
def uptoSmall : (H : Type) → List (DataW H) → Bool := fun _ ds => decide (uptoBulkAll ds ≤ 1048576)
def OpenSpec.upto (s : _root_.Go.ChangeSpec) : _root_.Go.OpenSpec := { _root_.Go.OpenSpec.ofChange s with cond := some uptoSmall }

/-- 'hectographlaw18.ImageFolds', WHERE WHAT IT READS IS OF BULK AT MOST 1048576: true; the input reads as it did. -/
def imageFoldsUptoRow : OpenClaim := { program := "ytcbdghojlbpomaagreat", sum := "b115ec2affc154b14855fe94fd46b43a9697a8762fe5138ab9d385ac580db79e", func := "hectograph/hectographlaw18.ImageFolds", spec := "imageFolds", inPlace := ["slices.overlaps[hectograph/api.Key]"], unfollowed := true, recurses := true, plainKeys := false, apart := false, narrowed := true }
def ImageFoldsUptoSaid : Prop := imageFoldsUptoRow.holds Tryz.pinned (OpenSpec.upto imageFoldsSpec)

/-- 'hectographlaw18.ImageReads', WHERE WHAT IT READS IS OF BULK AT MOST 1048576: true; the input reads as it did. -/
def imageReadsUptoRow : OpenClaim := { program := "ytcbdghojlbpomaagreat", sum := "b115ec2affc154b14855fe94fd46b43a9697a8762fe5138ab9d385ac580db79e", func := "hectograph/hectographlaw18.ImageReads", spec := "imageReads", inPlace := ["slices.overlaps[hectograph/api.Key]"], unfollowed := true, recurses := true, plainKeys := false, apart := false, narrowed := true }
def ImageReadsUptoSaid : Prop := imageReadsUptoRow.holds Tryz.pinned (OpenSpec.upto imageReadsSpec)

/-- 'hectographlaw18.ImageHolds', WHERE WHAT IT READS IS OF BULK AT MOST 1048576: true; the input reads as it did. -/
def imageHoldsUptoRow : OpenClaim := { program := "ytcbdghojlbpomaagreat", sum := "b115ec2affc154b14855fe94fd46b43a9697a8762fe5138ab9d385ac580db79e", func := "hectograph/hectographlaw18.ImageHolds", spec := "imageHolds", inPlace := ["slices.overlaps[hectograph/api.Key]"], unfollowed := true, recurses := true, plainKeys := false, apart := false, narrowed := true }
def ImageHoldsUptoSaid : Prop := imageHoldsUptoRow.holds Tryz.pinned (OpenSpec.upto imageHoldsSpec)

/-- 'hectographlaw18.ImageLays', WHERE WHAT IT READS IS OF BULK AT MOST 1048576: true; the input reads as it did. -/
def imageLaysUptoRow : OpenClaim := { program := "ytcbdghojlbpomaagreat", sum := "b115ec2affc154b14855fe94fd46b43a9697a8762fe5138ab9d385ac580db79e", func := "hectograph/hectographlaw18.ImageLays", spec := "imageLays", inPlace := ["slices.overlaps[hectograph/api.Key]"], unfollowed := true, recurses := true, plainKeys := false, apart := false, narrowed := true }
def ImageLaysUptoSaid : Prop := imageLaysUptoRow.holds Tryz.pinned (OpenSpec.upto imageLaysSpec)

/-- 'hectographlaw20.ApplierFalls', WHERE WHAT IT READS IS OF BULK AT MOST 1048576: true; the input reads as it did. -/
def applierFallsUptoRow : OpenClaim := { program := "ytcbdghojlbpomaagreat", sum := "b115ec2affc154b14855fe94fd46b43a9697a8762fe5138ab9d385ac580db79e", func := "hectograph/hectographlaw20.ApplierFalls", spec := "applierFalls", inPlace := ["slices.overlaps[hectograph/api.Key]"], unfollowed := true, recurses := true, plainKeys := false, apart := false, narrowed := true }
def ApplierFallsUptoSaid : Prop := applierFallsUptoRow.holds Tryz.pinned (OpenSpec.upto applierFallsSpec)

/-- 'hectographlaw18.ImagePlays', WHERE WHAT IT READS IS OF BULK AT MOST 1048576: true; the input reads as it did. -/
def imagePlaysUptoRow : OpenClaim := { program := "ytcbdghojlbpomaagreat", sum := "b115ec2affc154b14855fe94fd46b43a9697a8762fe5138ab9d385ac580db79e", func := "hectograph/hectographlaw18.ImagePlays", spec := "imagePlays", inPlace := ["slices.overlaps[hectograph/api.Key]"], unfollowed := true, recurses := true, plainKeys := false, apart := false, narrowed := true }
def ImagePlaysUptoSaid : Prop := imagePlaysUptoRow.holds Tryz.pinned (OpenSpec.upto imagePlaysSpec)

/-- 'hectographlaw20.ApplierFolds', WHERE WHAT IT READS IS OF BULK AT MOST 1048576: true; the input reads as it did. -/
def applierFoldsUptoRow : OpenClaim := { program := "ytcbdghojlbpomaagreat", sum := "b115ec2affc154b14855fe94fd46b43a9697a8762fe5138ab9d385ac580db79e", func := "hectograph/hectographlaw20.ApplierFolds", spec := "applierFolds", inPlace := ["slices.overlaps[hectograph/api.Key]"], unfollowed := true, recurses := true, plainKeys := false, apart := false, narrowed := true }
def ApplierFoldsUptoSaid : Prop := applierFoldsUptoRow.holds Tryz.pinned (OpenSpec.upto applierFoldsSpec)

/-- 'hectographlaw20.ApplierMakes', WHERE WHAT IT READS IS OF BULK AT MOST 1048576: true; the input reads as it did. -/
def applierMakesUptoRow : OpenClaim := { program := "ytcbdghojlbpomaagreat", sum := "b115ec2affc154b14855fe94fd46b43a9697a8762fe5138ab9d385ac580db79e", func := "hectograph/hectographlaw20.ApplierMakes", spec := "applierMakes", inPlace := ["slices.overlaps[hectograph/api.Key]"], unfollowed := true, recurses := true, plainKeys := false, apart := false, narrowed := true }
def ApplierMakesUptoSaid : Prop := applierMakesUptoRow.holds Tryz.pinned (OpenSpec.upto applierMakesSpec)

end Rows
end Go.Proofs.YtcbdghojlbpomaaGreat
