/-
  No cell of these rows narrows 'for every input' (looked for: loops, veiled, ifaces, maps, wideKeys, modest, calm, conditions, laid).
  DERIVED. THE GIVEN ROWS OF THIS SEAT. 3 by the template 'for every input the law returns true; each argument reads behind the call as it read before'; 0 by the template 'total and deterministic' (their statements: YtbepmbcbcklmlaaTotals.lean).
  GIVEN WITH THE SEED: the statements are not yours to turn. If you find one false, say at which input.
  Laid BY PROGRAM, IN A SANDBOX (cutbox-rows.mjs): the forced cells as the released guide's own fill.sh prints them over the translation dadfbdab036176e4… (all of the seat's roots in one cut). By AI agents, Wed Nov 11 2026. No macro, syntax, notation, axiom, sorry.
-/
import Derived.Test.YtbepmbcbcklmlaaChecked
import GoSem.Claim
import GoSem.ClaimJoined
import GoSem.ClaimMapViews
import Derived.JoinedTies
import Derived.KernelRfl
namespace Go.Proofs.Ytbepmbcbcklmlaa
/- THE CELL 'sum', in the pinned program and in every row, IS THE sha256 OF THE DUMP (.gsa) THAT YtbepmbcbcklmlaaProg.lean LOADS. Nothing in Lean hashes anything: it is a label: what it is worth is what the hold of that sum in a sandbox is worth. -/
noncomputable def Try.pinned : Pinned := { name := "ytbepmbcbcklmlaa", sum := "dadfbdab036176e41b43663f118fb6cbd03ad913867f011f6af28b7f5daafd3e", checked := Try.checked }
namespace Rows
def none {H : Type} : Left H := { results := [], args := [] }

/-- 'hectographlaw17.CowImages': WHATEVER THE INPUT: true; the input reads as it did. -/
def cowImagesSpec : ChangeSpec := { name := "cowImages", fn := fun _ => fun
  | [d1, d2, d3] => { results := [.lit (.bool true)], args := [d1, d2, d3] }
  | _ => none }
def cowImagesRow : OpenClaim := { program := "ytbepmbcbcklmlaa", sum := "dadfbdab036176e41b43663f118fb6cbd03ad913867f011f6af28b7f5daafd3e", func := "hectograph/hectographlaw17.CowImages", spec := "cowImages", inPlace := ["slices.overlaps[hectograph/api.Key]"], unfollowed := true, recurses := true, plainKeys := false, apart := false }
def CowImagesSaid : Prop := cowImagesRow.holds Try.pinned (OpenSpec.ofChange cowImagesSpec)

/-- ITS FALSE NEIGHBOUR: 'it returns false'. Refute it at one input. -/
def cowImagesWrong : ChangeSpec := { name := "cowImages", fn := fun _ => fun
  | [d1, d2, d3] => { results := [.lit (.bool false)], args := [d1, d2, d3] }
  | _ => none }
def CowImagesWrongFalsely : Prop := cowImagesRow.holds Try.pinned (OpenSpec.ofChange cowImagesWrong)

/-- 'hectographlaw17.CowOld': WHATEVER THE INPUT: true; the input reads as it did. -/
def cowOldSpec : ChangeSpec := { name := "cowOld", fn := fun _ => fun
  | [d1, d2, d3, d4, d5, d6] => { results := [.lit (.bool true)], args := [d1, d2, d3, d4, d5, d6] }
  | _ => none }
def cowOldRow : OpenClaim := { program := "ytbepmbcbcklmlaa", sum := "dadfbdab036176e41b43663f118fb6cbd03ad913867f011f6af28b7f5daafd3e", func := "hectograph/hectographlaw17.CowOld", spec := "cowOld", inPlace := ["slices.overlaps[hectograph/api.Key]"], unfollowed := true, recurses := true, plainKeys := false, apart := false }
def CowOldSaid : Prop := cowOldRow.holds Try.pinned (OpenSpec.ofChange cowOldSpec)

/-- ITS FALSE NEIGHBOUR: 'it returns false'. Refute it at one input. -/
def cowOldWrong : ChangeSpec := { name := "cowOld", fn := fun _ => fun
  | [d1, d2, d3, d4, d5, d6] => { results := [.lit (.bool false)], args := [d1, d2, d3, d4, d5, d6] }
  | _ => none }
def CowOldWrongFalsely : Prop := cowOldRow.holds Try.pinned (OpenSpec.ofChange cowOldWrong)

/-- 'hectographlaw17.CowTidies': WHATEVER THE INPUT: true; the input reads as it did. -/
def cowTidiesSpec : ChangeSpec := { name := "cowTidies", fn := fun _ => fun
  | [d1, d2] => { results := [.lit (.bool true)], args := [d1, d2] }
  | _ => none }
def cowTidiesRow : OpenClaim := { program := "ytbepmbcbcklmlaa", sum := "dadfbdab036176e41b43663f118fb6cbd03ad913867f011f6af28b7f5daafd3e", func := "hectograph/hectographlaw17.CowTidies", spec := "cowTidies", inPlace := ["slices.overlaps[hectograph/api.Key]"], unfollowed := true, recurses := true, plainKeys := false, apart := false }
def CowTidiesSaid : Prop := cowTidiesRow.holds Try.pinned (OpenSpec.ofChange cowTidiesSpec)

/-- ITS FALSE NEIGHBOUR: 'it returns false'. Refute it at one input. -/
def cowTidiesWrong : ChangeSpec := { name := "cowTidies", fn := fun _ => fun
  | [d1, d2] => { results := [.lit (.bool false)], args := [d1, d2] }
  | _ => none }
def CowTidiesWrongFalsely : Prop := cowTidiesRow.holds Try.pinned (OpenSpec.ofChange cowTidiesWrong)

/- THE SECOND FORM. 'bulk': how many values and letters a reading holds, each counted each time it is reached (what is shared counts as often as it is met; a slice's spare places count too). A statement '..UptoSaid' is the law's where the arguments, and the package variables that the reading takes, are together of bulk at most 1048576: NARROWER than '..Said'. Prove '..Said' where nothing that the law and all that it calls make is longer than what came in: it says more and counts as full. Else prove '..UptoSaid'. A law counts once. -/
mutual
def uptoBulk {H : Type} : DataW H → Nat
  | .lit (.string bytes) => bytes.length + 1
  | .lit _ => 1
  | .nil => 1
  | .ptr d => uptoBulk d + 1
  | .slice elems spare => uptoBulkAll elems + uptoBulkAll spare + 1
  | .agg parts => uptoBulkAll parts + 1
  | .iface _ d => uptoBulk d + 1
  | .map entries => uptoBulkEntries entries + 1
  | .held _ => 1
def uptoBulkAll {H : Type} : List (DataW H) → Nat
  | [] => 0
  | d :: r => uptoBulk d + uptoBulkAll r
def uptoBulkEntries {H : Type} : List (Lit × DataW H) → Nat
  | [] => 0
  | x :: r => uptoBulkEntry x + uptoBulkEntries r
def uptoBulkEntry {H : Type} : Lit × DataW H → Nat
  | (.string bytes, d) => bytes.length + uptoBulk d + 1
  | (_, d) => uptoBulk d + 1
 end
def uptoSmall : (H : Type) → List (DataW H) → Bool := fun _ ds => decide (uptoBulkAll ds ≤ 1048576)
def OpenSpec.upto (s : _root_.Go.ChangeSpec) : _root_.Go.OpenSpec := { _root_.Go.OpenSpec.ofChange s with cond := some uptoSmall }

/-- 'hectographlaw17.CowImages', WHERE WHAT IT READS IS OF BULK AT MOST 1048576: true; the input reads as it did. -/
def cowImagesUptoRow : OpenClaim := { program := "ytbepmbcbcklmlaa", sum := "dadfbdab036176e41b43663f118fb6cbd03ad913867f011f6af28b7f5daafd3e", func := "hectograph/hectographlaw17.CowImages", spec := "cowImages", inPlace := ["slices.overlaps[hectograph/api.Key]"], unfollowed := true, recurses := true, plainKeys := false, apart := false, narrowed := true }
def CowImagesUptoSaid : Prop := cowImagesUptoRow.holds Try.pinned (OpenSpec.upto cowImagesSpec)

/-- 'hectographlaw17.CowOld', WHERE WHAT IT READS IS OF BULK AT MOST 1048576: true; the input reads as it did. -/
def cowOldUptoRow : OpenClaim := { program := "ytbepmbcbcklmlaa", sum := "dadfbdab036176e41b43663f118fb6cbd03ad913867f011f6af28b7f5daafd3e", func := "hectograph/hectographlaw17.CowOld", spec := "cowOld", inPlace := ["slices.overlaps[hectograph/api.Key]"], unfollowed := true, recurses := true, plainKeys := false, apart := false, narrowed := true }
def CowOldUptoSaid : Prop := cowOldUptoRow.holds Try.pinned (OpenSpec.upto cowOldSpec)

/-- 'hectographlaw17.CowTidies', WHERE WHAT IT READS IS OF BULK AT MOST 1048576: true; the input reads as it did. -/
def cowTidiesUptoRow : OpenClaim := { program := "ytbepmbcbcklmlaa", sum := "dadfbdab036176e41b43663f118fb6cbd03ad913867f011f6af28b7f5daafd3e", func := "hectograph/hectographlaw17.CowTidies", spec := "cowTidies", inPlace := ["slices.overlaps[hectograph/api.Key]"], unfollowed := true, recurses := true, plainKeys := false, apart := false, narrowed := true }
def CowTidiesUptoSaid : Prop := cowTidiesUptoRow.holds Try.pinned (OpenSpec.upto cowTidiesSpec)

end Rows
end Go.Proofs.Ytbepmbcbcklmlaa
