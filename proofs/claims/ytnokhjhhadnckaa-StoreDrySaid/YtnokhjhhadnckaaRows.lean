/-
  No cell of these rows narrows 'for every input' (looked for: loops, veiled, ifaces, maps, wideKeys, modest, calm, conditions, laid).
  DERIVED. THE GIVEN ROWS OF THIS SEAT. 10 by the template 'for every input the law returns true; each argument reads behind the call as it read before'; 0 by the template 'total and deterministic' (their statements: YtnokhjhhadnckaaTotals.lean).
  GIVEN WITH THE SEED: the statements are not yours to turn. If you find one false, say at which input.
  Laid BY PROGRAM, IN A SANDBOX (cutbox-rows.mjs): the forced cells as the released guide's own fill.sh prints them over the translation 295d7eaf3dfcab87… (all of the seat's roots in one cut). By AI agents, Wed Nov 11 2026. No macro, syntax, notation, axiom, sorry.
-/
import Derived.Test.YtnokhjhhadnckaaChecked
import GoSem.Claim
import GoSem.ClaimJoined
import GoSem.ClaimMapViews
import Derived.JoinedTies
import Derived.KernelRfl
namespace Go.Proofs.Ytnokhjhhadnckaa
/- THE CELL 'sum', in the pinned program and in every row, IS THE sha256 OF THE DUMP (.gsa) THAT YtnokhjhhadnckaaProg.lean LOADS. Nothing in Lean hashes anything: it is a label: what it is worth is what the hold of that sum in a sandbox is worth. -/
noncomputable def Try.pinned : Pinned := { name := "ytnokhjhhadnckaa", sum := "295d7eaf3dfcab8790f36be59bf98d69b520789ac01e7d40b64635540b76254b", checked := Try.checked }
namespace Rows
def none {H : Type} : Left H := { results := [], args := [] }

/-- 'hectographlaw3.StoreKeeps': WHATEVER THE INPUT: true; the input reads as it did. -/
def storeKeepsSpec : ChangeSpec := { name := "storeKeeps", fn := fun _ => fun
  | [d1, d2, d3] => { results := [.lit (.bool true)], args := [d1, d2, d3] }
  | _ => none }
def storeKeepsRow : OpenClaim := { program := "ytnokhjhhadnckaa", sum := "295d7eaf3dfcab8790f36be59bf98d69b520789ac01e7d40b64635540b76254b", func := "hectograph/hectographlaw3.StoreKeeps", spec := "storeKeeps", inPlace := ["slices.overlaps[hectograph/api.Key]"], unfollowed := true, recurses := true, plainKeys := false, apart := false }
def StoreKeepsSaid : Prop := storeKeepsRow.holds Try.pinned (OpenSpec.ofChange storeKeepsSpec)

/-- ITS FALSE NEIGHBOUR: 'it returns false'. Refute it at one input. -/
def storeKeepsWrong : ChangeSpec := { name := "storeKeeps", fn := fun _ => fun
  | [d1, d2, d3] => { results := [.lit (.bool false)], args := [d1, d2, d3] }
  | _ => none }
def StoreKeepsWrongFalsely : Prop := storeKeepsRow.holds Try.pinned (OpenSpec.ofChange storeKeepsWrong)

/-- 'hectographlaw3.StoreLists': WHATEVER THE INPUT: true; the input reads as it did. -/
def storeListsSpec : ChangeSpec := { name := "storeLists", fn := fun _ => fun
  | [d1, d2, d3] => { results := [.lit (.bool true)], args := [d1, d2, d3] }
  | _ => none }
def storeListsRow : OpenClaim := { program := "ytnokhjhhadnckaa", sum := "295d7eaf3dfcab8790f36be59bf98d69b520789ac01e7d40b64635540b76254b", func := "hectograph/hectographlaw3.StoreLists", spec := "storeLists", inPlace := ["slices.overlaps[hectograph/api.Key]"], unfollowed := true, recurses := true, plainKeys := false, apart := false }
def StoreListsSaid : Prop := storeListsRow.holds Try.pinned (OpenSpec.ofChange storeListsSpec)

/-- ITS FALSE NEIGHBOUR: 'it returns false'. Refute it at one input. -/
def storeListsWrong : ChangeSpec := { name := "storeLists", fn := fun _ => fun
  | [d1, d2, d3] => { results := [.lit (.bool false)], args := [d1, d2, d3] }
  | _ => none }
def StoreListsWrongFalsely : Prop := storeListsRow.holds Try.pinned (OpenSpec.ofChange storeListsWrong)

/-- 'hectographlaw3.StoreRots': WHATEVER THE INPUT: true; the input reads as it did. -/
def storeRotsSpec : ChangeSpec := { name := "storeRots", fn := fun _ => fun
  | [d1, d2, d3] => { results := [.lit (.bool true)], args := [d1, d2, d3] }
  | _ => none }
def storeRotsRow : OpenClaim := { program := "ytnokhjhhadnckaa", sum := "295d7eaf3dfcab8790f36be59bf98d69b520789ac01e7d40b64635540b76254b", func := "hectograph/hectographlaw3.StoreRots", spec := "storeRots", inPlace := ["slices.overlaps[hectograph/api.Key]"], unfollowed := true, recurses := true, plainKeys := false, apart := false }
def StoreRotsSaid : Prop := storeRotsRow.holds Try.pinned (OpenSpec.ofChange storeRotsSpec)

/-- ITS FALSE NEIGHBOUR: 'it returns false'. Refute it at one input. -/
def storeRotsWrong : ChangeSpec := { name := "storeRots", fn := fun _ => fun
  | [d1, d2, d3] => { results := [.lit (.bool false)], args := [d1, d2, d3] }
  | _ => none }
def StoreRotsWrongFalsely : Prop := storeRotsRow.holds Try.pinned (OpenSpec.ofChange storeRotsWrong)

/-- 'hectographlaw3.StoreRooms': WHATEVER THE INPUT: true; the input reads as it did. -/
def storeRoomsSpec : ChangeSpec := { name := "storeRooms", fn := fun _ => fun
  | [d1, d2] => { results := [.lit (.bool true)], args := [d1, d2] }
  | _ => none }
def storeRoomsRow : OpenClaim := { program := "ytnokhjhhadnckaa", sum := "295d7eaf3dfcab8790f36be59bf98d69b520789ac01e7d40b64635540b76254b", func := "hectograph/hectographlaw3.StoreRooms", spec := "storeRooms", inPlace := ["slices.overlaps[hectograph/api.Key]"], unfollowed := true, recurses := true, plainKeys := false, apart := false }
def StoreRoomsSaid : Prop := storeRoomsRow.holds Try.pinned (OpenSpec.ofChange storeRoomsSpec)

/-- ITS FALSE NEIGHBOUR: 'it returns false'. Refute it at one input. -/
def storeRoomsWrong : ChangeSpec := { name := "storeRooms", fn := fun _ => fun
  | [d1, d2] => { results := [.lit (.bool false)], args := [d1, d2] }
  | _ => none }
def StoreRoomsWrongFalsely : Prop := storeRoomsRow.holds Try.pinned (OpenSpec.ofChange storeRoomsWrong)

/-- 'hectographlaw3.StoreFuses': WHATEVER THE INPUT: true; the input reads as it did. -/
def storeFusesSpec : ChangeSpec := { name := "storeFuses", fn := fun _ => fun
  | [d1, d2, d3, d4] => { results := [.lit (.bool true)], args := [d1, d2, d3, d4] }
  | _ => none }
def storeFusesRow : OpenClaim := { program := "ytnokhjhhadnckaa", sum := "295d7eaf3dfcab8790f36be59bf98d69b520789ac01e7d40b64635540b76254b", func := "hectograph/hectographlaw3.StoreFuses", spec := "storeFuses", inPlace := ["slices.overlaps[hectograph/api.Key]"], unfollowed := true, recurses := true, plainKeys := false, apart := false }
def StoreFusesSaid : Prop := storeFusesRow.holds Try.pinned (OpenSpec.ofChange storeFusesSpec)

/-- ITS FALSE NEIGHBOUR: 'it returns false'. Refute it at one input. -/
def storeFusesWrong : ChangeSpec := { name := "storeFuses", fn := fun _ => fun
  | [d1, d2, d3, d4] => { results := [.lit (.bool false)], args := [d1, d2, d3, d4] }
  | _ => none }
def StoreFusesWrongFalsely : Prop := storeFusesRow.holds Try.pinned (OpenSpec.ofChange storeFusesWrong)

/-- 'hectographlaw3.StoreDry': WHATEVER THE INPUT: true; the input reads as it did. -/
def storeDrySpec : ChangeSpec := { name := "storeDry", fn := fun _ => fun
  | [d1, d2, d3, d4] => { results := [.lit (.bool true)], args := [d1, d2, d3, d4] }
  | _ => none }
def storeDryRow : OpenClaim := { program := "ytnokhjhhadnckaa", sum := "295d7eaf3dfcab8790f36be59bf98d69b520789ac01e7d40b64635540b76254b", func := "hectograph/hectographlaw3.StoreDry", spec := "storeDry", inPlace := ["slices.overlaps[hectograph/api.Key]"], unfollowed := true, recurses := true, plainKeys := false, apart := false }
def StoreDrySaid : Prop := storeDryRow.holds Try.pinned (OpenSpec.ofChange storeDrySpec)

/-- ITS FALSE NEIGHBOUR: 'it returns false'. Refute it at one input. -/
def storeDryWrong : ChangeSpec := { name := "storeDry", fn := fun _ => fun
  | [d1, d2, d3, d4] => { results := [.lit (.bool false)], args := [d1, d2, d3, d4] }
  | _ => none }
def StoreDryWrongFalsely : Prop := storeDryRow.holds Try.pinned (OpenSpec.ofChange storeDryWrong)

/-- 'hectographlaw19.LockOne': WHATEVER THE INPUT: true; the input reads as it did. -/
def lockOneSpec : ChangeSpec := { name := "lockOne", fn := fun _ => fun
  | [d1, d2, d3] => { results := [.lit (.bool true)], args := [d1, d2, d3] }
  | _ => none }
def lockOneRow : OpenClaim := { program := "ytnokhjhhadnckaa", sum := "295d7eaf3dfcab8790f36be59bf98d69b520789ac01e7d40b64635540b76254b", func := "hectograph/hectographlaw19.LockOne", spec := "lockOne", inPlace := ["slices.overlaps[hectograph/api.Key]"], unfollowed := true, recurses := true, plainKeys := false, apart := false }
def LockOneSaid : Prop := lockOneRow.holds Try.pinned (OpenSpec.ofChange lockOneSpec)

/-- ITS FALSE NEIGHBOUR: 'it returns false'. Refute it at one input. -/
def lockOneWrong : ChangeSpec := { name := "lockOne", fn := fun _ => fun
  | [d1, d2, d3] => { results := [.lit (.bool false)], args := [d1, d2, d3] }
  | _ => none }
def LockOneWrongFalsely : Prop := lockOneRow.holds Try.pinned (OpenSpec.ofChange lockOneWrong)

/-- 'hectographlaw19.LockPlays': WHATEVER THE INPUT: true; the input reads as it did. -/
def lockPlaysSpec : ChangeSpec := { name := "lockPlays", fn := fun _ => fun
  | [d1, d2] => { results := [.lit (.bool true)], args := [d1, d2] }
  | _ => none }
def lockPlaysRow : OpenClaim := { program := "ytnokhjhhadnckaa", sum := "295d7eaf3dfcab8790f36be59bf98d69b520789ac01e7d40b64635540b76254b", func := "hectograph/hectographlaw19.LockPlays", spec := "lockPlays", inPlace := ["slices.overlaps[hectograph/api.Key]"], unfollowed := true, recurses := true, plainKeys := false, apart := false }
def LockPlaysSaid : Prop := lockPlaysRow.holds Try.pinned (OpenSpec.ofChange lockPlaysSpec)

/-- ITS FALSE NEIGHBOUR: 'it returns false'. Refute it at one input. -/
def lockPlaysWrong : ChangeSpec := { name := "lockPlays", fn := fun _ => fun
  | [d1, d2] => { results := [.lit (.bool false)], args := [d1, d2] }
  | _ => none }
def LockPlaysWrongFalsely : Prop := lockPlaysRow.holds Try.pinned (OpenSpec.ofChange lockPlaysWrong)

/-- 'hectographlaw19.LockFalls': WHATEVER THE INPUT: true; the input reads as it did. -/
def lockFallsSpec : ChangeSpec := { name := "lockFalls", fn := fun _ => fun
  | [d1, d2, d3] => { results := [.lit (.bool true)], args := [d1, d2, d3] }
  | _ => none }
def lockFallsRow : OpenClaim := { program := "ytnokhjhhadnckaa", sum := "295d7eaf3dfcab8790f36be59bf98d69b520789ac01e7d40b64635540b76254b", func := "hectograph/hectographlaw19.LockFalls", spec := "lockFalls", inPlace := ["slices.overlaps[hectograph/api.Key]"], unfollowed := true, recurses := true, plainKeys := false, apart := false }
def LockFallsSaid : Prop := lockFallsRow.holds Try.pinned (OpenSpec.ofChange lockFallsSpec)

/-- ITS FALSE NEIGHBOUR: 'it returns false'. Refute it at one input. -/
def lockFallsWrong : ChangeSpec := { name := "lockFalls", fn := fun _ => fun
  | [d1, d2, d3] => { results := [.lit (.bool false)], args := [d1, d2, d3] }
  | _ => none }
def LockFallsWrongFalsely : Prop := lockFallsRow.holds Try.pinned (OpenSpec.ofChange lockFallsWrong)

/-- 'hectographlaw21.RoleSaves': WHATEVER THE INPUT: true; the input reads as it did. -/
def roleSavesSpec : ChangeSpec := { name := "roleSaves", fn := fun _ => fun
  | [d1, d2, d3, d4] => { results := [.lit (.bool true)], args := [d1, d2, d3, d4] }
  | _ => none }
def roleSavesRow : OpenClaim := { program := "ytnokhjhhadnckaa", sum := "295d7eaf3dfcab8790f36be59bf98d69b520789ac01e7d40b64635540b76254b", func := "hectograph/hectographlaw21.RoleSaves", spec := "roleSaves", inPlace := ["slices.overlaps[hectograph/api.Key]"], unfollowed := true, recurses := true, plainKeys := false, apart := false }
def RoleSavesSaid : Prop := roleSavesRow.holds Try.pinned (OpenSpec.ofChange roleSavesSpec)

/-- ITS FALSE NEIGHBOUR: 'it returns false'. Refute it at one input. -/
def roleSavesWrong : ChangeSpec := { name := "roleSaves", fn := fun _ => fun
  | [d1, d2, d3, d4] => { results := [.lit (.bool false)], args := [d1, d2, d3, d4] }
  | _ => none }
def RoleSavesWrongFalsely : Prop := roleSavesRow.holds Try.pinned (OpenSpec.ofChange roleSavesWrong)

/- THE SECOND FORM. 'bulk': how many values and letters a reading holds, each counted each time it is reached (what is shared counts as often as it is met; a slice's spare places count too). A statement '..UptoSaid' is the law's where the arguments, and the package variables that the reading takes, are together of bulk at most 1048576: NARROWER than '..Said'. Prove '..Said' where nothing that the law and all that it calls make is longer than what came in: it says more and counts as full. Else prove '..UptoSaid'. A law counts once. -/
mutual
def uptoBulk {H : Type} : DataW H → Nat
  | .lit (.string bytes) => bytes.length + 1
  | .lit _ => 1
  | .nil => 1
  | .ptr d => uptoBulk d + 1
  | .slice elems spare => uptoBulkAll elems + uptoBulkAll spare + 1
  | .agg parts => uptoBulkAll parts + 1
  | .iface _ d => uptoBulk d + 1
  | .map entries => uptoBulkEntries entries + 1
  | .held _ => 1
def uptoBulkAll {H : Type} : List (DataW H) → Nat
  | [] => 0
  | d :: r => uptoBulk d + uptoBulkAll r
def uptoBulkEntries {H : Type} : List (Lit × DataW H) → Nat
  | [] => 0
  | x :: r => uptoBulkEntry x + uptoBulkEntries r
def uptoBulkEntry {H : Type} : Lit × DataW H → Nat
  | (.string bytes, d) => bytes.length + uptoBulk d + 1
  | (_, d) => uptoBulk d + 1
 end
def uptoSmall : (H : Type) → List (DataW H) → Bool := fun _ ds => decide (uptoBulkAll ds ≤ 1048576)
def OpenSpec.upto (s : _root_.Go.ChangeSpec) : _root_.Go.OpenSpec := { _root_.Go.OpenSpec.ofChange s with cond := some uptoSmall }

/-- 'hectographlaw3.StoreKeeps', WHERE WHAT IT READS IS OF BULK AT MOST 1048576: true; the input reads as it did. -/
def storeKeepsUptoRow : OpenClaim := { program := "ytnokhjhhadnckaa", sum := "295d7eaf3dfcab8790f36be59bf98d69b520789ac01e7d40b64635540b76254b", func := "hectograph/hectographlaw3.StoreKeeps", spec := "storeKeeps", inPlace := ["slices.overlaps[hectograph/api.Key]"], unfollowed := true, recurses := true, plainKeys := false, apart := false, narrowed := true }
def StoreKeepsUptoSaid : Prop := storeKeepsUptoRow.holds Try.pinned (OpenSpec.upto storeKeepsSpec)

/-- 'hectographlaw3.StoreLists', WHERE WHAT IT READS IS OF BULK AT MOST 1048576: true; the input reads as it did. -/
def storeListsUptoRow : OpenClaim := { program := "ytnokhjhhadnckaa", sum := "295d7eaf3dfcab8790f36be59bf98d69b520789ac01e7d40b64635540b76254b", func := "hectograph/hectographlaw3.StoreLists", spec := "storeLists", inPlace := ["slices.overlaps[hectograph/api.Key]"], unfollowed := true, recurses := true, plainKeys := false, apart := false, narrowed := true }
def StoreListsUptoSaid : Prop := storeListsUptoRow.holds Try.pinned (OpenSpec.upto storeListsSpec)

/-- 'hectographlaw3.StoreRots', WHERE WHAT IT READS IS OF BULK AT MOST 1048576: true; the input reads as it did. -/
def storeRotsUptoRow : OpenClaim := { program := "ytnokhjhhadnckaa", sum := "295d7eaf3dfcab8790f36be59bf98d69b520789ac01e7d40b64635540b76254b", func := "hectograph/hectographlaw3.StoreRots", spec := "storeRots", inPlace := ["slices.overlaps[hectograph/api.Key]"], unfollowed := true, recurses := true, plainKeys := false, apart := false, narrowed := true }
def StoreRotsUptoSaid : Prop := storeRotsUptoRow.holds Try.pinned (OpenSpec.upto storeRotsSpec)

/-- 'hectographlaw3.StoreRooms', WHERE WHAT IT READS IS OF BULK AT MOST 1048576: true; the input reads as it did. -/
def storeRoomsUptoRow : OpenClaim := { program := "ytnokhjhhadnckaa", sum := "295d7eaf3dfcab8790f36be59bf98d69b520789ac01e7d40b64635540b76254b", func := "hectograph/hectographlaw3.StoreRooms", spec := "storeRooms", inPlace := ["slices.overlaps[hectograph/api.Key]"], unfollowed := true, recurses := true, plainKeys := false, apart := false, narrowed := true }
def StoreRoomsUptoSaid : Prop := storeRoomsUptoRow.holds Try.pinned (OpenSpec.upto storeRoomsSpec)

/-- 'hectographlaw3.StoreFuses', WHERE WHAT IT READS IS OF BULK AT MOST 1048576: true; the input reads as it did. -/
def storeFusesUptoRow : OpenClaim := { program := "ytnokhjhhadnckaa", sum := "295d7eaf3dfcab8790f36be59bf98d69b520789ac01e7d40b64635540b76254b", func := "hectograph/hectographlaw3.StoreFuses", spec := "storeFuses", inPlace := ["slices.overlaps[hectograph/api.Key]"], unfollowed := true, recurses := true, plainKeys := false, apart := false, narrowed := true }
def StoreFusesUptoSaid : Prop := storeFusesUptoRow.holds Try.pinned (OpenSpec.upto storeFusesSpec)

/-- 'hectographlaw3.StoreDry', WHERE WHAT IT READS IS OF BULK AT MOST 1048576: true; the input reads as it did. -/
def storeDryUptoRow : OpenClaim := { program := "ytnokhjhhadnckaa", sum := "295d7eaf3dfcab8790f36be59bf98d69b520789ac01e7d40b64635540b76254b", func := "hectograph/hectographlaw3.StoreDry", spec := "storeDry", inPlace := ["slices.overlaps[hectograph/api.Key]"], unfollowed := true, recurses := true, plainKeys := false, apart := false, narrowed := true }
def StoreDryUptoSaid : Prop := storeDryUptoRow.holds Try.pinned (OpenSpec.upto storeDrySpec)

/-- 'hectographlaw19.LockOne', WHERE WHAT IT READS IS OF BULK AT MOST 1048576: true; the input reads as it did. -/
def lockOneUptoRow : OpenClaim := { program := "ytnokhjhhadnckaa", sum := "295d7eaf3dfcab8790f36be59bf98d69b520789ac01e7d40b64635540b76254b", func := "hectograph/hectographlaw19.LockOne", spec := "lockOne", inPlace := ["slices.overlaps[hectograph/api.Key]"], unfollowed := true, recurses := true, plainKeys := false, apart := false, narrowed := true }
def LockOneUptoSaid : Prop := lockOneUptoRow.holds Try.pinned (OpenSpec.upto lockOneSpec)

/-- 'hectographlaw19.LockPlays', WHERE WHAT IT READS IS OF BULK AT MOST 1048576: true; the input reads as it did. -/
def lockPlaysUptoRow : OpenClaim := { program := "ytnokhjhhadnckaa", sum := "295d7eaf3dfcab8790f36be59bf98d69b520789ac01e7d40b64635540b76254b", func := "hectograph/hectographlaw19.LockPlays", spec := "lockPlays", inPlace := ["slices.overlaps[hectograph/api.Key]"], unfollowed := true, recurses := true, plainKeys := false, apart := false, narrowed := true }
def LockPlaysUptoSaid : Prop := lockPlaysUptoRow.holds Try.pinned (OpenSpec.upto lockPlaysSpec)

/-- 'hectographlaw19.LockFalls', WHERE WHAT IT READS IS OF BULK AT MOST 1048576: true; the input reads as it did. -/
def lockFallsUptoRow : OpenClaim := { program := "ytnokhjhhadnckaa", sum := "295d7eaf3dfcab8790f36be59bf98d69b520789ac01e7d40b64635540b76254b", func := "hectograph/hectographlaw19.LockFalls", spec := "lockFalls", inPlace := ["slices.overlaps[hectograph/api.Key]"], unfollowed := true, recurses := true, plainKeys := false, apart := false, narrowed := true }
def LockFallsUptoSaid : Prop := lockFallsUptoRow.holds Try.pinned (OpenSpec.upto lockFallsSpec)

/-- 'hectographlaw21.RoleSaves', WHERE WHAT IT READS IS OF BULK AT MOST 1048576: true; the input reads as it did. -/
def roleSavesUptoRow : OpenClaim := { program := "ytnokhjhhadnckaa", sum := "295d7eaf3dfcab8790f36be59bf98d69b520789ac01e7d40b64635540b76254b", func := "hectograph/hectographlaw21.RoleSaves", spec := "roleSaves", inPlace := ["slices.overlaps[hectograph/api.Key]"], unfollowed := true, recurses := true, plainKeys := false, apart := false, narrowed := true }
def RoleSavesUptoSaid : Prop := roleSavesUptoRow.holds Try.pinned (OpenSpec.upto roleSavesSpec)

end Rows
end Go.Proofs.Ytnokhjhhadnckaa
