/-
  No cell of these rows narrows 'for every input' (looked for: loops, veiled, ifaces, maps, wideKeys, modest, calm, conditions, laid).
  DERIVED. THE GIVEN ROWS OF THIS SEAT. 5 by the template 'for every input the law returns true; each argument reads behind the call as it read before'; 0 by the template 'total and deterministic' (their statements: YtflcokdkobhieaaTotals.lean).
  GIVEN WITH THE SEED: the statements are not yours to turn. If you find one false, say at which input.
  Laid BY PROGRAM, IN A SANDBOX (cutbox-rows.mjs): the forced cells as the released guide's own fill.sh prints them over the translation ce0bee9fd703678c… (all of the seat's roots in one cut). By AI agents, Wed Nov 11 2026. No macro, syntax, notation, axiom, sorry.
-/
import Derived.Test.YtflcokdkobhieaaChecked
import GoSem.Claim
import GoSem.ClaimJoined
import GoSem.ClaimMapViews
import Derived.JoinedTies
import Derived.KernelRfl
namespace Go.Proofs.Ytflcokdkobhieaa
/- THE CELL 'sum', in the pinned program and in every row, IS THE sha256 OF THE DUMP (.gsa) THAT YtflcokdkobhieaaProg.lean LOADS. Nothing in Lean hashes anything: it is a label: what it is worth is what the hold of that sum in a sandbox is worth. -/
noncomputable def Try.pinned : Pinned := { name := "ytflcokdkobhieaa", sum := "ce0bee9fd703678c8040d822dce8037d65d46762632a6eac0b314bfeef6b3d4a", checked := Try.checked }
namespace Rows
def none {H : Type} : Left H := { results := [], args := [] }

/-- 'lighteragelaw17.JournalSaves': WHATEVER THE INPUT: true; the input reads as it did. -/
def journalSavesSpec : ChangeSpec := { name := "journalSaves", fn := fun _ => fun
  | [d1, d2, d3] => { results := [.lit (.bool true)], args := [d1, d2, d3] }
  | _ => none }
def journalSavesRow : OpenClaim := { program := "ytflcokdkobhieaa", sum := "ce0bee9fd703678c8040d822dce8037d65d46762632a6eac0b314bfeef6b3d4a", func := "lighterage/lighteragelaw17.JournalSaves", spec := "journalSaves", inPlace := ["internal/bytealg.Compare", "internal/bytealg.IndexByteString", "internal/bytealg.IndexString", "maps.clone", "slices.overlaps[lighterage/api.Digest]"], unfollowed := true, recurses := true, named := ["internal/bytealg.MaxLen"], apart := false }
def JournalSavesSaid : Prop := journalSavesRow.holds Try.pinned (OpenSpec.ofChange journalSavesSpec)

/-- ITS FALSE NEIGHBOUR: 'it returns false'. Refute it at one input. -/
def journalSavesWrong : ChangeSpec := { name := "journalSaves", fn := fun _ => fun
  | [d1, d2, d3] => { results := [.lit (.bool false)], args := [d1, d2, d3] }
  | _ => none }
def JournalSavesWrongFalsely : Prop := journalSavesRow.holds Try.pinned (OpenSpec.ofChange journalSavesWrong)

/-- 'lighteragelaw12.DiskNames': WHATEVER THE INPUT: true; the input reads as it did. -/
def diskNamesSpec : ChangeSpec := { name := "diskNames", fn := fun _ => fun
  | [d1, d2, d3, d4] => { results := [.lit (.bool true)], args := [d1, d2, d3, d4] }
  | _ => none }
def diskNamesRow : OpenClaim := { program := "ytflcokdkobhieaa", sum := "ce0bee9fd703678c8040d822dce8037d65d46762632a6eac0b314bfeef6b3d4a", func := "lighterage/lighteragelaw12.DiskNames", spec := "diskNames", inPlace := ["internal/bytealg.IndexByteString", "internal/bytealg.IndexString", "maps.clone"], unfollowed := true, recurses := true, named := ["internal/bytealg.MaxLen"], apart := false }
def DiskNamesSaid : Prop := diskNamesRow.holds Try.pinned (OpenSpec.ofChange diskNamesSpec)

/-- ITS FALSE NEIGHBOUR: 'it returns false'. Refute it at one input. -/
def diskNamesWrong : ChangeSpec := { name := "diskNames", fn := fun _ => fun
  | [d1, d2, d3, d4] => { results := [.lit (.bool false)], args := [d1, d2, d3, d4] }
  | _ => none }
def DiskNamesWrongFalsely : Prop := diskNamesRow.holds Try.pinned (OpenSpec.ofChange diskNamesWrong)

/-- 'lighteragelaw12.DiskPower': WHATEVER THE INPUT: true; the input reads as it did. -/
def diskPowerSpec : ChangeSpec := { name := "diskPower", fn := fun _ => fun
  | [d1, d2] => { results := [.lit (.bool true)], args := [d1, d2] }
  | _ => none }
def diskPowerRow : OpenClaim := { program := "ytflcokdkobhieaa", sum := "ce0bee9fd703678c8040d822dce8037d65d46762632a6eac0b314bfeef6b3d4a", func := "lighterage/lighteragelaw12.DiskPower", spec := "diskPower", inPlace := ["internal/bytealg.IndexByteString", "internal/bytealg.IndexString", "maps.clone"], unfollowed := true, recurses := true, named := ["internal/bytealg.MaxLen"], apart := false }
def DiskPowerSaid : Prop := diskPowerRow.holds Try.pinned (OpenSpec.ofChange diskPowerSpec)

/-- ITS FALSE NEIGHBOUR: 'it returns false'. Refute it at one input. -/
def diskPowerWrong : ChangeSpec := { name := "diskPower", fn := fun _ => fun
  | [d1, d2] => { results := [.lit (.bool false)], args := [d1, d2] }
  | _ => none }
def DiskPowerWrongFalsely : Prop := diskPowerRow.holds Try.pinned (OpenSpec.ofChange diskPowerWrong)

/-- 'lighteragelaw12.DiskPlays': WHATEVER THE INPUT: true; the input reads as it did. -/
def diskPlaysSpec : ChangeSpec := { name := "diskPlays", fn := fun _ => fun
  | [d1, d2] => { results := [.lit (.bool true)], args := [d1, d2] }
  | _ => none }
def diskPlaysRow : OpenClaim := { program := "ytflcokdkobhieaa", sum := "ce0bee9fd703678c8040d822dce8037d65d46762632a6eac0b314bfeef6b3d4a", func := "lighterage/lighteragelaw12.DiskPlays", spec := "diskPlays", inPlace := ["internal/bytealg.IndexByteString", "internal/bytealg.IndexString", "maps.clone"], unfollowed := true, recurses := true, named := ["internal/bytealg.MaxLen"], apart := false }
def DiskPlaysSaid : Prop := diskPlaysRow.holds Try.pinned (OpenSpec.ofChange diskPlaysSpec)

/-- ITS FALSE NEIGHBOUR: 'it returns false'. Refute it at one input. -/
def diskPlaysWrong : ChangeSpec := { name := "diskPlays", fn := fun _ => fun
  | [d1, d2] => { results := [.lit (.bool false)], args := [d1, d2] }
  | _ => none }
def DiskPlaysWrongFalsely : Prop := diskPlaysRow.holds Try.pinned (OpenSpec.ofChange diskPlaysWrong)

/-- 'lighteragelaw12.DiskLasts': WHATEVER THE INPUT: true; the input reads as it did. -/
def diskLastsSpec : ChangeSpec := { name := "diskLasts", fn := fun _ => fun
  | [d1, d2, d3] => { results := [.lit (.bool true)], args := [d1, d2, d3] }
  | _ => none }
def diskLastsRow : OpenClaim := { program := "ytflcokdkobhieaa", sum := "ce0bee9fd703678c8040d822dce8037d65d46762632a6eac0b314bfeef6b3d4a", func := "lighterage/lighteragelaw12.DiskLasts", spec := "diskLasts", inPlace := ["internal/bytealg.IndexByteString", "internal/bytealg.IndexString", "maps.clone"], unfollowed := true, recurses := true, named := ["internal/bytealg.MaxLen"], apart := false }
def DiskLastsSaid : Prop := diskLastsRow.holds Try.pinned (OpenSpec.ofChange diskLastsSpec)

/-- ITS FALSE NEIGHBOUR: 'it returns false'. Refute it at one input. -/
def diskLastsWrong : ChangeSpec := { name := "diskLasts", fn := fun _ => fun
  | [d1, d2, d3] => { results := [.lit (.bool false)], args := [d1, d2, d3] }
  | _ => none }
def DiskLastsWrongFalsely : Prop := diskLastsRow.holds Try.pinned (OpenSpec.ofChange diskLastsWrong)

/- THE SECOND FORM. 'bulk': how many values and letters a reading holds, each counted each time it is reached (what is shared counts as often as it is met; a slice's spare places count too). A statement '..UptoSaid' is the law's where the arguments, and the package variables that the reading takes, are together of bulk at most 1048576: NARROWER than '..Said'. Prove '..Said' where nothing that the law and all that it calls make is longer than what came in: it says more and counts as full. Else prove '..UptoSaid'. A law counts once. -/
mutual
def uptoBulk {H : Type} : DataW H → Nat
  | .lit (.string bytes) => bytes.length + 1
  | .lit _ => 1
  | .nil => 1
  | .ptr d => uptoBulk d + 1
  | .slice elems spare => uptoBulkAll elems + uptoBulkAll spare + 1
  | .agg parts => uptoBulkAll parts + 1
  | .iface _ d => uptoBulk d + 1
  | .map entries => uptoBulkEntries entries + 1
  | .held _ => 1
def uptoBulkAll {H : Type} : List (DataW H) → Nat
  | [] => 0
  | d :: r => uptoBulk d + uptoBulkAll r
def uptoBulkEntries {H : Type} : List (Lit × DataW H) → Nat
  | [] => 0
  | x :: r => uptoBulkEntry x + uptoBulkEntries r
def uptoBulkEntry {H : Type} : Lit × DataW H → Nat
  | (.string bytes, d) => bytes.length + uptoBulk d + 1
  | (_, d) => uptoBulk d + 1
 end
def uptoSmall : (H : Type) → List (DataW H) → Bool := fun _ ds => decide (uptoBulkAll ds ≤ 1048576)
def OpenSpec.upto (s : _root_.Go.ChangeSpec) : _root_.Go.OpenSpec := { _root_.Go.OpenSpec.ofChange s with cond := some uptoSmall }

/-- 'lighteragelaw17.JournalSaves', WHERE WHAT IT READS IS OF BULK AT MOST 1048576: true; the input reads as it did. -/
def journalSavesUptoRow : OpenClaim := { program := "ytflcokdkobhieaa", sum := "ce0bee9fd703678c8040d822dce8037d65d46762632a6eac0b314bfeef6b3d4a", func := "lighterage/lighteragelaw17.JournalSaves", spec := "journalSaves", inPlace := ["internal/bytealg.Compare", "internal/bytealg.IndexByteString", "internal/bytealg.IndexString", "maps.clone", "slices.overlaps[lighterage/api.Digest]"], unfollowed := true, recurses := true, named := ["internal/bytealg.MaxLen"], apart := false, narrowed := true }
def JournalSavesUptoSaid : Prop := journalSavesUptoRow.holds Try.pinned (OpenSpec.upto journalSavesSpec)

/-- 'lighteragelaw12.DiskNames', WHERE WHAT IT READS IS OF BULK AT MOST 1048576: true; the input reads as it did. -/
def diskNamesUptoRow : OpenClaim := { program := "ytflcokdkobhieaa", sum := "ce0bee9fd703678c8040d822dce8037d65d46762632a6eac0b314bfeef6b3d4a", func := "lighterage/lighteragelaw12.DiskNames", spec := "diskNames", inPlace := ["internal/bytealg.IndexByteString", "internal/bytealg.IndexString", "maps.clone"], unfollowed := true, recurses := true, named := ["internal/bytealg.MaxLen"], apart := false, narrowed := true }
def DiskNamesUptoSaid : Prop := diskNamesUptoRow.holds Try.pinned (OpenSpec.upto diskNamesSpec)

/-- 'lighteragelaw12.DiskPower', WHERE WHAT IT READS IS OF BULK AT MOST 1048576: true; the input reads as it did. -/
def diskPowerUptoRow : OpenClaim := { program := "ytflcokdkobhieaa", sum := "ce0bee9fd703678c8040d822dce8037d65d46762632a6eac0b314bfeef6b3d4a", func := "lighterage/lighteragelaw12.DiskPower", spec := "diskPower", inPlace := ["internal/bytealg.IndexByteString", "internal/bytealg.IndexString", "maps.clone"], unfollowed := true, recurses := true, named := ["internal/bytealg.MaxLen"], apart := false, narrowed := true }
def DiskPowerUptoSaid : Prop := diskPowerUptoRow.holds Try.pinned (OpenSpec.upto diskPowerSpec)

/-- 'lighteragelaw12.DiskPlays', WHERE WHAT IT READS IS OF BULK AT MOST 1048576: true; the input reads as it did. -/
def diskPlaysUptoRow : OpenClaim := { program := "ytflcokdkobhieaa", sum := "ce0bee9fd703678c8040d822dce8037d65d46762632a6eac0b314bfeef6b3d4a", func := "lighterage/lighteragelaw12.DiskPlays", spec := "diskPlays", inPlace := ["internal/bytealg.IndexByteString", "internal/bytealg.IndexString", "maps.clone"], unfollowed := true, recurses := true, named := ["internal/bytealg.MaxLen"], apart := false, narrowed := true }
def DiskPlaysUptoSaid : Prop := diskPlaysUptoRow.holds Try.pinned (OpenSpec.upto diskPlaysSpec)

/-- 'lighteragelaw12.DiskLasts', WHERE WHAT IT READS IS OF BULK AT MOST 1048576: true; the input reads as it did. -/
def diskLastsUptoRow : OpenClaim := { program := "ytflcokdkobhieaa", sum := "ce0bee9fd703678c8040d822dce8037d65d46762632a6eac0b314bfeef6b3d4a", func := "lighterage/lighteragelaw12.DiskLasts", spec := "diskLasts", inPlace := ["internal/bytealg.IndexByteString", "internal/bytealg.IndexString", "maps.clone"], unfollowed := true, recurses := true, named := ["internal/bytealg.MaxLen"], apart := false, narrowed := true }
def DiskLastsUptoSaid : Prop := diskLastsUptoRow.holds Try.pinned (OpenSpec.upto diskLastsSpec)

end Rows
end Go.Proofs.Ytflcokdkobhieaa
