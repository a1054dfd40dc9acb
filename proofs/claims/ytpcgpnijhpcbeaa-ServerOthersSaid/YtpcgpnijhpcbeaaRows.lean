/-
  No cell of these rows narrows 'for every input' (looked for: loops, veiled, ifaces, maps, wideKeys, modest, calm, conditions, laid).
  DERIVED. THE GIVEN ROWS OF THIS SEAT. 7 by the template 'for every input the law returns true; each argument reads behind the call as it read before'; 0 by the template 'total and deterministic' (their statements: YtpcgpnijhpcbeaaTotals.lean).
  GIVEN WITH THE SEED: the statements are not yours to turn. If you find one false, say at which input.
  Laid BY PROGRAM, IN A SANDBOX (cutbox-rows.mjs): the forced cells as the released guide's own fill.sh prints them over the translation 325b173e57df208a… (all of the seat's roots in one cut). By AI agents, Wed Nov 11 2026. No macro, syntax, notation, axiom, sorry.
-/
import Derived.Test.YtpcgpnijhpcbeaaChecked
import GoSem.Claim
import GoSem.ClaimJoined
import GoSem.ClaimMapViews
import Derived.JoinedTies
import Derived.KernelRfl
namespace Go.Proofs.Ytpcgpnijhpcbeaa
/- THE CELL 'sum', in the pinned program and in every row, IS THE sha256 OF THE DUMP (.gsa) THAT YtpcgpnijhpcbeaaProg.lean LOADS. Nothing in Lean hashes anything: it is a label: what it is worth is what the hold of that sum in a sandbox is worth. -/
noncomputable def Try.pinned : Pinned := { name := "ytpcgpnijhpcbeaa", sum := "325b173e57df208ab4ddf6ce1cf6b23fe9b3e2d23bd64242949892a4b8f5dea1", checked := Try.checked }
namespace Rows
def none {H : Type} : Left H := { results := [], args := [] }

/-- 'lighteragelaw20.ServerOthers': WHATEVER THE INPUT: true; the input reads as it did. -/
def serverOthersSpec : ChangeSpec := { name := "serverOthers", fn := fun _ => fun
  | [d1, d2, d3] => { results := [.lit (.bool true)], args := [d1, d2, d3] }
  | _ => none }
def serverOthersRow : OpenClaim := { program := "ytpcgpnijhpcbeaa", sum := "325b173e57df208ab4ddf6ce1cf6b23fe9b3e2d23bd64242949892a4b8f5dea1", func := "lighterage/lighteragelaw20.ServerOthers", spec := "serverOthers", inPlace := ["(*internal/sync.Mutex).Lock", "internal/race.Disable", "sync/atomic.CompareAndSwapInt32", "internal/race.Enable", "internal/race.Acquire", "(*internal/sync.Mutex).lockSlow", "internal/sync.runtime_canSpin", "internal/sync.runtime_doSpin", "internal/sync.throw", "internal/sync.runtime_nanotime", "internal/sync.runtime_SemacquireMutex", "sync/atomic.AddInt32", "(*internal/sync.Mutex).Unlock", "internal/race.ReleaseMerge", "(*internal/sync.Mutex).unlockSlow", "internal/sync.fatal", "internal/sync.runtime_Semrelease"], unfollowed := true, recurses := true, plainKeys := false, apart := false }
def ServerOthersSaid : Prop := serverOthersRow.holds Try.pinned (OpenSpec.ofChange serverOthersSpec)

/-- ITS FALSE NEIGHBOUR: 'it returns false'. Refute it at one input. -/
def serverOthersWrong : ChangeSpec := { name := "serverOthers", fn := fun _ => fun
  | [d1, d2, d3] => { results := [.lit (.bool false)], args := [d1, d2, d3] }
  | _ => none }
def ServerOthersWrongFalsely : Prop := serverOthersRow.holds Try.pinned (OpenSpec.ofChange serverOthersWrong)

/-- 'lighteragelaw12.DiskRoom': WHATEVER THE INPUT: true; the input reads as it did. -/
def diskRoomSpec : ChangeSpec := { name := "diskRoom", fn := fun _ => fun
  | [d1, d2] => { results := [.lit (.bool true)], args := [d1, d2] }
  | _ => none }
def diskRoomRow : OpenClaim := { program := "ytpcgpnijhpcbeaa", sum := "325b173e57df208ab4ddf6ce1cf6b23fe9b3e2d23bd64242949892a4b8f5dea1", func := "lighterage/lighteragelaw12.DiskRoom", spec := "diskRoom", inPlace := ["internal/bytealg.IndexByteString", "internal/bytealg.IndexString", "maps.clone"], unfollowed := true, recurses := true, named := ["internal/bytealg.MaxLen"], plainKeys := false, apart := false }
def DiskRoomSaid : Prop := diskRoomRow.holds Try.pinned (OpenSpec.ofChange diskRoomSpec)

/-- ITS FALSE NEIGHBOUR: 'it returns false'. Refute it at one input. -/
def diskRoomWrong : ChangeSpec := { name := "diskRoom", fn := fun _ => fun
  | [d1, d2] => { results := [.lit (.bool false)], args := [d1, d2] }
  | _ => none }
def DiskRoomWrongFalsely : Prop := diskRoomRow.holds Try.pinned (OpenSpec.ofChange diskRoomWrong)

/-- 'lighteragelaw12.DiskOwns': WHATEVER THE INPUT: true; the input reads as it did. -/
def diskOwnsSpec : ChangeSpec := { name := "diskOwns", fn := fun _ => fun
  | [d1, d2] => { results := [.lit (.bool true)], args := [d1, d2] }
  | _ => none }
def diskOwnsRow : OpenClaim := { program := "ytpcgpnijhpcbeaa", sum := "325b173e57df208ab4ddf6ce1cf6b23fe9b3e2d23bd64242949892a4b8f5dea1", func := "lighterage/lighteragelaw12.DiskOwns", spec := "diskOwns", inPlace := ["internal/bytealg.IndexByteString", "internal/bytealg.IndexString", "maps.clone"], unfollowed := true, recurses := true, named := ["internal/bytealg.MaxLen"], plainKeys := false, apart := false }
def DiskOwnsSaid : Prop := diskOwnsRow.holds Try.pinned (OpenSpec.ofChange diskOwnsSpec)

/-- ITS FALSE NEIGHBOUR: 'it returns false'. Refute it at one input. -/
def diskOwnsWrong : ChangeSpec := { name := "diskOwns", fn := fun _ => fun
  | [d1, d2] => { results := [.lit (.bool false)], args := [d1, d2] }
  | _ => none }
def DiskOwnsWrongFalsely : Prop := diskOwnsRow.holds Try.pinned (OpenSpec.ofChange diskOwnsWrong)

/-- 'lighteragelaw17.JournalMay': WHATEVER THE INPUT: true; the input reads as it did. -/
def journalMaySpec : ChangeSpec := { name := "journalMay", fn := fun _ => fun
  | [d] => { results := [.lit (.bool true)], args := [d] }
  | _ => none }
def journalMayRow : OpenClaim := { program := "ytpcgpnijhpcbeaa", sum := "325b173e57df208ab4ddf6ce1cf6b23fe9b3e2d23bd64242949892a4b8f5dea1", func := "lighterage/lighteragelaw17.JournalMay", spec := "journalMay", inPlace := ["internal/bytealg.Compare", "slices.overlaps[lighterage/api.Digest]"], unfollowed := true, recurses := true, plainKeys := false, apart := false }
def JournalMaySaid : Prop := journalMayRow.holds Try.pinned (OpenSpec.ofChange journalMaySpec)

/-- ITS FALSE NEIGHBOUR: 'it returns false'. Refute it at one input. -/
def journalMayWrong : ChangeSpec := { name := "journalMay", fn := fun _ => fun
  | [d] => { results := [.lit (.bool false)], args := [d] }
  | _ => none }
def JournalMayWrongFalsely : Prop := journalMayRow.holds Try.pinned (OpenSpec.ofChange journalMayWrong)

/-- 'lighteragelaw17.JournalAdds': WHATEVER THE INPUT: true; the input reads as it did. -/
def journalAddsSpec : ChangeSpec := { name := "journalAdds", fn := fun _ => fun
  | [d1, d2] => { results := [.lit (.bool true)], args := [d1, d2] }
  | _ => none }
def journalAddsRow : OpenClaim := { program := "ytpcgpnijhpcbeaa", sum := "325b173e57df208ab4ddf6ce1cf6b23fe9b3e2d23bd64242949892a4b8f5dea1", func := "lighterage/lighteragelaw17.JournalAdds", spec := "journalAdds", inPlace := ["internal/bytealg.Compare", "slices.overlaps[lighterage/api.Digest]"], unfollowed := true, recurses := true, plainKeys := false, apart := false }
def JournalAddsSaid : Prop := journalAddsRow.holds Try.pinned (OpenSpec.ofChange journalAddsSpec)

/-- ITS FALSE NEIGHBOUR: 'it returns false'. Refute it at one input. -/
def journalAddsWrong : ChangeSpec := { name := "journalAdds", fn := fun _ => fun
  | [d1, d2] => { results := [.lit (.bool false)], args := [d1, d2] }
  | _ => none }
def JournalAddsWrongFalsely : Prop := journalAddsRow.holds Try.pinned (OpenSpec.ofChange journalAddsWrong)

/-- 'lighteragelaw17.JournalFull': WHATEVER THE INPUT: true; the input reads as it did. -/
def journalFullSpec : ChangeSpec := { name := "journalFull", fn := fun _ => fun
  | [d1, d2] => { results := [.lit (.bool true)], args := [d1, d2] }
  | _ => none }
def journalFullRow : OpenClaim := { program := "ytpcgpnijhpcbeaa", sum := "325b173e57df208ab4ddf6ce1cf6b23fe9b3e2d23bd64242949892a4b8f5dea1", func := "lighterage/lighteragelaw17.JournalFull", spec := "journalFull", inPlace := ["internal/bytealg.Compare", "slices.overlaps[lighterage/api.Digest]"], unfollowed := true, recurses := true, plainKeys := false, apart := false }
def JournalFullSaid : Prop := journalFullRow.holds Try.pinned (OpenSpec.ofChange journalFullSpec)

/-- ITS FALSE NEIGHBOUR: 'it returns false'. Refute it at one input. -/
def journalFullWrong : ChangeSpec := { name := "journalFull", fn := fun _ => fun
  | [d1, d2] => { results := [.lit (.bool false)], args := [d1, d2] }
  | _ => none }
def JournalFullWrongFalsely : Prop := journalFullRow.holds Try.pinned (OpenSpec.ofChange journalFullWrong)

/-- 'lighteragelaw17.JournalReads': WHATEVER THE INPUT: true; the input reads as it did. -/
def journalReadsSpec : ChangeSpec := { name := "journalReads", fn := fun _ => fun
  | [d1, d2, d3, d4] => { results := [.lit (.bool true)], args := [d1, d2, d3, d4] }
  | _ => none }
def journalReadsRow : OpenClaim := { program := "ytpcgpnijhpcbeaa", sum := "325b173e57df208ab4ddf6ce1cf6b23fe9b3e2d23bd64242949892a4b8f5dea1", func := "lighterage/lighteragelaw17.JournalReads", spec := "journalReads", inPlace := ["internal/bytealg.Compare", "slices.overlaps[lighterage/api.Digest]"], unfollowed := true, recurses := true, plainKeys := false, apart := false }
def JournalReadsSaid : Prop := journalReadsRow.holds Try.pinned (OpenSpec.ofChange journalReadsSpec)

/-- ITS FALSE NEIGHBOUR: 'it returns false'. Refute it at one input. -/
def journalReadsWrong : ChangeSpec := { name := "journalReads", fn := fun _ => fun
  | [d1, d2, d3, d4] => { results := [.lit (.bool false)], args := [d1, d2, d3, d4] }
  | _ => none }
def JournalReadsWrongFalsely : Prop := journalReadsRow.holds Try.pinned (OpenSpec.ofChange journalReadsWrong)

/- THE SECOND FORM. 'bulk': how many values and letters a reading holds, each counted each time it is reached (what is shared counts as often as it is met; a slice's spare places count too). A statement '..UptoSaid' is the law's where the arguments, and the package variables that the reading takes, are together of bulk at most 1048576: NARROWER than '..Said'. Prove '..Said' where nothing that the law and all that it calls make is longer than what came in: it says more and counts as full. Else prove '..UptoSaid'. A law counts once. -/
mutual
def uptoBulk {H : Type} : DataW H → Nat
  | .lit (.string bytes) => bytes.length + 1
  | .lit _ => 1
  | .nil => 1
  | .ptr d => uptoBulk d + 1
  | .slice elems spare => uptoBulkAll elems + uptoBulkAll spare + 1
  | .agg parts => uptoBulkAll parts + 1
  | .iface _ d => uptoBulk d + 1
  | .map entries => uptoBulkEntries entries + 1
  | .held _ => 1
def uptoBulkAll {H : Type} : List (DataW H) → Nat
  | [] => 0
  | d :: r => uptoBulk d + uptoBulkAll r
def uptoBulkEntries {H : Type} : List (Lit × DataW H) → Nat
  | [] => 0
  | x :: r => uptoBulkEntry x + uptoBulkEntries r
def uptoBulkEntry {H : Type} : Lit × DataW H → Nat
  | (.string bytes, d) => bytes.length + uptoBulk d + 1
  | (_, d) => uptoBulk d + 1
 end
def uptoSmall : (H : Type) → List (DataW H) → Bool := fun _ ds => decide (uptoBulkAll ds ≤ 1048576)
def OpenSpec.upto (s : _root_.Go.ChangeSpec) : _root_.Go.OpenSpec := { _root_.Go.OpenSpec.ofChange s with cond := some uptoSmall }

/-- 'lighteragelaw20.ServerOthers', WHERE WHAT IT READS IS OF BULK AT MOST 1048576: true; the input reads as it did. -/
def serverOthersUptoRow : OpenClaim := { program := "ytpcgpnijhpcbeaa", sum := "325b173e57df208ab4ddf6ce1cf6b23fe9b3e2d23bd64242949892a4b8f5dea1", func := "lighterage/lighteragelaw20.ServerOthers", spec := "serverOthers", inPlace := ["(*internal/sync.Mutex).Lock", "internal/race.Disable", "sync/atomic.CompareAndSwapInt32", "internal/race.Enable", "internal/race.Acquire", "(*internal/sync.Mutex).lockSlow", "internal/sync.runtime_canSpin", "internal/sync.runtime_doSpin", "internal/sync.throw", "internal/sync.runtime_nanotime", "internal/sync.runtime_SemacquireMutex", "sync/atomic.AddInt32", "(*internal/sync.Mutex).Unlock", "internal/race.ReleaseMerge", "(*internal/sync.Mutex).unlockSlow", "internal/sync.fatal", "internal/sync.runtime_Semrelease"], unfollowed := true, recurses := true, plainKeys := false, apart := false, narrowed := true }
def ServerOthersUptoSaid : Prop := serverOthersUptoRow.holds Try.pinned (OpenSpec.upto serverOthersSpec)

/-- 'lighteragelaw12.DiskRoom', WHERE WHAT IT READS IS OF BULK AT MOST 1048576: true; the input reads as it did. -/
def diskRoomUptoRow : OpenClaim := { program := "ytpcgpnijhpcbeaa", sum := "325b173e57df208ab4ddf6ce1cf6b23fe9b3e2d23bd64242949892a4b8f5dea1", func := "lighterage/lighteragelaw12.DiskRoom", spec := "diskRoom", inPlace := ["internal/bytealg.IndexByteString", "internal/bytealg.IndexString", "maps.clone"], unfollowed := true, recurses := true, named := ["internal/bytealg.MaxLen"], plainKeys := false, apart := false, narrowed := true }
def DiskRoomUptoSaid : Prop := diskRoomUptoRow.holds Try.pinned (OpenSpec.upto diskRoomSpec)

/-- 'lighteragelaw12.DiskOwns', WHERE WHAT IT READS IS OF BULK AT MOST 1048576: true; the input reads as it did. -/
def diskOwnsUptoRow : OpenClaim := { program := "ytpcgpnijhpcbeaa", sum := "325b173e57df208ab4ddf6ce1cf6b23fe9b3e2d23bd64242949892a4b8f5dea1", func := "lighterage/lighteragelaw12.DiskOwns", spec := "diskOwns", inPlace := ["internal/bytealg.IndexByteString", "internal/bytealg.IndexString", "maps.clone"], unfollowed := true, recurses := true, named := ["internal/bytealg.MaxLen"], plainKeys := false, apart := false, narrowed := true }
def DiskOwnsUptoSaid : Prop := diskOwnsUptoRow.holds Try.pinned (OpenSpec.upto diskOwnsSpec)

/-- 'lighteragelaw17.JournalMay', WHERE WHAT IT READS IS OF BULK AT MOST 1048576: true; the input reads as it did. -/
def journalMayUptoRow : OpenClaim := { program := "ytpcgpnijhpcbeaa", sum := "325b173e57df208ab4ddf6ce1cf6b23fe9b3e2d23bd64242949892a4b8f5dea1", func := "lighterage/lighteragelaw17.JournalMay", spec := "journalMay", inPlace := ["internal/bytealg.Compare", "slices.overlaps[lighterage/api.Digest]"], unfollowed := true, recurses := true, plainKeys := false, apart := false, narrowed := true }
def JournalMayUptoSaid : Prop := journalMayUptoRow.holds Try.pinned (OpenSpec.upto journalMaySpec)

/-- 'lighteragelaw17.JournalAdds', WHERE WHAT IT READS IS OF BULK AT MOST 1048576: true; the input reads as it did. -/
def journalAddsUptoRow : OpenClaim := { program := "ytpcgpnijhpcbeaa", sum := "325b173e57df208ab4ddf6ce1cf6b23fe9b3e2d23bd64242949892a4b8f5dea1", func := "lighterage/lighteragelaw17.JournalAdds", spec := "journalAdds", inPlace := ["internal/bytealg.Compare", "slices.overlaps[lighterage/api.Digest]"], unfollowed := true, recurses := true, plainKeys := false, apart := false, narrowed := true }
def JournalAddsUptoSaid : Prop := journalAddsUptoRow.holds Try.pinned (OpenSpec.upto journalAddsSpec)

/-- 'lighteragelaw17.JournalFull', WHERE WHAT IT READS IS OF BULK AT MOST 1048576: true; the input reads as it did. -/
def journalFullUptoRow : OpenClaim := { program := "ytpcgpnijhpcbeaa", sum := "325b173e57df208ab4ddf6ce1cf6b23fe9b3e2d23bd64242949892a4b8f5dea1", func := "lighterage/lighteragelaw17.JournalFull", spec := "journalFull", inPlace := ["internal/bytealg.Compare", "slices.overlaps[lighterage/api.Digest]"], unfollowed := true, recurses := true, plainKeys := false, apart := false, narrowed := true }
def JournalFullUptoSaid : Prop := journalFullUptoRow.holds Try.pinned (OpenSpec.upto journalFullSpec)

/-- 'lighteragelaw17.JournalReads', WHERE WHAT IT READS IS OF BULK AT MOST 1048576: true; the input reads as it did. -/
def journalReadsUptoRow : OpenClaim := { program := "ytpcgpnijhpcbeaa", sum := "325b173e57df208ab4ddf6ce1cf6b23fe9b3e2d23bd64242949892a4b8f5dea1", func := "lighterage/lighteragelaw17.JournalReads", spec := "journalReads", inPlace := ["internal/bytealg.Compare", "slices.overlaps[lighterage/api.Digest]"], unfollowed := true, recurses := true, plainKeys := false, apart := false, narrowed := true }
def JournalReadsUptoSaid : Prop := journalReadsUptoRow.holds Try.pinned (OpenSpec.upto journalReadsSpec)

end Rows
end Go.Proofs.Ytpcgpnijhpcbeaa
