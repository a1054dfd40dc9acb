/-
  NARROWER THAN 'FOR EVERY INPUT', by the rows' own cells (each row's printed sentence says how): SlotsMay: laid · SlotsReads: laid · SlotsWrong: laid · SlotsBacks: laid · SlotsCrashes: laid · StorePlaces: laid · StoreKeeps: laid · ServerPlays: laid · ServerGives: laid · ServerSizes: laid.
  DERIVED. THE GIVEN ROWS OF THIS SEAT. 10 by the template 'for every input the law returns true; each argument reads behind the call as it read before'; 0 by the template 'total and deterministic' (their statements: YtfikjheicjamhaaDoorTotals.lean).
  GIVEN WITH THE SEED: the statements are not yours to turn. If you find one false, say at which input.
  Laid BY PROGRAM, IN A SANDBOX (cutbox-rows.mjs): the forced cells as the released guide's own fill.sh prints them over the translation b31824797cf5f3f0… (all of the seat's roots in one cut). By AI agents, Wed Nov 11 2026. No macro, syntax, notation, axiom, sorry.
-/
import Derived.Test.YtfikjheicjamhaaDoorChecked
import GoSem.Claim
import GoSem.ClaimJoined
import GoSem.ClaimMapViews
import Derived.JoinedTies
import Derived.KernelRfl
namespace Go.Proofs.YtfikjheicjamhaaDoor
/- THE CELL 'sum', in the pinned program and in every row, IS THE sha256 OF THE DUMP (.gsa) THAT YtfikjheicjamhaaDoorProg.lean LOADS. Nothing in Lean hashes anything: it is a label: what it is worth is what the hold of that sum in a sandbox is worth. -/
noncomputable def Tryd.pinned : Pinned := { name := "ytfikjheicjamhaadoor", sum := "b31824797cf5f3f0996799dafffa0e2cb63e06c4fed39ca3094d9d9d4821b065", checked := Tryd.checked }
namespace Rows
def none {H : Type} : Left H := { results := [], args := [] }

/- WHAT THE LISTED PACKAGE-LEVEL VARIABLES READ AS WHEN THE CALL BEGINS. Each datum BY PROGRAM (the guide's laid-datum.mjs) off the statement by which the dump's own 'gosem.cut.vars' lays the variable. In a bare row this is a premise. The card (YtfikjheicjamhaaDoorCards.lean) ties it to the program's text. -/
def laid_lighterage_sha_roots {H : Type} : DataW H := .agg [.lit (.int .u32 1116352408), .lit (.int .u32 1899447441), .lit (.int .u32 3049323471), .lit (.int .u32 3921009573), .lit (.int .u32 961987163), .lit (.int .u32 1508970993), .lit (.int .u32 2453635748), .lit (.int .u32 2870763221), .lit (.int .u32 3624381080), .lit (.int .u32 310598401), .lit (.int .u32 607225278), .lit (.int .u32 1426881987), .lit (.int .u32 1925078388), .lit (.int .u32 2162078206), .lit (.int .u32 2614888103), .lit (.int .u32 3248222580), .lit (.int .u32 3835390401), .lit (.int .u32 4022224774), .lit (.int .u32 264347078), .lit (.int .u32 604807628), .lit (.int .u32 770255983), .lit (.int .u32 1249150122), .lit (.int .u32 1555081692), .lit (.int .u32 1996064986), .lit (.int .u32 2554220882), .lit (.int .u32 2821834349), .lit (.int .u32 2952996808), .lit (.int .u32 3210313671), .lit (.int .u32 3336571891), .lit (.int .u32 3584528711), .lit (.int .u32 113926993), .lit (.int .u32 338241895), .lit (.int .u32 666307205), .lit (.int .u32 773529912), .lit (.int .u32 1294757372), .lit (.int .u32 1396182291), .lit (.int .u32 1695183700), .lit (.int .u32 1986661051), .lit (.int .u32 2177026350), .lit (.int .u32 2456956037), .lit (.int .u32 2730485921), .lit (.int .u32 2820302411), .lit (.int .u32 3259730800), .lit (.int .u32 3345764771), .lit (.int .u32 3516065817), .lit (.int .u32 3600352804), .lit (.int .u32 4094571909), .lit (.int .u32 275423344), .lit (.int .u32 430227734), .lit (.int .u32 506948616), .lit (.int .u32 659060556), .lit (.int .u32 883997877), .lit (.int .u32 958139571), .lit (.int .u32 1322822218), .lit (.int .u32 1537002063), .lit (.int .u32 1747873779), .lit (.int .u32 1955562222), .lit (.int .u32 2024104815), .lit (.int .u32 2227730452), .lit (.int .u32 2361852424), .lit (.int .u32 2428436474), .lit (.int .u32 2756734187), .lit (.int .u32 3204031479), .lit (.int .u32 3329325298)]

/-- 'lighteragelaw22.SlotsMay': WHATEVER THE INPUT: true; the input reads as it did. -/
def slotsMaySpec : ChangeSpec := { name := "slotsMay", fn := fun _ => fun
  | [d1, d2, d3] => { results := [.lit (.bool true)], args := [d1, d2, d3] }
  | _ => none }
def slotsMayRow : OpenClaim := { program := "ytfikjheicjamhaadoor", sum := "b31824797cf5f3f0996799dafffa0e2cb63e06c4fed39ca3094d9d9d4821b065", func := "lighterage/lighteragelaw22.SlotsMay", spec := "slotsMay", inPlace := ["internal/bytealg.IndexByteString", "internal/bytealg.IndexString", "maps.clone"], unfollowed := true, recurses := true, named := ["internal/bytealg.MaxLen", "lighterage/sha.roots"], plainKeys := false, apart := false, laid := [("lighterage/sha.roots", laid_lighterage_sha_roots)] }
def SlotsMaySaid : Prop := slotsMayRow.holds Tryd.pinned (OpenSpec.ofChange slotsMaySpec)

/-- ITS FALSE NEIGHBOUR: 'it returns false'. Refute it at one input. -/
def slotsMayWrong : ChangeSpec := { name := "slotsMay", fn := fun _ => fun
  | [d1, d2, d3] => { results := [.lit (.bool false)], args := [d1, d2, d3] }
  | _ => none }
def SlotsMayWrongFalsely : Prop := slotsMayRow.holds Tryd.pinned (OpenSpec.ofChange slotsMayWrong)

/-- 'lighteragelaw22.SlotsReads': WHATEVER THE INPUT: true; the input reads as it did. -/
def slotsReadsSpec : ChangeSpec := { name := "slotsReads", fn := fun _ => fun
  | [d1, d2, d3, d4] => { results := [.lit (.bool true)], args := [d1, d2, d3, d4] }
  | _ => none }
def slotsReadsRow : OpenClaim := { program := "ytfikjheicjamhaadoor", sum := "b31824797cf5f3f0996799dafffa0e2cb63e06c4fed39ca3094d9d9d4821b065", func := "lighterage/lighteragelaw22.SlotsReads", spec := "slotsReads", inPlace := ["internal/bytealg.IndexByteString", "internal/bytealg.IndexString", "maps.clone"], unfollowed := true, recurses := true, named := ["internal/bytealg.MaxLen", "lighterage/sha.roots"], plainKeys := false, apart := false, laid := [("lighterage/sha.roots", laid_lighterage_sha_roots)] }
def SlotsReadsSaid : Prop := slotsReadsRow.holds Tryd.pinned (OpenSpec.ofChange slotsReadsSpec)

/-- ITS FALSE NEIGHBOUR: 'it returns false'. Refute it at one input. -/
def slotsReadsWrong : ChangeSpec := { name := "slotsReads", fn := fun _ => fun
  | [d1, d2, d3, d4] => { results := [.lit (.bool false)], args := [d1, d2, d3, d4] }
  | _ => none }
def SlotsReadsWrongFalsely : Prop := slotsReadsRow.holds Tryd.pinned (OpenSpec.ofChange slotsReadsWrong)

/-- 'lighteragelaw22.SlotsWrong': WHATEVER THE INPUT: true; the input reads as it did. -/
def slotsWrongSpec : ChangeSpec := { name := "slotsWrong", fn := fun _ => fun
  | [d1, d2, d3] => { results := [.lit (.bool true)], args := [d1, d2, d3] }
  | _ => none }
def slotsWrongRow : OpenClaim := { program := "ytfikjheicjamhaadoor", sum := "b31824797cf5f3f0996799dafffa0e2cb63e06c4fed39ca3094d9d9d4821b065", func := "lighterage/lighteragelaw22.SlotsWrong", spec := "slotsWrong", inPlace := ["internal/bytealg.IndexByteString", "internal/bytealg.IndexString", "maps.clone"], unfollowed := true, recurses := true, named := ["internal/bytealg.MaxLen", "lighterage/sha.roots"], plainKeys := false, apart := false, laid := [("lighterage/sha.roots", laid_lighterage_sha_roots)] }
def SlotsWrongSaid : Prop := slotsWrongRow.holds Tryd.pinned (OpenSpec.ofChange slotsWrongSpec)

/-- ITS FALSE NEIGHBOUR: 'it returns false'. Refute it at one input. -/
def slotsWrongWrong : ChangeSpec := { name := "slotsWrong", fn := fun _ => fun
  | [d1, d2, d3] => { results := [.lit (.bool false)], args := [d1, d2, d3] }
  | _ => none }
def SlotsWrongWrongFalsely : Prop := slotsWrongRow.holds Tryd.pinned (OpenSpec.ofChange slotsWrongWrong)

/-- 'lighteragelaw22.SlotsBacks': WHATEVER THE INPUT: true; the input reads as it did. -/
def slotsBacksSpec : ChangeSpec := { name := "slotsBacks", fn := fun _ => fun
  | [d1, d2, d3] => { results := [.lit (.bool true)], args := [d1, d2, d3] }
  | _ => none }
def slotsBacksRow : OpenClaim := { program := "ytfikjheicjamhaadoor", sum := "b31824797cf5f3f0996799dafffa0e2cb63e06c4fed39ca3094d9d9d4821b065", func := "lighterage/lighteragelaw22.SlotsBacks", spec := "slotsBacks", inPlace := ["internal/bytealg.IndexByteString", "internal/bytealg.IndexString", "maps.clone"], unfollowed := true, recurses := true, named := ["internal/bytealg.MaxLen", "lighterage/sha.roots"], plainKeys := false, apart := false, laid := [("lighterage/sha.roots", laid_lighterage_sha_roots)] }
def SlotsBacksSaid : Prop := slotsBacksRow.holds Tryd.pinned (OpenSpec.ofChange slotsBacksSpec)

/-- ITS FALSE NEIGHBOUR: 'it returns false'. Refute it at one input. -/
def slotsBacksWrong : ChangeSpec := { name := "slotsBacks", fn := fun _ => fun
  | [d1, d2, d3] => { results := [.lit (.bool false)], args := [d1, d2, d3] }
  | _ => none }
def SlotsBacksWrongFalsely : Prop := slotsBacksRow.holds Tryd.pinned (OpenSpec.ofChange slotsBacksWrong)

/-- 'lighteragelaw22.SlotsCrashes': WHATEVER THE INPUT: true; the input reads as it did. -/
def slotsCrashesSpec : ChangeSpec := { name := "slotsCrashes", fn := fun _ => fun
  | [d1, d2, d3, d4, d5] => { results := [.lit (.bool true)], args := [d1, d2, d3, d4, d5] }
  | _ => none }
def slotsCrashesRow : OpenClaim := { program := "ytfikjheicjamhaadoor", sum := "b31824797cf5f3f0996799dafffa0e2cb63e06c4fed39ca3094d9d9d4821b065", func := "lighterage/lighteragelaw22.SlotsCrashes", spec := "slotsCrashes", inPlace := ["internal/bytealg.IndexByteString", "internal/bytealg.IndexString", "maps.clone"], unfollowed := true, recurses := true, named := ["internal/bytealg.MaxLen", "lighterage/sha.roots"], plainKeys := false, apart := false, laid := [("lighterage/sha.roots", laid_lighterage_sha_roots)] }
def SlotsCrashesSaid : Prop := slotsCrashesRow.holds Tryd.pinned (OpenSpec.ofChange slotsCrashesSpec)

/-- ITS FALSE NEIGHBOUR: 'it returns false'. Refute it at one input. -/
def slotsCrashesWrong : ChangeSpec := { name := "slotsCrashes", fn := fun _ => fun
  | [d1, d2, d3, d4, d5] => { results := [.lit (.bool false)], args := [d1, d2, d3, d4, d5] }
  | _ => none }
def SlotsCrashesWrongFalsely : Prop := slotsCrashesRow.holds Tryd.pinned (OpenSpec.ofChange slotsCrashesWrong)

/-- 'lighteragelaw13.StorePlaces': WHATEVER THE INPUT: true; the input reads as it did. -/
def storePlacesSpec : ChangeSpec := { name := "storePlaces", fn := fun _ => fun
  | [d1, d2] => { results := [.lit (.bool true)], args := [d1, d2] }
  | _ => none }
def storePlacesRow : OpenClaim := { program := "ytfikjheicjamhaadoor", sum := "b31824797cf5f3f0996799dafffa0e2cb63e06c4fed39ca3094d9d9d4821b065", func := "lighterage/lighteragelaw13.StorePlaces", spec := "storePlaces", inPlace := ["internal/reflectlite.TypeOf", "internal/bytealg.IndexByteString", "internal/bytealg.IndexString", "maps.clone"], unfollowed := true, recurses := true, named := ["lighterage/sha.roots", "internal/bytealg.MaxLen"], plainKeys := false, apart := false, laid := [("lighterage/sha.roots", laid_lighterage_sha_roots)] }
def StorePlacesSaid : Prop := storePlacesRow.holds Tryd.pinned (OpenSpec.ofChange storePlacesSpec)

/-- ITS FALSE NEIGHBOUR: 'it returns false'. Refute it at one input. -/
def storePlacesWrong : ChangeSpec := { name := "storePlaces", fn := fun _ => fun
  | [d1, d2] => { results := [.lit (.bool false)], args := [d1, d2] }
  | _ => none }
def StorePlacesWrongFalsely : Prop := storePlacesRow.holds Tryd.pinned (OpenSpec.ofChange storePlacesWrong)

/-- 'lighteragelaw13.StoreKeeps': WHATEVER THE INPUT: true; the input reads as it did. -/
def storeKeepsSpec : ChangeSpec := { name := "storeKeeps", fn := fun _ => fun
  | [d1, d2] => { results := [.lit (.bool true)], args := [d1, d2] }
  | _ => none }
def storeKeepsRow : OpenClaim := { program := "ytfikjheicjamhaadoor", sum := "b31824797cf5f3f0996799dafffa0e2cb63e06c4fed39ca3094d9d9d4821b065", func := "lighterage/lighteragelaw13.StoreKeeps", spec := "storeKeeps", inPlace := ["internal/reflectlite.TypeOf", "internal/bytealg.IndexByteString", "internal/bytealg.IndexString", "maps.clone"], unfollowed := true, recurses := true, named := ["lighterage/sha.roots", "internal/bytealg.MaxLen"], plainKeys := false, apart := false, laid := [("lighterage/sha.roots", laid_lighterage_sha_roots)] }
def StoreKeepsSaid : Prop := storeKeepsRow.holds Tryd.pinned (OpenSpec.ofChange storeKeepsSpec)

/-- ITS FALSE NEIGHBOUR: 'it returns false'. Refute it at one input. -/
def storeKeepsWrong : ChangeSpec := { name := "storeKeeps", fn := fun _ => fun
  | [d1, d2] => { results := [.lit (.bool false)], args := [d1, d2] }
  | _ => none }
def StoreKeepsWrongFalsely : Prop := storeKeepsRow.holds Tryd.pinned (OpenSpec.ofChange storeKeepsWrong)

/-- 'lighteragelaw20.ServerPlays': WHATEVER THE INPUT: true; the input reads as it did. -/
def serverPlaysSpec : ChangeSpec := { name := "serverPlays", fn := fun _ => fun
  | [d] => { results := [.lit (.bool true)], args := [d] }
  | _ => none }
def serverPlaysRow : OpenClaim := { program := "ytfikjheicjamhaadoor", sum := "b31824797cf5f3f0996799dafffa0e2cb63e06c4fed39ca3094d9d9d4821b065", func := "lighterage/lighteragelaw20.ServerPlays", spec := "serverPlays", inPlace := ["(*internal/sync.Mutex).Lock", "internal/race.Disable", "sync/atomic.CompareAndSwapInt32", "internal/race.Enable", "internal/race.Acquire", "(*internal/sync.Mutex).lockSlow", "internal/sync.runtime_canSpin", "internal/sync.runtime_doSpin", "internal/sync.throw", "internal/sync.runtime_nanotime", "internal/sync.runtime_SemacquireMutex", "sync/atomic.AddInt32", "(*internal/sync.Mutex).Unlock", "internal/race.ReleaseMerge", "(*internal/sync.Mutex).unlockSlow", "internal/sync.fatal", "internal/sync.runtime_Semrelease"], unfollowed := true, recurses := true, named := ["lighterage/sha.roots"], plainKeys := false, apart := false, laid := [("lighterage/sha.roots", laid_lighterage_sha_roots)] }
def ServerPlaysSaid : Prop := serverPlaysRow.holds Tryd.pinned (OpenSpec.ofChange serverPlaysSpec)

/-- ITS FALSE NEIGHBOUR: 'it returns false'. Refute it at one input. -/
def serverPlaysWrong : ChangeSpec := { name := "serverPlays", fn := fun _ => fun
  | [d] => { results := [.lit (.bool false)], args := [d] }
  | _ => none }
def ServerPlaysWrongFalsely : Prop := serverPlaysRow.holds Tryd.pinned (OpenSpec.ofChange serverPlaysWrong)

/-- 'lighteragelaw20.ServerGives': WHATEVER THE INPUT: true; the input reads as it did. -/
def serverGivesSpec : ChangeSpec := { name := "serverGives", fn := fun _ => fun
  | [d1, d2, d3] => { results := [.lit (.bool true)], args := [d1, d2, d3] }
  | _ => none }
def serverGivesRow : OpenClaim := { program := "ytfikjheicjamhaadoor", sum := "b31824797cf5f3f0996799dafffa0e2cb63e06c4fed39ca3094d9d9d4821b065", func := "lighterage/lighteragelaw20.ServerGives", spec := "serverGives", inPlace := ["(*internal/sync.Mutex).Lock", "internal/race.Disable", "sync/atomic.CompareAndSwapInt32", "internal/race.Enable", "internal/race.Acquire", "(*internal/sync.Mutex).lockSlow", "internal/sync.runtime_canSpin", "internal/sync.runtime_doSpin", "internal/sync.throw", "internal/sync.runtime_nanotime", "internal/sync.runtime_SemacquireMutex", "sync/atomic.AddInt32", "(*internal/sync.Mutex).Unlock", "internal/race.ReleaseMerge", "(*internal/sync.Mutex).unlockSlow", "internal/sync.fatal", "internal/sync.runtime_Semrelease"], unfollowed := true, recurses := true, named := ["lighterage/sha.roots"], plainKeys := false, apart := false, laid := [("lighterage/sha.roots", laid_lighterage_sha_roots)] }
def ServerGivesSaid : Prop := serverGivesRow.holds Tryd.pinned (OpenSpec.ofChange serverGivesSpec)

/-- ITS FALSE NEIGHBOUR: 'it returns false'. Refute it at one input. -/
def serverGivesWrong : ChangeSpec := { name := "serverGives", fn := fun _ => fun
  | [d1, d2, d3] => { results := [.lit (.bool false)], args := [d1, d2, d3] }
  | _ => none }
def ServerGivesWrongFalsely : Prop := serverGivesRow.holds Tryd.pinned (OpenSpec.ofChange serverGivesWrong)

/-- 'lighteragelaw20.ServerSizes': WHATEVER THE INPUT: true; the input reads as it did. -/
def serverSizesSpec : ChangeSpec := { name := "serverSizes", fn := fun _ => fun
  | [d] => { results := [.lit (.bool true)], args := [d] }
  | _ => none }
def serverSizesRow : OpenClaim := { program := "ytfikjheicjamhaadoor", sum := "b31824797cf5f3f0996799dafffa0e2cb63e06c4fed39ca3094d9d9d4821b065", func := "lighterage/lighteragelaw20.ServerSizes", spec := "serverSizes", inPlace := ["(*internal/sync.Mutex).Lock", "internal/race.Disable", "sync/atomic.CompareAndSwapInt32", "internal/race.Enable", "internal/race.Acquire", "(*internal/sync.Mutex).lockSlow", "internal/sync.runtime_canSpin", "internal/sync.runtime_doSpin", "internal/sync.throw", "internal/sync.runtime_nanotime", "internal/sync.runtime_SemacquireMutex", "sync/atomic.AddInt32", "(*internal/sync.Mutex).Unlock", "internal/race.ReleaseMerge", "(*internal/sync.Mutex).unlockSlow", "internal/sync.fatal", "internal/sync.runtime_Semrelease"], unfollowed := true, recurses := true, named := ["lighterage/sha.roots"], plainKeys := false, apart := false, laid := [("lighterage/sha.roots", laid_lighterage_sha_roots)] }
def ServerSizesSaid : Prop := serverSizesRow.holds Tryd.pinned (OpenSpec.ofChange serverSizesSpec)

/-- ITS FALSE NEIGHBOUR: 'it returns false'. Refute it at one input. -/
def serverSizesWrong : ChangeSpec := { name := "serverSizes", fn := fun _ => fun
  | [d] => { results := [.lit (.bool false)], args := [d] }
  | _ => none }
def ServerSizesWrongFalsely : Prop := serverSizesRow.holds Tryd.pinned (OpenSpec.ofChange serverSizesWrong)

/- THE SECOND FORM. 'bulk': how many values and letters a reading holds, each counted each time it is reached (what is shared counts as often as it is met; a slice's spare places count too). A statement '..UptoSaid' is the law's where the arguments, and the package variables that the reading takes, are together of bulk at most 1048576: NARROWER than '..Said'. Prove '..Said' where nothing that the law and all that it calls make is longer than what came in: it says more and counts as full. Else prove '..UptoSaid'. A law counts once. -/
mutual
def uptoBulk {H : Type} : DataW H → Nat
  | .lit (.string bytes) => bytes.length + 1
  | .lit _ => 1
  | .nil => 1
  | .ptr d => uptoBulk d + 1
  | .slice elems spare => uptoBulkAll elems + uptoBulkAll spare + 1
  | .agg parts => uptoBulkAll parts + 1
  | .iface _ d => uptoBulk d + 1
  | .map entries => uptoBulkEntries entries + 1
  | .held _ => 1
def uptoBulkAll {H : Type} : List (DataW H) → Nat
  | [] => 0
  | d :: r => uptoBulk d + uptoBulkAll r
def uptoBulkEntries {H : Type} : List (Lit × DataW H) → Nat
  | [] => 0
  | x :: r => uptoBulkEntry x + uptoBulkEntries r
def uptoBulkEntry {H : Type} : Lit × DataW H → Nat
  | (.string bytes, d) => bytes.length + uptoBulk d + 1
  | (_, d) => uptoBulk d + 1
 end
def uptoSmall : (H : Type) → List (DataW H) → Bool := fun _ ds => decide (uptoBulkAll ds ≤ 1048576)
def OpenSpec.upto (s : _root_.Go.ChangeSpec) : _root_.Go.OpenSpec := { _root_.Go.OpenSpec.ofChange s with cond := some uptoSmall }

/-- 'lighteragelaw22.SlotsMay', WHERE WHAT IT READS IS OF BULK AT MOST 1048576: true; the input reads as it did. -/
def slotsMayUptoRow : OpenClaim := { program := "ytfikjheicjamhaadoor", sum := "b31824797cf5f3f0996799dafffa0e2cb63e06c4fed39ca3094d9d9d4821b065", func := "lighterage/lighteragelaw22.SlotsMay", spec := "slotsMay", inPlace := ["internal/bytealg.IndexByteString", "internal/bytealg.IndexString", "maps.clone"], unfollowed := true, recurses := true, named := ["internal/bytealg.MaxLen", "lighterage/sha.roots"], plainKeys := false, apart := false, laid := [("lighterage/sha.roots", laid_lighterage_sha_roots)], narrowed := true }
def SlotsMayUptoSaid : Prop := slotsMayUptoRow.holds Tryd.pinned (OpenSpec.upto slotsMaySpec)

/-- 'lighteragelaw22.SlotsReads', WHERE WHAT IT READS IS OF BULK AT MOST 1048576: true; the input reads as it did. -/
def slotsReadsUptoRow : OpenClaim := { program := "ytfikjheicjamhaadoor", sum := "b31824797cf5f3f0996799dafffa0e2cb63e06c4fed39ca3094d9d9d4821b065", func := "lighterage/lighteragelaw22.SlotsReads", spec := "slotsReads", inPlace := ["internal/bytealg.IndexByteString", "internal/bytealg.IndexString", "maps.clone"], unfollowed := true, recurses := true, named := ["internal/bytealg.MaxLen", "lighterage/sha.roots"], plainKeys := false, apart := false, laid := [("lighterage/sha.roots", laid_lighterage_sha_roots)], narrowed := true }
def SlotsReadsUptoSaid : Prop := slotsReadsUptoRow.holds Tryd.pinned (OpenSpec.upto slotsReadsSpec)

/-- 'lighteragelaw22.SlotsWrong', WHERE WHAT IT READS IS OF BULK AT MOST 1048576: true; the input reads as it did. -/
def slotsWrongUptoRow : OpenClaim := { program := "ytfikjheicjamhaadoor", sum := "b31824797cf5f3f0996799dafffa0e2cb63e06c4fed39ca3094d9d9d4821b065", func := "lighterage/lighteragelaw22.SlotsWrong", spec := "slotsWrong", inPlace := ["internal/bytealg.IndexByteString", "internal/bytealg.IndexString", "maps.clone"], unfollowed := true, recurses := true, named := ["internal/bytealg.MaxLen", "lighterage/sha.roots"], plainKeys := false, apart := false, laid := [("lighterage/sha.roots", laid_lighterage_sha_roots)], narrowed := true }
def SlotsWrongUptoSaid : Prop := slotsWrongUptoRow.holds Tryd.pinned (OpenSpec.upto slotsWrongSpec)

/-- 'lighteragelaw22.SlotsBacks', WHERE WHAT IT READS IS OF BULK AT MOST 1048576: true; the input reads as it did. -/
def slotsBacksUptoRow : OpenClaim := { program := "ytfikjheicjamhaadoor", sum := "b31824797cf5f3f0996799dafffa0e2cb63e06c4fed39ca3094d9d9d4821b065", func := "lighterage/lighteragelaw22.SlotsBacks", spec := "slotsBacks", inPlace := ["internal/bytealg.IndexByteString", "internal/bytealg.IndexString", "maps.clone"], unfollowed := true, recurses := true, named := ["internal/bytealg.MaxLen", "lighterage/sha.roots"], plainKeys := false, apart := false, laid := [("lighterage/sha.roots", laid_lighterage_sha_roots)], narrowed := true }
def SlotsBacksUptoSaid : Prop := slotsBacksUptoRow.holds Tryd.pinned (OpenSpec.upto slotsBacksSpec)

/-- 'lighteragelaw22.SlotsCrashes', WHERE WHAT IT READS IS OF BULK AT MOST 1048576: true; the input reads as it did. -/
def slotsCrashesUptoRow : OpenClaim := { program := "ytfikjheicjamhaadoor", sum := "b31824797cf5f3f0996799dafffa0e2cb63e06c4fed39ca3094d9d9d4821b065", func := "lighterage/lighteragelaw22.SlotsCrashes", spec := "slotsCrashes", inPlace := ["internal/bytealg.IndexByteString", "internal/bytealg.IndexString", "maps.clone"], unfollowed := true, recurses := true, named := ["internal/bytealg.MaxLen", "lighterage/sha.roots"], plainKeys := false, apart := false, laid := [("lighterage/sha.roots", laid_lighterage_sha_roots)], narrowed := true }
def SlotsCrashesUptoSaid : Prop := slotsCrashesUptoRow.holds Tryd.pinned (OpenSpec.upto slotsCrashesSpec)

/-- 'lighteragelaw13.StorePlaces', WHERE WHAT IT READS IS OF BULK AT MOST 1048576: true; the input reads as it did. -/
def storePlacesUptoRow : OpenClaim := { program := "ytfikjheicjamhaadoor", sum := "b31824797cf5f3f0996799dafffa0e2cb63e06c4fed39ca3094d9d9d4821b065", func := "lighterage/lighteragelaw13.StorePlaces", spec := "storePlaces", inPlace := ["internal/reflectlite.TypeOf", "internal/bytealg.IndexByteString", "internal/bytealg.IndexString", "maps.clone"], unfollowed := true, recurses := true, named := ["lighterage/sha.roots", "internal/bytealg.MaxLen"], plainKeys := false, apart := false, laid := [("lighterage/sha.roots", laid_lighterage_sha_roots)], narrowed := true }
def StorePlacesUptoSaid : Prop := storePlacesUptoRow.holds Tryd.pinned (OpenSpec.upto storePlacesSpec)

/-- 'lighteragelaw13.StoreKeeps', WHERE WHAT IT READS IS OF BULK AT MOST 1048576: true; the input reads as it did. -/
def storeKeepsUptoRow : OpenClaim := { program := "ytfikjheicjamhaadoor", sum := "b31824797cf5f3f0996799dafffa0e2cb63e06c4fed39ca3094d9d9d4821b065", func := "lighterage/lighteragelaw13.StoreKeeps", spec := "storeKeeps", inPlace := ["internal/reflectlite.TypeOf", "internal/bytealg.IndexByteString", "internal/bytealg.IndexString", "maps.clone"], unfollowed := true, recurses := true, named := ["lighterage/sha.roots", "internal/bytealg.MaxLen"], plainKeys := false, apart := false, laid := [("lighterage/sha.roots", laid_lighterage_sha_roots)], narrowed := true }
def StoreKeepsUptoSaid : Prop := storeKeepsUptoRow.holds Tryd.pinned (OpenSpec.upto storeKeepsSpec)

/-- 'lighteragelaw20.ServerPlays', WHERE WHAT IT READS IS OF BULK AT MOST 1048576: true; the input reads as it did. -/
def serverPlaysUptoRow : OpenClaim := { program := "ytfikjheicjamhaadoor", sum := "b31824797cf5f3f0996799dafffa0e2cb63e06c4fed39ca3094d9d9d4821b065", func := "lighterage/lighteragelaw20.ServerPlays", spec := "serverPlays", inPlace := ["(*internal/sync.Mutex).Lock", "internal/race.Disable", "sync/atomic.CompareAndSwapInt32", "internal/race.Enable", "internal/race.Acquire", "(*internal/sync.Mutex).lockSlow", "internal/sync.runtime_canSpin", "internal/sync.runtime_doSpin", "internal/sync.throw", "internal/sync.runtime_nanotime", "internal/sync.runtime_SemacquireMutex", "sync/atomic.AddInt32", "(*internal/sync.Mutex).Unlock", "internal/race.ReleaseMerge", "(*internal/sync.Mutex).unlockSlow", "internal/sync.fatal", "internal/sync.runtime_Semrelease"], unfollowed := true, recurses := true, named := ["lighterage/sha.roots"], plainKeys := false, apart := false, laid := [("lighterage/sha.roots", laid_lighterage_sha_roots)], narrowed := true }
def ServerPlaysUptoSaid : Prop := serverPlaysUptoRow.holds Tryd.pinned (OpenSpec.upto serverPlaysSpec)

/-- 'lighteragelaw20.ServerGives', WHERE WHAT IT READS IS OF BULK AT MOST 1048576: true; the input reads as it did. -/
def serverGivesUptoRow : OpenClaim := { program := "ytfikjheicjamhaadoor", sum := "b31824797cf5f3f0996799dafffa0e2cb63e06c4fed39ca3094d9d9d4821b065", func := "lighterage/lighteragelaw20.ServerGives", spec := "serverGives", inPlace := ["(*internal/sync.Mutex).Lock", "internal/race.Disable", "sync/atomic.CompareAndSwapInt32", "internal/race.Enable", "internal/race.Acquire", "(*internal/sync.Mutex).lockSlow", "internal/sync.runtime_canSpin", "internal/sync.runtime_doSpin", "internal/sync.throw", "internal/sync.runtime_nanotime", "internal/sync.runtime_SemacquireMutex", "sync/atomic.AddInt32", "(*internal/sync.Mutex).Unlock", "internal/race.ReleaseMerge", "(*internal/sync.Mutex).unlockSlow", "internal/sync.fatal", "internal/sync.runtime_Semrelease"], unfollowed := true, recurses := true, named := ["lighterage/sha.roots"], plainKeys := false, apart := false, laid := [("lighterage/sha.roots", laid_lighterage_sha_roots)], narrowed := true }
def ServerGivesUptoSaid : Prop := serverGivesUptoRow.holds Tryd.pinned (OpenSpec.upto serverGivesSpec)

/-- 'lighteragelaw20.ServerSizes', WHERE WHAT IT READS IS OF BULK AT MOST 1048576: true; the input reads as it did. -/
def serverSizesUptoRow : OpenClaim := { program := "ytfikjheicjamhaadoor", sum := "b31824797cf5f3f0996799dafffa0e2cb63e06c4fed39ca3094d9d9d4821b065", func := "lighterage/lighteragelaw20.ServerSizes", spec := "serverSizes", inPlace := ["(*internal/sync.Mutex).Lock", "internal/race.Disable", "sync/atomic.CompareAndSwapInt32", "internal/race.Enable", "internal/race.Acquire", "(*internal/sync.Mutex).lockSlow", "internal/sync.runtime_canSpin", "internal/sync.runtime_doSpin", "internal/sync.throw", "internal/sync.runtime_nanotime", "internal/sync.runtime_SemacquireMutex", "sync/atomic.AddInt32", "(*internal/sync.Mutex).Unlock", "internal/race.ReleaseMerge", "(*internal/sync.Mutex).unlockSlow", "internal/sync.fatal", "internal/sync.runtime_Semrelease"], unfollowed := true, recurses := true, named := ["lighterage/sha.roots"], plainKeys := false, apart := false, laid := [("lighterage/sha.roots", laid_lighterage_sha_roots)], narrowed := true }
def ServerSizesUptoSaid : Prop := serverSizesUptoRow.holds Tryd.pinned (OpenSpec.upto serverSizesSpec)

end Rows
end Go.Proofs.YtfikjheicjamhaaDoor
