/-
  NARROWER THAN 'FOR EVERY INPUT', by the rows' own cells (each row's printed sentence says how): StorePlays: laid · ServerLoads: laid · PlanMakes: laid · PlanFirst: laid · PlanBuilds: laid · PlanWhole: laid · PlanFills: laid · SweepAll: laid · SweepPrunes: laid · SweepWhole: laid · SweepKeeps: laid · SweepScrubs: laid.
  DERIVED. THE GIVEN ROWS OF THIS SEAT. 12 by the template 'for every input the law returns true; each argument reads behind the call as it read before'; 0 by the template 'total and deterministic' (their statements: YtmibdabdlgmafaaGreatDoorTotals.lean).
  GIVEN WITH THE SEED: the statements are not yours to turn. If you find one false, say at which input.
  Laid BY PROGRAM, IN A SANDBOX (cutbox-rows.mjs): the forced cells as the released guide's own fill.sh prints them over the translation 324085151ac8ab27… (all of the seat's roots in one cut). By AI agents, Wed Nov 11 2026. No macro, syntax, notation, axiom, sorry.
-/
import Derived.Test.YtmibdabdlgmafaaGreatDoorChecked
import GoSem.Claim
import GoSem.ClaimJoined
import GoSem.ClaimMapViews
import Derived.JoinedTies
import Derived.KernelRfl
namespace Go.Proofs.YtmibdabdlgmafaaGreatDoor
/- THE CELL 'sum', in the pinned program and in every row, IS THE sha256 OF THE DUMP (.gsa) THAT YtmibdabdlgmafaaGreatDoorProg.lean LOADS. Nothing in Lean hashes anything: it is a label: what it is worth is what the hold of that sum in a sandbox is worth. -/
noncomputable def Tryz.pinned : Pinned := { name := "ytmibdabdlgmafaagreatdoor", sum := "324085151ac8ab27ef271d13edb9d61915ffcfdf7206879a7d4238126fcd02c7", checked := Tryz.checked }
namespace Rows
def none {H : Type} : Left H := { results := [], args := [] }

/- WHAT THE LISTED PACKAGE-LEVEL VARIABLES READ AS WHEN THE CALL BEGINS. Each datum BY PROGRAM (the guide's laid-datum.mjs) off the statement by which the dump's own 'gosem.cut.vars' lays the variable. In a bare row this is a premise. The card (YtmibdabdlgmafaaGreatDoorCards.lean) ties it to the program's text. -/
def laid_lighterage_sha_roots {H : Type} : DataW H := .agg [.lit (.int .u32 1116352408), .lit (.int .u32 1899447441), .lit (.int .u32 3049323471), .lit (.int .u32 3921009573), .lit (.int .u32 961987163), .lit (.int .u32 1508970993), .lit (.int .u32 2453635748), .lit (.int .u32 2870763221), .lit (.int .u32 3624381080), .lit (.int .u32 310598401), .lit (.int .u32 607225278), .lit (.int .u32 1426881987), .lit (.int .u32 1925078388), .lit (.int .u32 2162078206), .lit (.int .u32 2614888103), .lit (.int .u32 3248222580), .lit (.int .u32 3835390401), .lit (.int .u32 4022224774), .lit (.int .u32 264347078), .lit (.int .u32 604807628), .lit (.int .u32 770255983), .lit (.int .u32 1249150122), .lit (.int .u32 1555081692), .lit (.int .u32 1996064986), .lit (.int .u32 2554220882), .lit (.int .u32 2821834349), .lit (.int .u32 2952996808), .lit (.int .u32 3210313671), .lit (.int .u32 3336571891), .lit (.int .u32 3584528711), .lit (.int .u32 113926993), .lit (.int .u32 338241895), .lit (.int .u32 666307205), .lit (.int .u32 773529912), .lit (.int .u32 1294757372), .lit (.int .u32 1396182291), .lit (.int .u32 1695183700), .lit (.int .u32 1986661051), .lit (.int .u32 2177026350), .lit (.int .u32 2456956037), .lit (.int .u32 2730485921), .lit (.int .u32 2820302411), .lit (.int .u32 3259730800), .lit (.int .u32 3345764771), .lit (.int .u32 3516065817), .lit (.int .u32 3600352804), .lit (.int .u32 4094571909), .lit (.int .u32 275423344), .lit (.int .u32 430227734), .lit (.int .u32 506948616), .lit (.int .u32 659060556), .lit (.int .u32 883997877), .lit (.int .u32 958139571), .lit (.int .u32 1322822218), .lit (.int .u32 1537002063), .lit (.int .u32 1747873779), .lit (.int .u32 1955562222), .lit (.int .u32 2024104815), .lit (.int .u32 2227730452), .lit (.int .u32 2361852424), .lit (.int .u32 2428436474), .lit (.int .u32 2756734187), .lit (.int .u32 3204031479), .lit (.int .u32 3329325298)]

/-- 'lighteragelaw13.StorePlays': WHATEVER THE INPUT: true; the input reads as it did. -/
def storePlaysSpec : ChangeSpec := { name := "storePlays", fn := fun _ => fun
  | [d1, d2] => { results := [.lit (.bool true)], args := [d1, d2] }
  | _ => none }
def storePlaysRow : OpenClaim := { program := "ytmibdabdlgmafaagreatdoor", sum := "324085151ac8ab27ef271d13edb9d61915ffcfdf7206879a7d4238126fcd02c7", func := "lighterage/lighteragelaw13.StorePlays", spec := "storePlays", inPlace := ["internal/bytealg.IndexByteString", "internal/bytealg.IndexString", "maps.clone", "internal/reflectlite.TypeOf"], unfollowed := true, recurses := true, named := ["internal/bytealg.MaxLen", "lighterage/sha.roots"], plainKeys := false, apart := false, laid := [("lighterage/sha.roots", laid_lighterage_sha_roots)] }
def StorePlaysSaid : Prop := storePlaysRow.holds Tryz.pinned (OpenSpec.ofChange storePlaysSpec)

/-- ITS FALSE NEIGHBOUR: 'it returns false'. Refute it at one input. -/
def storePlaysWrong : ChangeSpec := { name := "storePlays", fn := fun _ => fun
  | [d1, d2] => { results := [.lit (.bool false)], args := [d1, d2] }
  | _ => none }
def StorePlaysWrongFalsely : Prop := storePlaysRow.holds Tryz.pinned (OpenSpec.ofChange storePlaysWrong)

/-- 'lighteragelaw20.ServerLoads': WHATEVER THE INPUT: true; the input reads as it did. -/
def serverLoadsSpec : ChangeSpec := { name := "serverLoads", fn := fun _ => fun
  | [d1, d2, d3, d4] => { results := [.lit (.bool true)], args := [d1, d2, d3, d4] }
  | _ => none }
def serverLoadsRow : OpenClaim := { program := "ytmibdabdlgmafaagreatdoor", sum := "324085151ac8ab27ef271d13edb9d61915ffcfdf7206879a7d4238126fcd02c7", func := "lighterage/lighteragelaw20.ServerLoads", spec := "serverLoads", inPlace := ["internal/reflectlite.TypeOf", "internal/bytealg.IndexByteString", "internal/bytealg.IndexString", "maps.clone", "(*internal/sync.Mutex).Lock", "internal/race.Disable", "sync/atomic.CompareAndSwapInt32", "internal/race.Enable", "internal/race.Acquire", "(*internal/sync.Mutex).lockSlow", "internal/sync.runtime_canSpin", "internal/sync.runtime_doSpin", "internal/sync.throw", "internal/sync.runtime_nanotime", "internal/sync.runtime_SemacquireMutex", "sync/atomic.AddInt32", "(*internal/sync.Mutex).Unlock", "internal/race.ReleaseMerge", "(*internal/sync.Mutex).unlockSlow", "internal/sync.fatal", "internal/sync.runtime_Semrelease"], unfollowed := true, recurses := true, named := ["lighterage/sha.roots", "internal/bytealg.MaxLen"], plainKeys := false, apart := false, laid := [("lighterage/sha.roots", laid_lighterage_sha_roots)] }
def ServerLoadsSaid : Prop := serverLoadsRow.holds Tryz.pinned (OpenSpec.ofChange serverLoadsSpec)

/-- ITS FALSE NEIGHBOUR: 'it returns false'. Refute it at one input. -/
def serverLoadsWrong : ChangeSpec := { name := "serverLoads", fn := fun _ => fun
  | [d1, d2, d3, d4] => { results := [.lit (.bool false)], args := [d1, d2, d3, d4] }
  | _ => none }
def ServerLoadsWrongFalsely : Prop := serverLoadsRow.holds Tryz.pinned (OpenSpec.ofChange serverLoadsWrong)

/-- 'lighteragelaw16.PlanMakes': WHATEVER THE INPUT: true; the input reads as it did. -/
def planMakesSpec : ChangeSpec := { name := "planMakes", fn := fun _ => fun
  | [d1, d2, d3, d4, d5] => { results := [.lit (.bool true)], args := [d1, d2, d3, d4, d5] }
  | _ => none }
def planMakesRow : OpenClaim := { program := "ytmibdabdlgmafaagreatdoor", sum := "324085151ac8ab27ef271d13edb9d61915ffcfdf7206879a7d4238126fcd02c7", func := "lighterage/lighteragelaw16.PlanMakes", spec := "planMakes", inPlace := ["internal/reflectlite.TypeOf", "internal/bytealg.IndexByteString", "internal/bytealg.IndexString", "maps.clone", "sync/atomic.LoadUint32", "(*internal/sync.Mutex).Lock", "internal/race.Disable", "sync/atomic.CompareAndSwapInt32", "internal/race.Enable", "internal/race.Acquire", "(*internal/sync.Mutex).lockSlow", "internal/sync.runtime_canSpin", "internal/sync.runtime_doSpin", "internal/sync.throw", "internal/sync.runtime_nanotime", "internal/sync.runtime_SemacquireMutex", "sync/atomic.AddInt32", "(*internal/sync.Mutex).Unlock", "internal/race.ReleaseMerge", "(*internal/sync.Mutex).unlockSlow", "internal/sync.fatal", "internal/sync.runtime_Semrelease", "sync/atomic.StoreUint32"], unfollowed := true, recurses := true, named := ["lighterage/sha.roots", "internal/bytealg.MaxLen"], plainKeys := false, apart := false, laid := [("lighterage/sha.roots", laid_lighterage_sha_roots)] }
def PlanMakesSaid : Prop := planMakesRow.holds Tryz.pinned (OpenSpec.ofChange planMakesSpec)

/-- ITS FALSE NEIGHBOUR: 'it returns false'. Refute it at one input. -/
def planMakesWrong : ChangeSpec := { name := "planMakes", fn := fun _ => fun
  | [d1, d2, d3, d4, d5] => { results := [.lit (.bool false)], args := [d1, d2, d3, d4, d5] }
  | _ => none }
def PlanMakesWrongFalsely : Prop := planMakesRow.holds Tryz.pinned (OpenSpec.ofChange planMakesWrong)

/-- 'lighteragelaw16.PlanFirst': WHATEVER THE INPUT: true; the input reads as it did. -/
def planFirstSpec : ChangeSpec := { name := "planFirst", fn := fun _ => fun
  | [d] => { results := [.lit (.bool true)], args := [d] }
  | _ => none }
def planFirstRow : OpenClaim := { program := "ytmibdabdlgmafaagreatdoor", sum := "324085151ac8ab27ef271d13edb9d61915ffcfdf7206879a7d4238126fcd02c7", func := "lighterage/lighteragelaw16.PlanFirst", spec := "planFirst", inPlace := ["internal/reflectlite.TypeOf", "internal/bytealg.IndexByteString", "internal/bytealg.IndexString", "maps.clone", "sync/atomic.LoadUint32", "(*internal/sync.Mutex).Lock", "internal/race.Disable", "sync/atomic.CompareAndSwapInt32", "internal/race.Enable", "internal/race.Acquire", "(*internal/sync.Mutex).lockSlow", "internal/sync.runtime_canSpin", "internal/sync.runtime_doSpin", "internal/sync.throw", "internal/sync.runtime_nanotime", "internal/sync.runtime_SemacquireMutex", "sync/atomic.AddInt32", "(*internal/sync.Mutex).Unlock", "internal/race.ReleaseMerge", "(*internal/sync.Mutex).unlockSlow", "internal/sync.fatal", "internal/sync.runtime_Semrelease", "sync/atomic.StoreUint32"], unfollowed := true, recurses := true, named := ["lighterage/sha.roots", "internal/bytealg.MaxLen"], plainKeys := false, apart := false, laid := [("lighterage/sha.roots", laid_lighterage_sha_roots)] }
def PlanFirstSaid : Prop := planFirstRow.holds Tryz.pinned (OpenSpec.ofChange planFirstSpec)

/-- ITS FALSE NEIGHBOUR: 'it returns false'. Refute it at one input. -/
def planFirstWrong : ChangeSpec := { name := "planFirst", fn := fun _ => fun
  | [d] => { results := [.lit (.bool false)], args := [d] }
  | _ => none }
def PlanFirstWrongFalsely : Prop := planFirstRow.holds Tryz.pinned (OpenSpec.ofChange planFirstWrong)

/-- 'lighteragelaw16.PlanBuilds': WHATEVER THE INPUT: true; the input reads as it did. -/
def planBuildsSpec : ChangeSpec := { name := "planBuilds", fn := fun _ => fun
  | [d1, d2, d3, d4, d5] => { results := [.lit (.bool true)], args := [d1, d2, d3, d4, d5] }
  | _ => none }
def planBuildsRow : OpenClaim := { program := "ytmibdabdlgmafaagreatdoor", sum := "324085151ac8ab27ef271d13edb9d61915ffcfdf7206879a7d4238126fcd02c7", func := "lighterage/lighteragelaw16.PlanBuilds", spec := "planBuilds", inPlace := ["internal/reflectlite.TypeOf", "internal/bytealg.IndexByteString", "internal/bytealg.IndexString", "maps.clone", "sync/atomic.LoadUint32", "(*internal/sync.Mutex).Lock", "internal/race.Disable", "sync/atomic.CompareAndSwapInt32", "internal/race.Enable", "internal/race.Acquire", "(*internal/sync.Mutex).lockSlow", "internal/sync.runtime_canSpin", "internal/sync.runtime_doSpin", "internal/sync.throw", "internal/sync.runtime_nanotime", "internal/sync.runtime_SemacquireMutex", "sync/atomic.AddInt32", "(*internal/sync.Mutex).Unlock", "internal/race.ReleaseMerge", "(*internal/sync.Mutex).unlockSlow", "internal/sync.fatal", "internal/sync.runtime_Semrelease", "sync/atomic.StoreUint32"], unfollowed := true, recurses := true, named := ["lighterage/sha.roots", "internal/bytealg.MaxLen"], plainKeys := false, apart := false, laid := [("lighterage/sha.roots", laid_lighterage_sha_roots)] }
def PlanBuildsSaid : Prop := planBuildsRow.holds Tryz.pinned (OpenSpec.ofChange planBuildsSpec)

/-- ITS FALSE NEIGHBOUR: 'it returns false'. Refute it at one input. -/
def planBuildsWrong : ChangeSpec := { name := "planBuilds", fn := fun _ => fun
  | [d1, d2, d3, d4, d5] => { results := [.lit (.bool false)], args := [d1, d2, d3, d4, d5] }
  | _ => none }
def PlanBuildsWrongFalsely : Prop := planBuildsRow.holds Tryz.pinned (OpenSpec.ofChange planBuildsWrong)

/-- 'lighteragelaw16.PlanWhole': WHATEVER THE INPUT: true; the input reads as it did. -/
def planWholeSpec : ChangeSpec := { name := "planWhole", fn := fun _ => fun
  | [d1, d2, d3, d4, d5] => { results := [.lit (.bool true)], args := [d1, d2, d3, d4, d5] }
  | _ => none }
def planWholeRow : OpenClaim := { program := "ytmibdabdlgmafaagreatdoor", sum := "324085151ac8ab27ef271d13edb9d61915ffcfdf7206879a7d4238126fcd02c7", func := "lighterage/lighteragelaw16.PlanWhole", spec := "planWhole", inPlace := ["internal/reflectlite.TypeOf", "internal/bytealg.IndexByteString", "internal/bytealg.IndexString", "maps.clone", "sync/atomic.LoadUint32", "(*internal/sync.Mutex).Lock", "internal/race.Disable", "sync/atomic.CompareAndSwapInt32", "internal/race.Enable", "internal/race.Acquire", "(*internal/sync.Mutex).lockSlow", "internal/sync.runtime_canSpin", "internal/sync.runtime_doSpin", "internal/sync.throw", "internal/sync.runtime_nanotime", "internal/sync.runtime_SemacquireMutex", "sync/atomic.AddInt32", "(*internal/sync.Mutex).Unlock", "internal/race.ReleaseMerge", "(*internal/sync.Mutex).unlockSlow", "internal/sync.fatal", "internal/sync.runtime_Semrelease", "sync/atomic.StoreUint32"], unfollowed := true, recurses := true, named := ["lighterage/sha.roots", "internal/bytealg.MaxLen"], plainKeys := false, apart := false, laid := [("lighterage/sha.roots", laid_lighterage_sha_roots)] }
def PlanWholeSaid : Prop := planWholeRow.holds Tryz.pinned (OpenSpec.ofChange planWholeSpec)

/-- ITS FALSE NEIGHBOUR: 'it returns false'. Refute it at one input. -/
def planWholeWrong : ChangeSpec := { name := "planWhole", fn := fun _ => fun
  | [d1, d2, d3, d4, d5] => { results := [.lit (.bool false)], args := [d1, d2, d3, d4, d5] }
  | _ => none }
def PlanWholeWrongFalsely : Prop := planWholeRow.holds Tryz.pinned (OpenSpec.ofChange planWholeWrong)

/-- 'lighteragelaw16.PlanFills': WHATEVER THE INPUT: true; the input reads as it did. -/
def planFillsSpec : ChangeSpec := { name := "planFills", fn := fun _ => fun
  | [d1, d2, d3, d4, d5] => { results := [.lit (.bool true)], args := [d1, d2, d3, d4, d5] }
  | _ => none }
def planFillsRow : OpenClaim := { program := "ytmibdabdlgmafaagreatdoor", sum := "324085151ac8ab27ef271d13edb9d61915ffcfdf7206879a7d4238126fcd02c7", func := "lighterage/lighteragelaw16.PlanFills", spec := "planFills", inPlace := ["internal/reflectlite.TypeOf", "internal/bytealg.IndexByteString", "internal/bytealg.IndexString", "maps.clone", "sync/atomic.LoadUint32", "(*internal/sync.Mutex).Lock", "internal/race.Disable", "sync/atomic.CompareAndSwapInt32", "internal/race.Enable", "internal/race.Acquire", "(*internal/sync.Mutex).lockSlow", "internal/sync.runtime_canSpin", "internal/sync.runtime_doSpin", "internal/sync.throw", "internal/sync.runtime_nanotime", "internal/sync.runtime_SemacquireMutex", "sync/atomic.AddInt32", "(*internal/sync.Mutex).Unlock", "internal/race.ReleaseMerge", "(*internal/sync.Mutex).unlockSlow", "internal/sync.fatal", "internal/sync.runtime_Semrelease", "sync/atomic.StoreUint32"], unfollowed := true, recurses := true, named := ["lighterage/sha.roots", "internal/bytealg.MaxLen"], plainKeys := false, apart := false, laid := [("lighterage/sha.roots", laid_lighterage_sha_roots)] }
def PlanFillsSaid : Prop := planFillsRow.holds Tryz.pinned (OpenSpec.ofChange planFillsSpec)

/-- ITS FALSE NEIGHBOUR: 'it returns false'. Refute it at one input. -/
def planFillsWrong : ChangeSpec := { name := "planFills", fn := fun _ => fun
  | [d1, d2, d3, d4, d5] => { results := [.lit (.bool false)], args := [d1, d2, d3, d4, d5] }
  | _ => none }
def PlanFillsWrongFalsely : Prop := planFillsRow.holds Tryz.pinned (OpenSpec.ofChange planFillsWrong)

/-- 'lighteragelaw14.SweepAll': WHATEVER THE INPUT: true; the input reads as it did. -/
def sweepAllSpec : ChangeSpec := { name := "sweepAll", fn := fun _ => fun
  | [d1, d2, d3] => { results := [.lit (.bool true)], args := [d1, d2, d3] }
  | _ => none }
def sweepAllRow : OpenClaim := { program := "ytmibdabdlgmafaagreatdoor", sum := "324085151ac8ab27ef271d13edb9d61915ffcfdf7206879a7d4238126fcd02c7", func := "lighterage/lighteragelaw14.SweepAll", spec := "sweepAll", inPlace := ["internal/reflectlite.TypeOf", "internal/bytealg.IndexByteString", "internal/bytealg.IndexString", "maps.clone", "internal/bytealg.Compare"], unfollowed := true, recurses := true, named := ["lighterage/sha.roots", "internal/bytealg.MaxLen"], plainKeys := false, apart := false, laid := [("lighterage/sha.roots", laid_lighterage_sha_roots)] }
def SweepAllSaid : Prop := sweepAllRow.holds Tryz.pinned (OpenSpec.ofChange sweepAllSpec)

/-- ITS FALSE NEIGHBOUR: 'it returns false'. Refute it at one input. -/
def sweepAllWrong : ChangeSpec := { name := "sweepAll", fn := fun _ => fun
  | [d1, d2, d3] => { results := [.lit (.bool false)], args := [d1, d2, d3] }
  | _ => none }
def SweepAllWrongFalsely : Prop := sweepAllRow.holds Tryz.pinned (OpenSpec.ofChange sweepAllWrong)

/-- 'lighteragelaw14.SweepPrunes': WHATEVER THE INPUT: true; the input reads as it did. -/
def sweepPrunesSpec : ChangeSpec := { name := "sweepPrunes", fn := fun _ => fun
  | [d1, d2, d3, d4, d5] => { results := [.lit (.bool true)], args := [d1, d2, d3, d4, d5] }
  | _ => none }
def sweepPrunesRow : OpenClaim := { program := "ytmibdabdlgmafaagreatdoor", sum := "324085151ac8ab27ef271d13edb9d61915ffcfdf7206879a7d4238126fcd02c7", func := "lighterage/lighteragelaw14.SweepPrunes", spec := "sweepPrunes", inPlace := ["internal/reflectlite.TypeOf", "internal/bytealg.IndexByteString", "internal/bytealg.IndexString", "maps.clone", "internal/bytealg.Compare"], unfollowed := true, recurses := true, named := ["lighterage/sha.roots", "internal/bytealg.MaxLen"], plainKeys := false, apart := false, laid := [("lighterage/sha.roots", laid_lighterage_sha_roots)] }
def SweepPrunesSaid : Prop := sweepPrunesRow.holds Tryz.pinned (OpenSpec.ofChange sweepPrunesSpec)

/-- ITS FALSE NEIGHBOUR: 'it returns false'. Refute it at one input. -/
def sweepPrunesWrong : ChangeSpec := { name := "sweepPrunes", fn := fun _ => fun
  | [d1, d2, d3, d4, d5] => { results := [.lit (.bool false)], args := [d1, d2, d3, d4, d5] }
  | _ => none }
def SweepPrunesWrongFalsely : Prop := sweepPrunesRow.holds Tryz.pinned (OpenSpec.ofChange sweepPrunesWrong)

/-- 'lighteragelaw14.SweepWhole': WHATEVER THE INPUT: true; the input reads as it did. -/
def sweepWholeSpec : ChangeSpec := { name := "sweepWhole", fn := fun _ => fun
  | [d1, d2, d3, d4] => { results := [.lit (.bool true)], args := [d1, d2, d3, d4] }
  | _ => none }
def sweepWholeRow : OpenClaim := { program := "ytmibdabdlgmafaagreatdoor", sum := "324085151ac8ab27ef271d13edb9d61915ffcfdf7206879a7d4238126fcd02c7", func := "lighterage/lighteragelaw14.SweepWhole", spec := "sweepWhole", inPlace := ["internal/reflectlite.TypeOf", "internal/bytealg.IndexByteString", "internal/bytealg.IndexString", "maps.clone", "internal/bytealg.Compare"], unfollowed := true, recurses := true, named := ["lighterage/sha.roots", "internal/bytealg.MaxLen"], plainKeys := false, apart := false, laid := [("lighterage/sha.roots", laid_lighterage_sha_roots)] }
def SweepWholeSaid : Prop := sweepWholeRow.holds Tryz.pinned (OpenSpec.ofChange sweepWholeSpec)

/-- ITS FALSE NEIGHBOUR: 'it returns false'. Refute it at one input. -/
def sweepWholeWrong : ChangeSpec := { name := "sweepWhole", fn := fun _ => fun
  | [d1, d2, d3, d4] => { results := [.lit (.bool false)], args := [d1, d2, d3, d4] }
  | _ => none }
def SweepWholeWrongFalsely : Prop := sweepWholeRow.holds Tryz.pinned (OpenSpec.ofChange sweepWholeWrong)

/-- 'lighteragelaw14.SweepKeeps': WHATEVER THE INPUT: true; the input reads as it did. -/
def sweepKeepsSpec : ChangeSpec := { name := "sweepKeeps", fn := fun _ => fun
  | [d1, d2, d3, d4] => { results := [.lit (.bool true)], args := [d1, d2, d3, d4] }
  | _ => none }
def sweepKeepsRow : OpenClaim := { program := "ytmibdabdlgmafaagreatdoor", sum := "324085151ac8ab27ef271d13edb9d61915ffcfdf7206879a7d4238126fcd02c7", func := "lighterage/lighteragelaw14.SweepKeeps", spec := "sweepKeeps", inPlace := ["internal/reflectlite.TypeOf", "internal/bytealg.IndexByteString", "internal/bytealg.IndexString", "maps.clone", "internal/bytealg.Compare"], unfollowed := true, recurses := true, named := ["lighterage/sha.roots", "internal/bytealg.MaxLen"], plainKeys := false, apart := false, laid := [("lighterage/sha.roots", laid_lighterage_sha_roots)] }
def SweepKeepsSaid : Prop := sweepKeepsRow.holds Tryz.pinned (OpenSpec.ofChange sweepKeepsSpec)

/-- ITS FALSE NEIGHBOUR: 'it returns false'. Refute it at one input. -/
def sweepKeepsWrong : ChangeSpec := { name := "sweepKeeps", fn := fun _ => fun
  | [d1, d2, d3, d4] => { results := [.lit (.bool false)], args := [d1, d2, d3, d4] }
  | _ => none }
def SweepKeepsWrongFalsely : Prop := sweepKeepsRow.holds Tryz.pinned (OpenSpec.ofChange sweepKeepsWrong)

/-- 'lighteragelaw14.SweepScrubs': WHATEVER THE INPUT: true; the input reads as it did. -/
def sweepScrubsSpec : ChangeSpec := { name := "sweepScrubs", fn := fun _ => fun
  | [d1, d2, d3, d4] => { results := [.lit (.bool true)], args := [d1, d2, d3, d4] }
  | _ => none }
def sweepScrubsRow : OpenClaim := { program := "ytmibdabdlgmafaagreatdoor", sum := "324085151ac8ab27ef271d13edb9d61915ffcfdf7206879a7d4238126fcd02c7", func := "lighterage/lighteragelaw14.SweepScrubs", spec := "sweepScrubs", inPlace := ["internal/reflectlite.TypeOf", "internal/bytealg.IndexByteString", "internal/bytealg.IndexString", "maps.clone", "internal/bytealg.Compare"], unfollowed := true, recurses := true, named := ["lighterage/sha.roots", "internal/bytealg.MaxLen"], plainKeys := false, apart := false, laid := [("lighterage/sha.roots", laid_lighterage_sha_roots)] }
def SweepScrubsSaid : Prop := sweepScrubsRow.holds Tryz.pinned (OpenSpec.ofChange sweepScrubsSpec)

/-- ITS FALSE NEIGHBOUR: 'it returns false'. Refute it at one input. -/
def sweepScrubsWrong : ChangeSpec := { name := "sweepScrubs", fn := fun _ => fun
  | [d1, d2, d3, d4] => { results := [.lit (.bool false)], args := [d1, d2, d3, d4] }
  | _ => none }
def SweepScrubsWrongFalsely : Prop := sweepScrubsRow.holds Tryz.pinned (OpenSpec.ofChange sweepScrubsWrong)

/- THE SECOND FORM. 'bulk': how many values and letters a reading holds, each counted each time it is reached (what is shared counts as often as it is met; a slice's spare places count too). A statement '..UptoSaid' is the law's where the arguments, and the package variables that the reading takes, are together of bulk at most 1048576: NARROWER than '..Said'. Prove '..Said' where nothing that the law and all that it calls make is longer than what came in: it says more and counts as full. Else prove '..UptoSaid'. A law counts once. -/
mutual
def uptoBulk {H : Type} : DataW H → Nat
  | .lit (.string bytes) => bytes.length + 1
  | .lit _ => 1
  | .nil => 1
  | .ptr d => uptoBulk d + 1
  | .slice elems spare => uptoBulkAll elems + uptoBulkAll spare + 1
  | .agg parts => uptoBulkAll parts + 1
  | .iface _ d => uptoBulk d + 1
  | .map entries => uptoBulkEntries entries + 1
  | .held _ => 1
def uptoBulkAll {H : Type} : List (DataW H) → Nat
  | [] => 0
  | d :: r => uptoBulk d + uptoBulkAll r
def uptoBulkEntries {H : Type} : List (Lit × DataW H) → Nat
  | [] => 0
  | x :: r => uptoBulkEntry x + uptoBulkEntries r
def uptoBulkEntry {H : Type} : Lit × DataW H → Nat
  | (.string bytes, d) => bytes.length + uptoBulk d + 1
  | (_, d) => uptoBulk d + 1
 end
def uptoSmall : (H : Type) → List (DataW H) → Bool := fun _ ds => decide (uptoBulkAll ds ≤ 1048576)
def OpenSpec.upto (s : _root_.Go.ChangeSpec) : _root_.Go.OpenSpec := { _root_.Go.OpenSpec.ofChange s with cond := some uptoSmall }

/-- 'lighteragelaw13.StorePlays', WHERE WHAT IT READS IS OF BULK AT MOST 1048576: true; the input reads as it did. -/
def storePlaysUptoRow : OpenClaim := { program := "ytmibdabdlgmafaagreatdoor", sum := "324085151ac8ab27ef271d13edb9d61915ffcfdf7206879a7d4238126fcd02c7", func := "lighterage/lighteragelaw13.StorePlays", spec := "storePlays", inPlace := ["internal/bytealg.IndexByteString", "internal/bytealg.IndexString", "maps.clone", "internal/reflectlite.TypeOf"], unfollowed := true, recurses := true, named := ["internal/bytealg.MaxLen", "lighterage/sha.roots"], plainKeys := false, apart := false, laid := [("lighterage/sha.roots", laid_lighterage_sha_roots)], narrowed := true }
def StorePlaysUptoSaid : Prop := storePlaysUptoRow.holds Tryz.pinned (OpenSpec.upto storePlaysSpec)

/-- 'lighteragelaw20.ServerLoads', WHERE WHAT IT READS IS OF BULK AT MOST 1048576: true; the input reads as it did. -/
def serverLoadsUptoRow : OpenClaim := { program := "ytmibdabdlgmafaagreatdoor", sum := "324085151ac8ab27ef271d13edb9d61915ffcfdf7206879a7d4238126fcd02c7", func := "lighterage/lighteragelaw20.ServerLoads", spec := "serverLoads", inPlace := ["internal/reflectlite.TypeOf", "internal/bytealg.IndexByteString", "internal/bytealg.IndexString", "maps.clone", "(*internal/sync.Mutex).Lock", "internal/race.Disable", "sync/atomic.CompareAndSwapInt32", "internal/race.Enable", "internal/race.Acquire", "(*internal/sync.Mutex).lockSlow", "internal/sync.runtime_canSpin", "internal/sync.runtime_doSpin", "internal/sync.throw", "internal/sync.runtime_nanotime", "internal/sync.runtime_SemacquireMutex", "sync/atomic.AddInt32", "(*internal/sync.Mutex).Unlock", "internal/race.ReleaseMerge", "(*internal/sync.Mutex).unlockSlow", "internal/sync.fatal", "internal/sync.runtime_Semrelease"], unfollowed := true, recurses := true, named := ["lighterage/sha.roots", "internal/bytealg.MaxLen"], plainKeys := false, apart := false, laid := [("lighterage/sha.roots", laid_lighterage_sha_roots)], narrowed := true }
def ServerLoadsUptoSaid : Prop := serverLoadsUptoRow.holds Tryz.pinned (OpenSpec.upto serverLoadsSpec)

/-- 'lighteragelaw16.PlanMakes', WHERE WHAT IT READS IS OF BULK AT MOST 1048576: true; the input reads as it did. -/
def planMakesUptoRow : OpenClaim := { program := "ytmibdabdlgmafaagreatdoor", sum := "324085151ac8ab27ef271d13edb9d61915ffcfdf7206879a7d4238126fcd02c7", func := "lighterage/lighteragelaw16.PlanMakes", spec := "planMakes", inPlace := ["internal/reflectlite.TypeOf", "internal/bytealg.IndexByteString", "internal/bytealg.IndexString", "maps.clone", "sync/atomic.LoadUint32", "(*internal/sync.Mutex).Lock", "internal/race.Disable", "sync/atomic.CompareAndSwapInt32", "internal/race.Enable", "internal/race.Acquire", "(*internal/sync.Mutex).lockSlow", "internal/sync.runtime_canSpin", "internal/sync.runtime_doSpin", "internal/sync.throw", "internal/sync.runtime_nanotime", "internal/sync.runtime_SemacquireMutex", "sync/atomic.AddInt32", "(*internal/sync.Mutex).Unlock", "internal/race.ReleaseMerge", "(*internal/sync.Mutex).unlockSlow", "internal/sync.fatal", "internal/sync.runtime_Semrelease", "sync/atomic.StoreUint32"], unfollowed := true, recurses := true, named := ["lighterage/sha.roots", "internal/bytealg.MaxLen"], plainKeys := false, apart := false, laid := [("lighterage/sha.roots", laid_lighterage_sha_roots)], narrowed := true }
def PlanMakesUptoSaid : Prop := planMakesUptoRow.holds Tryz.pinned (OpenSpec.upto planMakesSpec)

/-- 'lighteragelaw16.PlanFirst', WHERE WHAT IT READS IS OF BULK AT MOST 1048576: true; the input reads as it did. -/
def planFirstUptoRow : OpenClaim := { program := "ytmibdabdlgmafaagreatdoor", sum := "324085151ac8ab27ef271d13edb9d61915ffcfdf7206879a7d4238126fcd02c7", func := "lighterage/lighteragelaw16.PlanFirst", spec := "planFirst", inPlace := ["internal/reflectlite.TypeOf", "internal/bytealg.IndexByteString", "internal/bytealg.IndexString", "maps.clone", "sync/atomic.LoadUint32", "(*internal/sync.Mutex).Lock", "internal/race.Disable", "sync/atomic.CompareAndSwapInt32", "internal/race.Enable", "internal/race.Acquire", "(*internal/sync.Mutex).lockSlow", "internal/sync.runtime_canSpin", "internal/sync.runtime_doSpin", "internal/sync.throw", "internal/sync.runtime_nanotime", "internal/sync.runtime_SemacquireMutex", "sync/atomic.AddInt32", "(*internal/sync.Mutex).Unlock", "internal/race.ReleaseMerge", "(*internal/sync.Mutex).unlockSlow", "internal/sync.fatal", "internal/sync.runtime_Semrelease", "sync/atomic.StoreUint32"], unfollowed := true, recurses := true, named := ["lighterage/sha.roots", "internal/bytealg.MaxLen"], plainKeys := false, apart := false, laid := [("lighterage/sha.roots", laid_lighterage_sha_roots)], narrowed := true }
def PlanFirstUptoSaid : Prop := planFirstUptoRow.holds Tryz.pinned (OpenSpec.upto planFirstSpec)

/-- 'lighteragelaw16.PlanBuilds', WHERE WHAT IT READS IS OF BULK AT MOST 1048576: true; the input reads as it did. -/
def planBuildsUptoRow : OpenClaim := { program := "ytmibdabdlgmafaagreatdoor", sum := "324085151ac8ab27ef271d13edb9d61915ffcfdf7206879a7d4238126fcd02c7", func := "lighterage/lighteragelaw16.PlanBuilds", spec := "planBuilds", inPlace := ["internal/reflectlite.TypeOf", "internal/bytealg.IndexByteString", "internal/bytealg.IndexString", "maps.clone", "sync/atomic.LoadUint32", "(*internal/sync.Mutex).Lock", "internal/race.Disable", "sync/atomic.CompareAndSwapInt32", "internal/race.Enable", "internal/race.Acquire", "(*internal/sync.Mutex).lockSlow", "internal/sync.runtime_canSpin", "internal/sync.runtime_doSpin", "internal/sync.throw", "internal/sync.runtime_nanotime", "internal/sync.runtime_SemacquireMutex", "sync/atomic.AddInt32", "(*internal/sync.Mutex).Unlock", "internal/race.ReleaseMerge", "(*internal/sync.Mutex).unlockSlow", "internal/sync.fatal", "internal/sync.runtime_Semrelease", "sync/atomic.StoreUint32"], unfollowed := true, recurses := true, named := ["lighterage/sha.roots", "internal/bytealg.MaxLen"], plainKeys := false, apart := false, laid := [("lighterage/sha.roots", laid_lighterage_sha_roots)], narrowed := true }
def PlanBuildsUptoSaid : Prop := planBuildsUptoRow.holds Tryz.pinned (OpenSpec.upto planBuildsSpec)

/-- 'lighteragelaw16.PlanWhole', WHERE WHAT IT READS IS OF BULK AT MOST 1048576: true; the input reads as it did. -/
def planWholeUptoRow : OpenClaim := { program := "ytmibdabdlgmafaagreatdoor", sum := "324085151ac8ab27ef271d13edb9d61915ffcfdf7206879a7d4238126fcd02c7", func := "lighterage/lighteragelaw16.PlanWhole", spec := "planWhole", inPlace := ["internal/reflectlite.TypeOf", "internal/bytealg.IndexByteString", "internal/bytealg.IndexString", "maps.clone", "sync/atomic.LoadUint32", "(*internal/sync.Mutex).Lock", "internal/race.Disable", "sync/atomic.CompareAndSwapInt32", "internal/race.Enable", "internal/race.Acquire", "(*internal/sync.Mutex).lockSlow", "internal/sync.runtime_canSpin", "internal/sync.runtime_doSpin", "internal/sync.throw", "internal/sync.runtime_nanotime", "internal/sync.runtime_SemacquireMutex", "sync/atomic.AddInt32", "(*internal/sync.Mutex).Unlock", "internal/race.ReleaseMerge", "(*internal/sync.Mutex).unlockSlow", "internal/sync.fatal", "internal/sync.runtime_Semrelease", "sync/atomic.StoreUint32"], unfollowed := true, recurses := true, named := ["lighterage/sha.roots", "internal/bytealg.MaxLen"], plainKeys := false, apart := false, laid := [("lighterage/sha.roots", laid_lighterage_sha_roots)], narrowed := true }
def PlanWholeUptoSaid : Prop := planWholeUptoRow.holds Tryz.pinned (OpenSpec.upto planWholeSpec)

/-- 'lighteragelaw16.PlanFills', WHERE WHAT IT READS IS OF BULK AT MOST 1048576: true; the input reads as it did. -/
def planFillsUptoRow : OpenClaim := { program := "ytmibdabdlgmafaagreatdoor", sum := "324085151ac8ab27ef271d13edb9d61915ffcfdf7206879a7d4238126fcd02c7", func := "lighterage/lighteragelaw16.PlanFills", spec := "planFills", inPlace := ["internal/reflectlite.TypeOf", "internal/bytealg.IndexByteString", "internal/bytealg.IndexString", "maps.clone", "sync/atomic.LoadUint32", "(*internal/sync.Mutex).Lock", "internal/race.Disable", "sync/atomic.CompareAndSwapInt32", "internal/race.Enable", "internal/race.Acquire", "(*internal/sync.Mutex).lockSlow", "internal/sync.runtime_canSpin", "internal/sync.runtime_doSpin", "internal/sync.throw", "internal/sync.runtime_nanotime", "internal/sync.runtime_SemacquireMutex", "sync/atomic.AddInt32", "(*internal/sync.Mutex).Unlock", "internal/race.ReleaseMerge", "(*internal/sync.Mutex).unlockSlow", "internal/sync.fatal", "internal/sync.runtime_Semrelease", "sync/atomic.StoreUint32"], unfollowed := true, recurses := true, named := ["lighterage/sha.roots", "internal/bytealg.MaxLen"], plainKeys := false, apart := false, laid := [("lighterage/sha.roots", laid_lighterage_sha_roots)], narrowed := true }
def PlanFillsUptoSaid : Prop := planFillsUptoRow.holds Tryz.pinned (OpenSpec.upto planFillsSpec)

/-- 'lighteragelaw14.SweepAll', WHERE WHAT IT READS IS OF BULK AT MOST 1048576: true; the input reads as it did. -/
def sweepAllUptoRow : OpenClaim := { program := "ytmibdabdlgmafaagreatdoor", sum := "324085151ac8ab27ef271d13edb9d61915ffcfdf7206879a7d4238126fcd02c7", func := "lighterage/lighteragelaw14.SweepAll", spec := "sweepAll", inPlace := ["internal/reflectlite.TypeOf", "internal/bytealg.IndexByteString", "internal/bytealg.IndexString", "maps.clone", "internal/bytealg.Compare"], unfollowed := true, recurses := true, named := ["lighterage/sha.roots", "internal/bytealg.MaxLen"], plainKeys := false, apart := false, laid := [("lighterage/sha.roots", laid_lighterage_sha_roots)], narrowed := true }
def SweepAllUptoSaid : Prop := sweepAllUptoRow.holds Tryz.pinned (OpenSpec.upto sweepAllSpec)

/-- 'lighteragelaw14.SweepPrunes', WHERE WHAT IT READS IS OF BULK AT MOST 1048576: true; the input reads as it did. -/
def sweepPrunesUptoRow : OpenClaim := { program := "ytmibdabdlgmafaagreatdoor", sum := "324085151ac8ab27ef271d13edb9d61915ffcfdf7206879a7d4238126fcd02c7", func := "lighterage/lighteragelaw14.SweepPrunes", spec := "sweepPrunes", inPlace := ["internal/reflectlite.TypeOf", "internal/bytealg.IndexByteString", "internal/bytealg.IndexString", "maps.clone", "internal/bytealg.Compare"], unfollowed := true, recurses := true, named := ["lighterage/sha.roots", "internal/bytealg.MaxLen"], plainKeys := false, apart := false, laid := [("lighterage/sha.roots", laid_lighterage_sha_roots)], narrowed := true }
def SweepPrunesUptoSaid : Prop := sweepPrunesUptoRow.holds Tryz.pinned (OpenSpec.upto sweepPrunesSpec)

/-- 'lighteragelaw14.SweepWhole', WHERE WHAT IT READS IS OF BULK AT MOST 1048576: true; the input reads as it did. -/
def sweepWholeUptoRow : OpenClaim := { program := "ytmibdabdlgmafaagreatdoor", sum := "324085151ac8ab27ef271d13edb9d61915ffcfdf7206879a7d4238126fcd02c7", func := "lighterage/lighteragelaw14.SweepWhole", spec := "sweepWhole", inPlace := ["internal/reflectlite.TypeOf", "internal/bytealg.IndexByteString", "internal/bytealg.IndexString", "maps.clone", "internal/bytealg.Compare"], unfollowed := true, recurses := true, named := ["lighterage/sha.roots", "internal/bytealg.MaxLen"], plainKeys := false, apart := false, laid := [("lighterage/sha.roots", laid_lighterage_sha_roots)], narrowed := true }
def SweepWholeUptoSaid : Prop := sweepWholeUptoRow.holds Tryz.pinned (OpenSpec.upto sweepWholeSpec)

/-- 'lighteragelaw14.SweepKeeps', WHERE WHAT IT READS IS OF BULK AT MOST 1048576: true; the input reads as it did. -/
def sweepKeepsUptoRow : OpenClaim := { program := "ytmibdabdlgmafaagreatdoor", sum := "324085151ac8ab27ef271d13edb9d61915ffcfdf7206879a7d4238126fcd02c7", func := "lighterage/lighteragelaw14.SweepKeeps", spec := "sweepKeeps", inPlace := ["internal/reflectlite.TypeOf", "internal/bytealg.IndexByteString", "internal/bytealg.IndexString", "maps.clone", "internal/bytealg.Compare"], unfollowed := true, recurses := true, named := ["lighterage/sha.roots", "internal/bytealg.MaxLen"], plainKeys := false, apart := false, laid := [("lighterage/sha.roots", laid_lighterage_sha_roots)], narrowed := true }
def SweepKeepsUptoSaid : Prop := sweepKeepsUptoRow.holds Tryz.pinned (OpenSpec.upto sweepKeepsSpec)

/-- 'lighteragelaw14.SweepScrubs', WHERE WHAT IT READS IS OF BULK AT MOST 1048576: true; the input reads as it did. -/
def sweepScrubsUptoRow : OpenClaim := { program := "ytmibdabdlgmafaagreatdoor", sum := "324085151ac8ab27ef271d13edb9d61915ffcfdf7206879a7d4238126fcd02c7", func := "lighterage/lighteragelaw14.SweepScrubs", spec := "sweepScrubs", inPlace := ["internal/reflectlite.TypeOf", "internal/bytealg.IndexByteString", "internal/bytealg.IndexString", "maps.clone", "internal/bytealg.Compare"], unfollowed := true, recurses := true, named := ["lighterage/sha.roots", "internal/bytealg.MaxLen"], plainKeys := false, apart := false, laid := [("lighterage/sha.roots", laid_lighterage_sha_roots)], narrowed := true }
def SweepScrubsUptoSaid : Prop := sweepScrubsUptoRow.holds Tryz.pinned (OpenSpec.upto sweepScrubsSpec)

end Rows
end Go.Proofs.YtmibdabdlgmafaaGreatDoor
