/- The library's locks under this seat's numbers. -/
import Derived.Test.YtpcgpnijhpcbeaaProg
import Derived.Conc.MuLib
import Derived.KernelRfl
namespace Go.Proofs.Ytpcgpnijhpcbeaa
abbrev muLink : Go.Conc.Locks.MuLink := { lock := 69, unlock := 70, ilock := 79, iunlock := 80, lockSlow := 90, unlockSlow := 93, disable := 86, enable := 88, acquire := 89, relMerge := 91, cas32 := 87, add32 := 92, tMutex := 86, tIMutex := 84, tPMutex := 133, tPIMutex := 135, tPI32 := 137, tUP := 139, tNoCopy := 81, tU32 := 82 }
theorem muLib : Go.Conc.Locks.MuLib Try.prog muLink := by
  constructor <;> first | kernel_rfl | (intro _; kernel_rfl)
end Go.Proofs.Ytpcgpnijhpcbeaa
