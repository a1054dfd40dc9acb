/- Lays of the library function slices.Sort for this seat. -/
import Derived.Test.YtflcokdkobhieaaProg
import Derived.Shelf.Sort.Plain
import Derived.Shelf.Lay
namespace Go.Proofs
open Go.Shelf
shelf_lay Lays.n190 Nm 190 at Try as Try.lays190
end Go.Proofs
