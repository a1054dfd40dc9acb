/- The library's sort of texts, laid over this program. No statement is proved here. -/
import Derived.Test.YtflcokdkobhieaaProg
import Derived.Shelf.Sort.Plain
import Derived.Shelf.Lay
namespace Go.Proofs
open Go.Shelf
shelf_lay Lays.n190 Nm 190 at Try as Try.lays190
end Go.Proofs
