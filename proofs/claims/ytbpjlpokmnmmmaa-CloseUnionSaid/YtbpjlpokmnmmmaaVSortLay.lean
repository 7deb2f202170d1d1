/- close: the library's sort at this program, laid off the shelf. -/
import Derived.Test.YtbpjlpokmnmmmaaVNet
import Derived.Ground.NamesProg
import Derived.Shelf.Lay
import Derived.Shelf.Sort.Plain
import Derived.Ground.Names2Prog
import Derived.Shelf.Slices.CompactI
namespace Go.Proofs
open Go.Shelf
shelf_lay Lays.n189 Nm 189 at Try as Try.lays189
shelf_lay Lays2.n20 Nm2 20 at Try as Try.lays20
end Go.Proofs
