/- The contracts of strings.IndexAny and strings.Trim, laid at the program. -/
import Derived.Test.YtmmmpanpbphkdaaGreatDoorChecked
import Derived.Shelf.Strings.IndexAnyAll
import Derived.Shelf.Strings.SlTrimAscii
set_option maxRecDepth 100000
namespace Go.Proofs
open Go.Shelf
end Go.Proofs
