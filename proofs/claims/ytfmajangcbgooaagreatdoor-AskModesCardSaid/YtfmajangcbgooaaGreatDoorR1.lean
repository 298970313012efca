/- How this seat's structs are opened as arguments. -/
import Derived.Test.YtfmajangcbgooaaGreatDoorR0
import Derived.Test.YtfmajangcbgooaaGreatDoorPr0
import Derived.KernelRfl
namespace Go.Proofs.YtfmajangcbgooaaGreatDoor.Pr
open Go.RowKit Go.Proofs.YtfmajangcbgooaaGreatDoorW.PrintWords
set_option linter.unusedVariables false

end Go.Proofs.YtfmajangcbgooaaGreatDoor.Pr
