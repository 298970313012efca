/- Words of the print and of the shelf (the kit's), cut to what this claim leans on. -/
import Derived.Test.YtfmajangcbgooaaGreatDoorWInv
import Derived.Test.YtfmajangcbgooaaGreatDoorWFootNe
namespace Go.Proofs.YtfmajangcbgooaaGreatDoorW.PrintWords
open Go.RowKit
end Go.Proofs.YtfmajangcbgooaaGreatDoorW.PrintWords
namespace Go.Proofs.YtfmajangcbgooaaGreatDoorW.PrintLast
end Go.Proofs.YtfmajangcbgooaaGreatDoorW.PrintLast
