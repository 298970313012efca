/- Words of the print and of the shelf (the kit's), cut to what this claim leans on. -/
import Derived.Test.YtfmajangcbgooaaGreatDoorWTab
namespace Go.Proofs.YtfmajangcbgooaaGreatDoorW.PrintLast
end Go.Proofs.YtfmajangcbgooaaGreatDoorW.PrintLast
