/- Words of the print and of the shelf (the kit's), cut to what this claim leans on. -/
import Derived.Test.YtfmajangcbgooaaGreatDoorWApart
import Derived.Test.YtfmajangcbgooaaGreatDoorWArr
namespace Go.Proofs.YtfmajangcbgooaaGreatDoorW.PrintWords
open Go.RowKit
namespace Kd
end Kd
end Go.Proofs.YtfmajangcbgooaaGreatDoorW.PrintWords
