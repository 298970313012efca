/- Words of the print and of the shelf (the kit's), cut to what this claim leans on. -/
import Derived.Test.YtfmajangcbgooaaGreatDoorWWords
namespace Go.Proofs.YtfmajangcbgooaaGreatDoorW.PrintWords
end Go.Proofs.YtfmajangcbgooaaGreatDoorW.PrintWords
