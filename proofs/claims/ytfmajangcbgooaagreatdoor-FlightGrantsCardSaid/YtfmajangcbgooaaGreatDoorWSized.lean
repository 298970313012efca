/- Words of the print and of the shelf (the kit's), cut to what this claim leans on. -/
import Derived.SizedLaws
import Derived.ChangeSlices
namespace Go.Proofs.YtfmajangcbgooaaGreatDoorW.PrintWords
open Go.ChangeShapes Go.WideShapes
end Go.Proofs.YtfmajangcbgooaaGreatDoorW.PrintWords
