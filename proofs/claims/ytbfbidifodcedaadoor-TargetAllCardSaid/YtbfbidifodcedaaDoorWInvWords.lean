/- Words of the print and of the shelf (the kit's), cut to what this claim leans on. -/
import Derived.Test.YtbfbidifodcedaaDoorWInv
import Derived.Test.YtbfbidifodcedaaDoorWFootNe
namespace Go.Proofs.YtbfbidifodcedaaDoorW.PrintWords
open Go.RowKit
end Go.Proofs.YtbfbidifodcedaaDoorW.PrintWords
namespace Go.Proofs.YtbfbidifodcedaaDoorW.PrintLast
end Go.Proofs.YtbfbidifodcedaaDoorW.PrintLast
