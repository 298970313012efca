/- Words of the print and of the shelf (the kit's), cut to what this claim leans on. -/
import Derived.Test.YtbfbidifodcedaaDoorWWords
import Derived.Laws.StructEq
namespace Go.Proofs.YtbfbidifodcedaaDoorW.PrintWords
open Go.RowKit
end Go.Proofs.YtbfbidifodcedaaDoorW.PrintWords
