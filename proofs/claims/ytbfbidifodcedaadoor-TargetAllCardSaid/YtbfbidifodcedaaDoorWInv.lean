/- Words of the print and of the shelf (the kit's), cut to what this claim leans on. -/
import Derived.Test.YtbfbidifodcedaaDoorWTab
namespace Go.Proofs.YtbfbidifodcedaaDoorW.PrintLast
end Go.Proofs.YtbfbidifodcedaaDoorW.PrintLast
