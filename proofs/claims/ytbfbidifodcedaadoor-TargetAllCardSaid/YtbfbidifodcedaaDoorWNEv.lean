/- Words of the print and of the shelf (the kit's), cut to what this claim leans on. -/
import Derived.Test.YtbfbidifodcedaaDoorWN
namespace Go.Proofs.YtbfbidifodcedaaDoorW.PrintWords
open Go.RowKit
namespace Kd
end Kd
end Go.Proofs.YtbfbidifodcedaaDoorW.PrintWords
