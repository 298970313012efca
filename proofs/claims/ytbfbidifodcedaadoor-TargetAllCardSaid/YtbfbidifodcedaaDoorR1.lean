/- How this seat's structs are opened as arguments. -/
import Derived.Test.YtbfbidifodcedaaDoorR0
import Derived.Test.YtbfbidifodcedaaDoorPr0
import Derived.KernelRfl
namespace Go.Proofs.YtbfbidifodcedaaDoor.Pr
open Go.RowKit Go.Proofs.YtbfbidifodcedaaDoorW.PrintWords
set_option linter.unusedVariables false

end Go.Proofs.YtbfbidifodcedaaDoor.Pr
