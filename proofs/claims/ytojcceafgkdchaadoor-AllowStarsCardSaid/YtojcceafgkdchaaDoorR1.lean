/- How this seat's structs are opened as arguments. -/
import Derived.Test.YtojcceafgkdchaaDoorR0
import Derived.Test.YtojcceafgkdchaaDoorPr0
import Derived.KernelRfl
namespace Go.Proofs.YtojcceafgkdchaaDoor.Pr
open Go.RowKit Go.Proofs.YtojcceafgkdchaaDoorW.PrintWords
set_option linter.unusedVariables false

end Go.Proofs.YtojcceafgkdchaaDoor.Pr
