/- Words of the print and of the shelf (the kit's), cut to what this claim leans on. -/
import Derived.Test.YtnbkfneolgeeeaaDoorWInv
import Derived.Test.YtnbkfneolgeeeaaDoorWFootNe
namespace Go.Proofs.YtnbkfneolgeeeaaDoorW.PrintWords
open Go.RowKit
end Go.Proofs.YtnbkfneolgeeeaaDoorW.PrintWords
namespace Go.Proofs.YtnbkfneolgeeeaaDoorW.PrintLast
end Go.Proofs.YtnbkfneolgeeeaaDoorW.PrintLast
