/- Words of the print and of the shelf (the kit's), cut to what this claim leans on. -/
import Derived.Test.YtnbkfneolgeeeaaDoorWTab
namespace Go.Proofs.YtnbkfneolgeeeaaDoorW.PrintLast
end Go.Proofs.YtnbkfneolgeeeaaDoorW.PrintLast
