/- Words of the print and of the shelf (the kit's), cut to what this claim leans on. -/
import Derived.Test.YtpkmhepoeefgkaaDoorWTab
namespace Go.Proofs.YtpkmhepoeefgkaaDoorW.PrintLast
end Go.Proofs.YtpkmhepoeefgkaaDoorW.PrintLast
