/- Words of the print and of the shelf (the kit's), cut to what this claim leans on. -/
import Derived.Test.YtpkmhepoeefgkaaDoorWInv
import Derived.Test.YtpkmhepoeefgkaaDoorWFootNe
namespace Go.Proofs.YtpkmhepoeefgkaaDoorW.PrintWords
open Go.RowKit
end Go.Proofs.YtpkmhepoeefgkaaDoorW.PrintWords
namespace Go.Proofs.YtpkmhepoeefgkaaDoorW.PrintLast
end Go.Proofs.YtpkmhepoeefgkaaDoorW.PrintLast
