/- Words that this seat's printed texts use: plain theorems and definitions, as many as are used (wip/tools/prune_words.py, out of what the kit's print.sh has laid for the claim). -/
import Derived.Test.YtpalncojmknlbaaDoorWInv
import Derived.Test.YtpalncojmknlbaaDoorWFootNe
namespace Go.Proofs.YtpalncojmknlbaaDoorW.PrintWords
open Go.RowKit
end Go.Proofs.YtpalncojmknlbaaDoorW.PrintWords
namespace Go.Proofs.YtpalncojmknlbaaDoorW.PrintLast
end Go.Proofs.YtpalncojmknlbaaDoorW.PrintLast
