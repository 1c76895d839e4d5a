/- Words that this seat's printed texts use: plain theorems and definitions, as many as are used (wip/tools/prune_words.py, out of what the kit's print.sh has laid for the claim). -/
import Derived.Test.YtpalncojmknlbaaDoorWN
namespace Go.Proofs.YtpalncojmknlbaaDoorW.PrintWords
open Go.RowKit
namespace Kd
end Kd
end Go.Proofs.YtpalncojmknlbaaDoorW.PrintWords
