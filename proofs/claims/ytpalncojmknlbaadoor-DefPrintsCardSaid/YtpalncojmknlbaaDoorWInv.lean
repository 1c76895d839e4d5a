/- Words that this seat's printed texts use: plain theorems and definitions, as many as are used (wip/tools/prune_words.py, out of what the kit's print.sh has laid for the claim). -/
import Derived.Test.YtpalncojmknlbaaDoorWTab
namespace Go.Proofs.YtpalncojmknlbaaDoorW.PrintLast
def up (b : Nat → Bool) (i : Nat) : Nat → Bool := fun j => if j = i then true else b j
end Go.Proofs.YtpalncojmknlbaaDoorW.PrintLast
