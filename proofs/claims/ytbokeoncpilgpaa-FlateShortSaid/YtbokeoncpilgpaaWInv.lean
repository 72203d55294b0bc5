/- Words that the printed contracts of this seat use, out of the print's own: what its texts need of them. -/
import Derived.Test.YtbokeoncpilgpaaWTab
namespace Go.Proofs.YtbokeoncpilgpaaW.PrintLast
def up (b : Nat → Bool) (i : Nat) : Nat → Bool := fun j => if j = i then true else b j
end Go.Proofs.YtbokeoncpilgpaaW.PrintLast
