/- The document's examples of chapter 1 are true of the program. -/
import Derived.Test.YthakidcnlkbbgaaDoorBas
import Derived.Test.YthakidcnlkbbgaaDoorHp2
namespace Go.Proofs.YthakidcnlkbbgaaDoor.Esc
open Go.RowKit Go.Proofs.YthakidcnlkbbgaaDoor.Hp Go.Proofs.YthakidcnlkbbgaaDoorW.PrintWords Go.Proofs.YthakidcnlkbbgaaDoorW.PrintLast
theorem awake_ev : Ev (fun k => lanyardlaw01_awake.f k) true := Ev.of (fun k => lanyardlaw01_awake.mono k) (k := 40) (by decide +kernel)
end Go.Proofs.YthakidcnlkbbgaaDoor.Esc
