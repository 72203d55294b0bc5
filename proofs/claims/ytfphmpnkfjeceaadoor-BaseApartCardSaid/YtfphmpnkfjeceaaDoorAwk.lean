/- The document's examples of chapter 2 are true of the program. -/
import Derived.Test.YtfphmpnkfjeceaaDoorBas
import Derived.Test.YtfphmpnkfjeceaaDoorHp2
namespace Go.Proofs.YtfphmpnkfjeceaaDoor.Esc
open Go.RowKit Go.Proofs.YtfphmpnkfjeceaaDoor.Hp Go.Proofs.YtfphmpnkfjeceaaDoorW.PrintWords Go.Proofs.YtfphmpnkfjeceaaDoorW.PrintLast
theorem awake_ev : Ev (fun k => lanyardlaw02_awake.f k) true := Ev.of (fun k => lanyardlaw02_awake.mono k) (k := 60) (by decide +kernel)
end Go.Proofs.YtfphmpnkfjeceaaDoor.Esc
