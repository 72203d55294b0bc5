/- The document's examples of chapter 10 are true of the program. -/
import Derived.Test.YtcikjghmelbkaaaDoorBas
import Derived.Test.YtcikjghmelbkaaaDoorHp6
namespace Go.Proofs.YtcikjghmelbkaaaDoor.Esc
open Go.RowKit Go.Proofs.YtcikjghmelbkaaaDoor.Hp Go.Proofs.YtcikjghmelbkaaaDoorW.PrintWords Go.Proofs.YtcikjghmelbkaaaDoorW.PrintLast
theorem awake_ev : Ev (fun k => lanyardlaw10_awake.f k) true := Ev.of (fun k => lanyardlaw10_awake.mono k) (k := 600) (by decide +kernel)
end Go.Proofs.YtcikjghmelbkaaaDoor.Esc
