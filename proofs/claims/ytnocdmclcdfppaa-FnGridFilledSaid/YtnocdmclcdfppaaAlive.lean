/- The laws' sign of life is true. No condition. -/
import Derived.Test.YtnocdmclcdfppaaWWords
import Derived.Test.YtnocdmclcdfppaaWMore
import Derived.Test.YtnocdmclcdfppaaP5
namespace Go.Proofs.Ytnocdmclcdfppaa.Pure
set_option linter.unusedSimpArgs false
set_option linter.unusedVariables false
open Go.RowKit Go.Proofs.YtnocdmclcdfppaaW.PrintWords Go.Proofs.YtnocdmclcdfppaaW.PrintMore Go.Proofs.Ytnocdmclcdfppaa.P

theorem alive_ev : Ev (fun k => laws_alive.f k) true := Ev.of laws_alive.mono (k := 20) (by decide +kernel)

end Go.Proofs.Ytnocdmclcdfppaa.Pure
