/- ClusterSetups: the law's run of some setups. -/
import Derived.Test.YtkkbmgapcidmnaaGreatZCaw
set_option linter.unusedVariables false
open Go Go.Cf
namespace Go.Ce
noncomputable section
open Go.Proofs.Tryz
theorem sR114 : isTrue ((eng prog [] cutW 2000 60).call 3 [.agg #[vi 1, vi 1, vi 4, tkn 0]] St0) = true := by kernel_rfl
theorem sR312 : isTrue ((eng prog [] cutW 2000 60).call 3 [.agg #[vi 3, vi 1, vi 2, tkn 0]] St0) = true := by kernel_rfl
theorem sR413 : isTrue ((eng prog [] cutW 2000 60).call 3 [.agg #[vi 4, vi 1, vi 3, tkn 0]] St0) = true := by kernel_rfl
end
end Go.Ce
