/- ClusterSetups: the law's run of some setups. -/
import Derived.Test.YtkkbmgapcidmnaaGreatZCaw
set_option linter.unusedVariables false
open Go Go.Cf
namespace Go.Ce
noncomputable section
open Go.Proofs.Tryz
theorem sR111 : isTrue ((eng prog [] cutW 2000 60).call 3 [.agg #[vi 1, vi 1, vi 1, tkn 0]] St0) = true := by kernel_rfl
theorem sR414 : isTrue ((eng prog [] cutW 2000 60).call 3 [.agg #[vi 4, vi 1, vi 4, tkn 0]] St0) = true := by kernel_rfl
theorem sR421 : isTrue ((eng prog [] cutW 2000 60).call 3 [.agg #[vi 4, vi 2, vi 1, tkn 0]] St0) = true := by kernel_rfl
end
end Go.Ce
