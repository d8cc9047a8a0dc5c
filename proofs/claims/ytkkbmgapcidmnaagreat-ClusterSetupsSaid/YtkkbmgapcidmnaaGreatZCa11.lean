/- awake: part 11 of its run. -/
import Derived.Test.YtkkbmgapcidmnaaGreatZCs
open Go Go.Cf
namespace Go.Ce
noncomputable section
open Go.Proofs.Tryz
theorem aN11 : runs prog [(191, 2)] (cutSum 197) 2000 60 eN11 = true := by kernel_rfl
end
end Go.Ce
