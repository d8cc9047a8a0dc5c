/- awake: part 10 of its run. -/
import Derived.Test.YtkkbmgapcidmnaaGreatZCs
open Go Go.Cf
namespace Go.Ce
noncomputable section
open Go.Proofs.Tryz
theorem aN10 : runs prog [(191, 2)] (cutSum 197) 2000 60 eN10 = true := by kernel_rfl
end
end Go.Ce
