/- What the functions compute, as Lean functions (none: a panic, an empty purse, or a size that is not followed). Printed by a program of ours out of the translation. -/
import Derived.Test.YteeafoagaaedcaaZMt1
import Derived.Test.YteeafoagaaedcaaZMt2
namespace Go.Cf.M
open Go Go.Cf
set_option linter.unusedVariables false
noncomputable section
def store_Store_All_nil0 (N : Nat) (a1 : ByteArray) (a2 : ByteArray) : Option (Unit) :=
  (some ())
def store_Store_All_1_nil0 (N : Nat) {σ : Type} (B : σ → T_api_Ver → Option (σ × Bool)) (a4 : ByteArray) (a6 : ByteArray) (y1 : σ) : Option σ :=
  (some y1)
end
end Go.Cf.M
