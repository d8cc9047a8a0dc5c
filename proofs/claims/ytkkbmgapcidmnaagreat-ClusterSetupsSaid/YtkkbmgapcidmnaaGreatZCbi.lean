/- ClusterSetups: the law's run of setups that may not be. -/
import Derived.Test.YtkkbmgapcidmnaaGreatZCaw
set_option linter.unusedVariables false
open Go Go.Cf
namespace Go.Ce
noncomputable section
open Go.Proofs.Tryz
theorem iPneg (k : Nat) : isTrue ((eng prog [] cutW 2000 60).call 3 [.agg #[.int .i64 (.negSucc k), tkn 1, tkn 2, tkn 0]] St0) = true := by kernel_rfl
theorem iPzero (k : Nat) : isTrue ((eng prog [] cutW 2000 60).call 3 [.agg #[vi 0, tkn 1, tkn 2, tkn 0]] St0) = true := by kernel_rfl
theorem iPbig (k : Nat) : isTrue ((eng prog [] cutW 2000 60).call 3 [.agg #[.int .i64 (.ofNat (k + 5)), tkn 1, tkn 2, tkn 0]] St0) = true := by kernel_rfl
theorem iMneg1 (k : Nat) : isTrue ((eng prog [] cutW 2000 60).call 3 [.agg #[vi 1, .int .i64 (.negSucc k), tkn 2, tkn 0]] St0) = true := by kernel_rfl
theorem iMzero1 (k : Nat) : isTrue ((eng prog [] cutW 2000 60).call 3 [.agg #[vi 1, vi 0, tkn 2, tkn 0]] St0) = true := by kernel_rfl
theorem iMbig1 (k : Nat) : isTrue ((eng prog [] cutW 2000 60).call 3 [.agg #[vi 1, .int .i64 (.ofNat (k + 2)), tkn 2, tkn 0]] St0) = true := by kernel_rfl
theorem iMneg2 (k : Nat) : isTrue ((eng prog [] cutW 2000 60).call 3 [.agg #[vi 2, .int .i64 (.negSucc k), tkn 2, tkn 0]] St0) = true := by kernel_rfl
theorem iMzero2 (k : Nat) : isTrue ((eng prog [] cutW 2000 60).call 3 [.agg #[vi 2, vi 0, tkn 2, tkn 0]] St0) = true := by kernel_rfl
theorem iMbig2 (k : Nat) : isTrue ((eng prog [] cutW 2000 60).call 3 [.agg #[vi 2, .int .i64 (.ofNat (k + 3)), tkn 2, tkn 0]] St0) = true := by kernel_rfl
theorem iMneg3 (k : Nat) : isTrue ((eng prog [] cutW 2000 60).call 3 [.agg #[vi 3, .int .i64 (.negSucc k), tkn 2, tkn 0]] St0) = true := by kernel_rfl
theorem iMzero3 (k : Nat) : isTrue ((eng prog [] cutW 2000 60).call 3 [.agg #[vi 3, vi 0, tkn 2, tkn 0]] St0) = true := by kernel_rfl
theorem iMbig3 (k : Nat) : isTrue ((eng prog [] cutW 2000 60).call 3 [.agg #[vi 3, .int .i64 (.ofNat (k + 4)), tkn 2, tkn 0]] St0) = true := by kernel_rfl
theorem iMneg4 (k : Nat) : isTrue ((eng prog [] cutW 2000 60).call 3 [.agg #[vi 4, .int .i64 (.negSucc k), tkn 2, tkn 0]] St0) = true := by kernel_rfl
theorem iMzero4 (k : Nat) : isTrue ((eng prog [] cutW 2000 60).call 3 [.agg #[vi 4, vi 0, tkn 2, tkn 0]] St0) = true := by kernel_rfl
theorem iMbig4 (k : Nat) : isTrue ((eng prog [] cutW 2000 60).call 3 [.agg #[vi 4, .int .i64 (.ofNat (k + 5)), tkn 2, tkn 0]] St0) = true := by kernel_rfl
theorem iNneg11 (k : Nat) : isTrue ((eng prog [] cutW 2000 60).call 3 [.agg #[vi 1, vi 1, .int .i64 (.negSucc k), tkn 0]] St0) = true := by kernel_rfl
theorem iNzero11 (k : Nat) : isTrue ((eng prog [] cutW 2000 60).call 3 [.agg #[vi 1, vi 1, vi 0, tkn 0]] St0) = true := by kernel_rfl
theorem iNbig11 (k : Nat) : isTrue ((eng prog [] cutW 2000 60).call 3 [.agg #[vi 1, vi 1, .int .i64 (.ofNat (k + 5)), tkn 0]] St0) = true := by kernel_rfl
theorem iNneg21 (k : Nat) : isTrue ((eng prog [] cutW 2000 60).call 3 [.agg #[vi 2, vi 1, .int .i64 (.negSucc k), tkn 0]] St0) = true := by kernel_rfl
theorem iNzero21 (k : Nat) : isTrue ((eng prog [] cutW 2000 60).call 3 [.agg #[vi 2, vi 1, vi 0, tkn 0]] St0) = true := by kernel_rfl
theorem iNbig21 (k : Nat) : isTrue ((eng prog [] cutW 2000 60).call 3 [.agg #[vi 2, vi 1, .int .i64 (.ofNat (k + 5)), tkn 0]] St0) = true := by kernel_rfl
theorem iNneg22 (k : Nat) : isTrue ((eng prog [] cutW 2000 60).call 3 [.agg #[vi 2, vi 2, .int .i64 (.negSucc k), tkn 0]] St0) = true := by kernel_rfl
theorem iNzero22 (k : Nat) : isTrue ((eng prog [] cutW 2000 60).call 3 [.agg #[vi 2, vi 2, vi 0, tkn 0]] St0) = true := by kernel_rfl
theorem iNbig22 (k : Nat) : isTrue ((eng prog [] cutW 2000 60).call 3 [.agg #[vi 2, vi 2, .int .i64 (.ofNat (k + 5)), tkn 0]] St0) = true := by kernel_rfl
theorem iNneg31 (k : Nat) : isTrue ((eng prog [] cutW 2000 60).call 3 [.agg #[vi 3, vi 1, .int .i64 (.negSucc k), tkn 0]] St0) = true := by kernel_rfl
theorem iNzero31 (k : Nat) : isTrue ((eng prog [] cutW 2000 60).call 3 [.agg #[vi 3, vi 1, vi 0, tkn 0]] St0) = true := by kernel_rfl
theorem iNbig31 (k : Nat) : isTrue ((eng prog [] cutW 2000 60).call 3 [.agg #[vi 3, vi 1, .int .i64 (.ofNat (k + 5)), tkn 0]] St0) = true := by kernel_rfl
theorem iNneg32 (k : Nat) : isTrue ((eng prog [] cutW 2000 60).call 3 [.agg #[vi 3, vi 2, .int .i64 (.negSucc k), tkn 0]] St0) = true := by kernel_rfl
theorem iNzero32 (k : Nat) : isTrue ((eng prog [] cutW 2000 60).call 3 [.agg #[vi 3, vi 2, vi 0, tkn 0]] St0) = true := by kernel_rfl
theorem iNbig32 (k : Nat) : isTrue ((eng prog [] cutW 2000 60).call 3 [.agg #[vi 3, vi 2, .int .i64 (.ofNat (k + 5)), tkn 0]] St0) = true := by kernel_rfl
theorem iNneg33 (k : Nat) : isTrue ((eng prog [] cutW 2000 60).call 3 [.agg #[vi 3, vi 3, .int .i64 (.negSucc k), tkn 0]] St0) = true := by kernel_rfl
theorem iNzero33 (k : Nat) : isTrue ((eng prog [] cutW 2000 60).call 3 [.agg #[vi 3, vi 3, vi 0, tkn 0]] St0) = true := by kernel_rfl
theorem iNbig33 (k : Nat) : isTrue ((eng prog [] cutW 2000 60).call 3 [.agg #[vi 3, vi 3, .int .i64 (.ofNat (k + 5)), tkn 0]] St0) = true := by kernel_rfl
theorem iNneg41 (k : Nat) : isTrue ((eng prog [] cutW 2000 60).call 3 [.agg #[vi 4, vi 1, .int .i64 (.negSucc k), tkn 0]] St0) = true := by kernel_rfl
theorem iNzero41 (k : Nat) : isTrue ((eng prog [] cutW 2000 60).call 3 [.agg #[vi 4, vi 1, vi 0, tkn 0]] St0) = true := by kernel_rfl
theorem iNbig41 (k : Nat) : isTrue ((eng prog [] cutW 2000 60).call 3 [.agg #[vi 4, vi 1, .int .i64 (.ofNat (k + 5)), tkn 0]] St0) = true := by kernel_rfl
theorem iNneg42 (k : Nat) : isTrue ((eng prog [] cutW 2000 60).call 3 [.agg #[vi 4, vi 2, .int .i64 (.negSucc k), tkn 0]] St0) = true := by kernel_rfl
theorem iNzero42 (k : Nat) : isTrue ((eng prog [] cutW 2000 60).call 3 [.agg #[vi 4, vi 2, vi 0, tkn 0]] St0) = true := by kernel_rfl
theorem iNbig42 (k : Nat) : isTrue ((eng prog [] cutW 2000 60).call 3 [.agg #[vi 4, vi 2, .int .i64 (.ofNat (k + 5)), tkn 0]] St0) = true := by kernel_rfl
theorem iNneg43 (k : Nat) : isTrue ((eng prog [] cutW 2000 60).call 3 [.agg #[vi 4, vi 3, .int .i64 (.negSucc k), tkn 0]] St0) = true := by kernel_rfl
theorem iNzero43 (k : Nat) : isTrue ((eng prog [] cutW 2000 60).call 3 [.agg #[vi 4, vi 3, vi 0, tkn 0]] St0) = true := by kernel_rfl
theorem iNbig43 (k : Nat) : isTrue ((eng prog [] cutW 2000 60).call 3 [.agg #[vi 4, vi 3, .int .i64 (.ofNat (k + 5)), tkn 0]] St0) = true := by kernel_rfl
theorem iNneg44 (k : Nat) : isTrue ((eng prog [] cutW 2000 60).call 3 [.agg #[vi 4, vi 4, .int .i64 (.negSucc k), tkn 0]] St0) = true := by kernel_rfl
theorem iNzero44 (k : Nat) : isTrue ((eng prog [] cutW 2000 60).call 3 [.agg #[vi 4, vi 4, vi 0, tkn 0]] St0) = true := by kernel_rfl
theorem iNbig44 (k : Nat) : isTrue ((eng prog [] cutW 2000 60).call 3 [.agg #[vi 4, vi 4, .int .i64 (.ofNat (k + 5)), tkn 0]] St0) = true := by kernel_rfl
end
end Go.Ce
