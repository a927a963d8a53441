/- The chapter's examples, reckoned. No program. -/
import Derived.Test.YtahaoakolgomdaaM0
namespace Go.Proofs.Ytahaoakolgomdaa
set_option linter.unusedVariables false
set_option linter.unusedSimpArgs false
theorem ex_sum : (crc [49, 50, 51, 52, 53, 54, 55, 56, 57]).toNat = 3808858755 := by decide +kernel
theorem ex_put : putS [] = [0xc5, 0, 0, 0xd2, 0x77, 0x61, 0xf1] := by decide +kernel
theorem ex_all : allS [0xc5, 0, 0, 0xd2, 0x77, 0x61, 0xf1] = ([[]], 7, 0) := by decide +kernel
theorem ex_get : getS [0xc5, 0, 0, 0xd2, 0x77, 0x61, 0xf1] 8 = ([], 0, 2) := by decide +kernel
end Go.Proofs.Ytahaoakolgomdaa
