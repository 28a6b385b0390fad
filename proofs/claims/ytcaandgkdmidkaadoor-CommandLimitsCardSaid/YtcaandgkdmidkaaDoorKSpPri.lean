/- Quoted words are printable. -/
import Derived.Test.YtcaandgkdmidkaaDoorKSpScan
import Derived.Test.YtcaandgkdmidkaaDoorKSpNb
set_option linter.unusedVariables false
set_option linter.unusedSimpArgs false
namespace Go.VS
variable {P : Pg}
theorem Yd : ∀ n : Nat, n < 256 → (UInt8.ofNat (48 + n / 64)).toNat = 48 + n / 64 ∧ (UInt8.ofNat (48 + n / 8 % 8)).toNat = 48 + n / 8 % 8 ∧ (UInt8.ofNat (48 + n % 8)).toNat = 48 + n % 8 := by decide +kernel
end Go.VS
