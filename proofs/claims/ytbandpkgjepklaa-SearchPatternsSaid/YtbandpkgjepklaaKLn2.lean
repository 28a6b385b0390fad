/- The program has these functions. -/
import Derived.Test.YtbandpkgjepklaaKGf0
import Derived.Test.YtbandpkgjepklaaKGf1
import Derived.Test.YtbandpkgjepklaaKGf2
import Derived.Test.YtbandpkgjepklaaProg
import Derived.KernelRfl
set_option linter.unusedVariables false
set_option linter.unusedSimpArgs false
namespace Go.VS
theorem JW {kp : Value → Prop} : Has ⟨Go.Proofs.Try.prog, kp⟩ CZ := Ba 89 Go.Proofs.Try.f89 (by kernel_rfl) (by kernel_rfl) (by kernel_rfl) (by decide) (by kernel_rfl) (by kernel_rfl)
theorem JY {kp : Value → Prop} : Has ⟨Go.Proofs.Try.prog, kp⟩ C1 := Ba 90 Go.Proofs.Try.f90 (by kernel_rfl) (by kernel_rfl) (by kernel_rfl) (by decide) (by kernel_rfl) (by kernel_rfl)
theorem LI {kp : Value → Prop} : Has ⟨Go.Proofs.Try.prog, kp⟩ Dp := Ba 82 Go.Proofs.Try.f82 (by kernel_rfl) (by kernel_rfl) (by kernel_rfl) (by decide) (by kernel_rfl) (by kernel_rfl)
theorem MW {kp : Value → Prop} : Has ⟨Go.Proofs.Try.prog, kp⟩ Ee := Ba 104 Go.Proofs.Try.f104 (by kernel_rfl) (by kernel_rfl) (by kernel_rfl) (by decide) (by kernel_rfl) (by kernel_rfl)
theorem LG {kp : Value → Prop} : Has ⟨Go.Proofs.Try.prog, kp⟩ Dm := Ba 95 Go.Proofs.Try.f95 (by kernel_rfl) (by kernel_rfl) (by kernel_rfl) (by decide) (by kernel_rfl) (by kernel_rfl)
theorem KF {kp : Value → Prop} : Has ⟨Go.Proofs.Try.prog, kp⟩ C9 := Ba 87 Go.Proofs.Try.f87 (by kernel_rfl) (by kernel_rfl) (by kernel_rfl) (by decide) (by kernel_rfl) (by kernel_rfl)
theorem Jt {kp : Value → Prop} : Has ⟨Go.Proofs.Try.prog, kp⟩ BS := Ba 33 Go.Proofs.Try.f33 (by kernel_rfl) (by kernel_rfl) (by kernel_rfl) (by decide) (by kernel_rfl) (by kernel_rfl)
theorem HK {kp : Value → Prop} : Has ⟨Go.Proofs.Try.prog, kp⟩ Bm := Ba 52 Go.Proofs.Try.f52 (by kernel_rfl) (by kernel_rfl) (by kernel_rfl) (by decide) (by kernel_rfl) (by kernel_rfl)
theorem KH {kp : Value → Prop} : Has ⟨Go.Proofs.Try.prog, kp⟩ B8 := Ba 75 Go.Proofs.Try.f75 (by kernel_rfl) (by kernel_rfl) (by kernel_rfl) (by decide) (by kernel_rfl) (by kernel_rfl)
theorem HL {kp : Value → Prop} : Has ⟨Go.Proofs.Try.prog, kp⟩ A4 := Ba 86 Go.Proofs.Try.f86 (by kernel_rfl) (by kernel_rfl) (by kernel_rfl) (by decide) (by kernel_rfl) (by kernel_rfl)
theorem Afc {kp : Value → Prop} : Has ⟨Go.Proofs.Try.prog, kp⟩ Adp := Ba 47 Go.Proofs.Try.f47 (by kernel_rfl) (by kernel_rfl) (by kernel_rfl) (by decide) (by kernel_rfl) (by kernel_rfl)
theorem Agc {kp : Value → Prop} : Has ⟨Go.Proofs.Try.prog, kp⟩ AdP := Ba 28 Go.Proofs.Try.f28 (by kernel_rfl) (by kernel_rfl) (by kernel_rfl) (by decide) (by kernel_rfl) (by kernel_rfl)
theorem AeL {kp : Value → Prop} : Has ⟨Go.Proofs.Try.prog, kp⟩ Adb := Ba 48 Go.Proofs.Try.f48 (by kernel_rfl) (by kernel_rfl) (by kernel_rfl) (by decide) (by kernel_rfl) (by kernel_rfl)
theorem AeD {kp : Value → Prop} : Has ⟨Go.Proofs.Try.prog, kp⟩ Ac5 := Ba 66 Go.Proofs.Try.f66 (by kernel_rfl) (by kernel_rfl) (by kernel_rfl) (by decide) (by kernel_rfl) (by kernel_rfl)
theorem AeE {kp : Value → Prop} : Has ⟨Go.Proofs.Try.prog, kp⟩ Ac6 := Ba 67 Go.Proofs.Try.f67 (by kernel_rfl) (by kernel_rfl) (by kernel_rfl) (by decide) (by kernel_rfl) (by kernel_rfl)
theorem Ahj {kp : Value → Prop} : Has ⟨Go.Proofs.Try.prog, kp⟩ Aek := Ba 70 Go.Proofs.Try.f70 (by kernel_rfl) (by kernel_rfl) (by kernel_rfl) (by decide) (by kernel_rfl) (by kernel_rfl)
theorem Ahl {kp : Value → Prop} : Has ⟨Go.Proofs.Try.prog, kp⟩ Aem := Ba 73 Go.Proofs.Try.f73 (by kernel_rfl) (by kernel_rfl) (by kernel_rfl) (by decide) (by kernel_rfl) (by kernel_rfl)
theorem AgC {kp : Value → Prop} : Has ⟨Go.Proofs.Try.prog, kp⟩ Ad0 := Ba 72 Go.Proofs.Try.f72 (by kernel_rfl) (by kernel_rfl) (by kernel_rfl) (by decide) (by kernel_rfl) (by kernel_rfl)
theorem Ahk {kp : Value → Prop} : Has ⟨Go.Proofs.Try.prog, kp⟩ Ael := Ba 51 Go.Proofs.Try.f51 (by kernel_rfl) (by kernel_rfl) (by kernel_rfl) (by decide) (by kernel_rfl) (by kernel_rfl)
theorem Ahi {kp : Value → Prop} : Has ⟨Go.Proofs.Try.prog, kp⟩ Aej := Ba 30 Go.Proofs.Try.f30 (by kernel_rfl) (by kernel_rfl) (by kernel_rfl) (by decide) (by kernel_rfl) (by kernel_rfl)
theorem Afg {kp : Value → Prop} : Has ⟨Go.Proofs.Try.prog, kp⟩ Ads := Ba 9 Go.Proofs.Try.f9 (by kernel_rfl) (by kernel_rfl) (by kernel_rfl) (by decide) (by kernel_rfl) (by kernel_rfl)
end Go.VS
