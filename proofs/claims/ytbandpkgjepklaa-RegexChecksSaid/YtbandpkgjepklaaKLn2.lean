/- The program has these functions. -/
import Derived.Test.YtbandpkgjepklaaKGf0
import Derived.Test.YtbandpkgjepklaaKGf1
import Derived.Test.YtbandpkgjepklaaKGf2
import Derived.Test.YtbandpkgjepklaaProg
import Derived.KernelRfl
set_option linter.unusedVariables false
set_option linter.unusedSimpArgs false
namespace Go.VS
theorem RW {kp : Value → Prop} : Has ⟨Go.Proofs.Try.prog, kp⟩ G0 := Ba 111 Go.Proofs.Try.f111 (by kernel_rfl) (by kernel_rfl) (by kernel_rfl) (by decide) (by kernel_rfl) (by kernel_rfl)
theorem QL {kp : Value → Prop} : Has ⟨Go.Proofs.Try.prog, kp⟩ Gn := Ba 106 Go.Proofs.Try.f106 (by kernel_rfl) (by kernel_rfl) (by kernel_rfl) (by decide) (by kernel_rfl) (by kernel_rfl)
theorem JX {kp : Value → Prop} : Has ⟨Go.Proofs.Try.prog, kp⟩ C0 := Ba 100 Go.Proofs.Try.f100 (by kernel_rfl) (by kernel_rfl) (by kernel_rfl) (by decide) (by kernel_rfl) (by kernel_rfl)
theorem JV {kp : Value → Prop} : Has ⟨Go.Proofs.Try.prog, kp⟩ CY := Ba 91 Go.Proofs.Try.f91 (by kernel_rfl) (by kernel_rfl) (by kernel_rfl) (by decide) (by kernel_rfl) (by kernel_rfl)
theorem Ia {kp : Value → Prop} : Has ⟨Go.Proofs.Try.prog, kp⟩ Cn := Ba 83 Go.Proofs.Try.f83 (by kernel_rfl) (by kernel_rfl) (by kernel_rfl) (by decide) (by kernel_rfl) (by kernel_rfl)
theorem JU {kp : Value → Prop} : Has ⟨Go.Proofs.Try.prog, kp⟩ CX := Ba 81 Go.Proofs.Try.f81 (by kernel_rfl) (by kernel_rfl) (by kernel_rfl) (by decide) (by kernel_rfl) (by kernel_rfl)
theorem Mh {kp : Value → Prop} : Has ⟨Go.Proofs.Try.prog, kp⟩ DF := Ba 88 Go.Proofs.Try.f88 (by kernel_rfl) (by kernel_rfl) (by kernel_rfl) (by decide) (by kernel_rfl) (by kernel_rfl)
theorem JW {kp : Value → Prop} : Has ⟨Go.Proofs.Try.prog, kp⟩ CZ := Ba 89 Go.Proofs.Try.f89 (by kernel_rfl) (by kernel_rfl) (by kernel_rfl) (by decide) (by kernel_rfl) (by kernel_rfl)
theorem JY {kp : Value → Prop} : Has ⟨Go.Proofs.Try.prog, kp⟩ C1 := Ba 90 Go.Proofs.Try.f90 (by kernel_rfl) (by kernel_rfl) (by kernel_rfl) (by decide) (by kernel_rfl) (by kernel_rfl)
theorem LI {kp : Value → Prop} : Has ⟨Go.Proofs.Try.prog, kp⟩ Dp := Ba 82 Go.Proofs.Try.f82 (by kernel_rfl) (by kernel_rfl) (by kernel_rfl) (by decide) (by kernel_rfl) (by kernel_rfl)
theorem MW {kp : Value → Prop} : Has ⟨Go.Proofs.Try.prog, kp⟩ Ee := Ba 104 Go.Proofs.Try.f104 (by kernel_rfl) (by kernel_rfl) (by kernel_rfl) (by decide) (by kernel_rfl) (by kernel_rfl)
theorem LG {kp : Value → Prop} : Has ⟨Go.Proofs.Try.prog, kp⟩ Dm := Ba 95 Go.Proofs.Try.f95 (by kernel_rfl) (by kernel_rfl) (by kernel_rfl) (by decide) (by kernel_rfl) (by kernel_rfl)
theorem KF {kp : Value → Prop} : Has ⟨Go.Proofs.Try.prog, kp⟩ C9 := Ba 87 Go.Proofs.Try.f87 (by kernel_rfl) (by kernel_rfl) (by kernel_rfl) (by decide) (by kernel_rfl) (by kernel_rfl)
theorem Jt {kp : Value → Prop} : Has ⟨Go.Proofs.Try.prog, kp⟩ BS := Ba 33 Go.Proofs.Try.f33 (by kernel_rfl) (by kernel_rfl) (by kernel_rfl) (by decide) (by kernel_rfl) (by kernel_rfl)
theorem HK {kp : Value → Prop} : Has ⟨Go.Proofs.Try.prog, kp⟩ Bm := Ba 52 Go.Proofs.Try.f52 (by kernel_rfl) (by kernel_rfl) (by kernel_rfl) (by decide) (by kernel_rfl) (by kernel_rfl)
theorem KH {kp : Value → Prop} : Has ⟨Go.Proofs.Try.prog, kp⟩ B8 := Ba 75 Go.Proofs.Try.f75 (by kernel_rfl) (by kernel_rfl) (by kernel_rfl) (by decide) (by kernel_rfl) (by kernel_rfl)
theorem HL {kp : Value → Prop} : Has ⟨Go.Proofs.Try.prog, kp⟩ A4 := Ba 86 Go.Proofs.Try.f86 (by kernel_rfl) (by kernel_rfl) (by kernel_rfl) (by decide) (by kernel_rfl) (by kernel_rfl)
theorem QH {kp : Value → Prop} : Has ⟨Go.Proofs.Try.prog, kp⟩ Gj := Ba 15 Go.Proofs.Try.f15 (by kernel_rfl) (by kernel_rfl) (by kernel_rfl) (by decide) (by kernel_rfl) (by kernel_rfl)
theorem AlJ {kp : Value → Prop} : Has ⟨Go.Proofs.Try.prog, kp⟩ Aly := Ba 8 Go.Proofs.Try.f8 (by kernel_rfl) (by kernel_rfl) (by kernel_rfl) (by decide) (by kernel_rfl) (by kernel_rfl)
end Go.VS
