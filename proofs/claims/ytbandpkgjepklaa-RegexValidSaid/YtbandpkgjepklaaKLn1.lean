/- The program has these functions. -/
import Derived.Test.YtbandpkgjepklaaKGf0
import Derived.Test.YtbandpkgjepklaaKGf1
import Derived.Test.YtbandpkgjepklaaProg
import Derived.KernelRfl
set_option linter.unusedVariables false
set_option linter.unusedSimpArgs false
namespace Go.VS
theorem Mj {kp : Value → Prop} : Has ⟨Go.Proofs.Try.prog, kp⟩ DH := Ba 97 Go.Proofs.Try.f97 (by kernel_rfl) (by kernel_rfl) (by kernel_rfl) (by decide) (by kernel_rfl) (by kernel_rfl)
theorem N2 {kp : Value → Prop} : Has ⟨Go.Proofs.Try.prog, kp⟩ Ey := Ba 98 Go.Proofs.Try.f98 (by kernel_rfl) (by kernel_rfl) (by kernel_rfl) (by decide) (by kernel_rfl) (by kernel_rfl)
theorem LK {kp : Value → Prop} : Has ⟨Go.Proofs.Try.prog, kp⟩ Dr := Ba 105 Go.Proofs.Try.f105 (by kernel_rfl) (by kernel_rfl) (by kernel_rfl) (by decide) (by kernel_rfl) (by kernel_rfl)
theorem Ju {kp : Value → Prop} : Has ⟨Go.Proofs.Try.prog, kp⟩ CG := Ba 96 Go.Proofs.Try.f96 (by kernel_rfl) (by kernel_rfl) (by kernel_rfl) (by decide) (by kernel_rfl) (by kernel_rfl)
theorem RW {kp : Value → Prop} : Has ⟨Go.Proofs.Try.prog, kp⟩ G0 := Ba 111 Go.Proofs.Try.f111 (by kernel_rfl) (by kernel_rfl) (by kernel_rfl) (by decide) (by kernel_rfl) (by kernel_rfl)
theorem QL {kp : Value → Prop} : Has ⟨Go.Proofs.Try.prog, kp⟩ Gn := Ba 106 Go.Proofs.Try.f106 (by kernel_rfl) (by kernel_rfl) (by kernel_rfl) (by decide) (by kernel_rfl) (by kernel_rfl)
theorem JX {kp : Value → Prop} : Has ⟨Go.Proofs.Try.prog, kp⟩ C0 := Ba 100 Go.Proofs.Try.f100 (by kernel_rfl) (by kernel_rfl) (by kernel_rfl) (by decide) (by kernel_rfl) (by kernel_rfl)
theorem JV {kp : Value → Prop} : Has ⟨Go.Proofs.Try.prog, kp⟩ CY := Ba 91 Go.Proofs.Try.f91 (by kernel_rfl) (by kernel_rfl) (by kernel_rfl) (by decide) (by kernel_rfl) (by kernel_rfl)
theorem Ia {kp : Value → Prop} : Has ⟨Go.Proofs.Try.prog, kp⟩ Cn := Ba 83 Go.Proofs.Try.f83 (by kernel_rfl) (by kernel_rfl) (by kernel_rfl) (by decide) (by kernel_rfl) (by kernel_rfl)
theorem JU {kp : Value → Prop} : Has ⟨Go.Proofs.Try.prog, kp⟩ CX := Ba 81 Go.Proofs.Try.f81 (by kernel_rfl) (by kernel_rfl) (by kernel_rfl) (by decide) (by kernel_rfl) (by kernel_rfl)
theorem Mh {kp : Value → Prop} : Has ⟨Go.Proofs.Try.prog, kp⟩ DF := Ba 88 Go.Proofs.Try.f88 (by kernel_rfl) (by kernel_rfl) (by kernel_rfl) (by decide) (by kernel_rfl) (by kernel_rfl)
theorem JW {kp : Value → Prop} : Has ⟨Go.Proofs.Try.prog, kp⟩ CZ := Ba 89 Go.Proofs.Try.f89 (by kernel_rfl) (by kernel_rfl) (by kernel_rfl) (by decide) (by kernel_rfl) (by kernel_rfl)
end Go.VS
