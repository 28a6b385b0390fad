/- The program has these functions. -/
import Derived.Test.YtbandpkgjepklaaKGf0
import Derived.Test.YtbandpkgjepklaaKGf1
import Derived.Test.YtbandpkgjepklaaKGf2
import Derived.Test.YtbandpkgjepklaaProg
import Derived.KernelRfl
set_option linter.unusedVariables false
set_option linter.unusedSimpArgs false
namespace Go.VS
theorem Ahm {kp : Value → Prop} : Has ⟨Go.Proofs.Try.prog, kp⟩ AbR := Ba 19 Go.Proofs.Try.f19 (by kernel_rfl) (by kernel_rfl) (by kernel_rfl) (by decide) (by kernel_rfl) (by kernel_rfl)
theorem Ahh {kp : Value → Prop} : Has ⟨Go.Proofs.Try.prog, kp⟩ Aei := Ba 25 Go.Proofs.Try.f25 (by kernel_rfl) (by kernel_rfl) (by kernel_rfl) (by decide) (by kernel_rfl) (by kernel_rfl)
theorem Ag5 {kp : Value → Prop} : Has ⟨Go.Proofs.Try.prog, kp⟩ Ad6 := Ba 61 Go.Proofs.Try.f61 (by kernel_rfl) (by kernel_rfl) (by kernel_rfl) (by decide) (by kernel_rfl) (by kernel_rfl)
theorem AgD {kp : Value → Prop} : Has ⟨Go.Proofs.Try.prog, kp⟩ Ad1 := Ba 41 Go.Proofs.Try.f41 (by kernel_rfl) (by kernel_rfl) (by kernel_rfl) (by decide) (by kernel_rfl) (by kernel_rfl)
theorem Ag4 {kp : Value → Prop} : Has ⟨Go.Proofs.Try.prog, kp⟩ Ad5 := Ba 23 Go.Proofs.Try.f23 (by kernel_rfl) (by kernel_rfl) (by kernel_rfl) (by decide) (by kernel_rfl) (by kernel_rfl)
theorem QF {kp : Value → Prop} : Has ⟨Go.Proofs.Try.prog, kp⟩ Gh := Ba 10 Go.Proofs.Try.f10 (by kernel_rfl) (by kernel_rfl) (by kernel_rfl) (by decide) (by kernel_rfl) (by kernel_rfl)
theorem LH {kp : Value → Prop} : Has ⟨Go.Proofs.Try.prog, kp⟩ Dn := Ba 74 Go.Proofs.Try.f74 (by kernel_rfl) (by kernel_rfl) (by kernel_rfl) (by decide) (by kernel_rfl) (by kernel_rfl)
theorem Mi {kp : Value → Prop} : Has ⟨Go.Proofs.Try.prog, kp⟩ DG := Ba 53 Go.Proofs.Try.f53 (by kernel_rfl) (by kernel_rfl) (by kernel_rfl) (by decide) (by kernel_rfl) (by kernel_rfl)
theorem LJ {kp : Value → Prop} : Has ⟨Go.Proofs.Try.prog, kp⟩ Dq := Ba 99 Go.Proofs.Try.f99 (by kernel_rfl) (by kernel_rfl) (by kernel_rfl) (by decide) (by kernel_rfl) (by kernel_rfl)
theorem Mg {kp : Value → Prop} : Has ⟨Go.Proofs.Try.prog, kp⟩ DE := Ba 76 Go.Proofs.Try.f76 (by kernel_rfl) (by kernel_rfl) (by kernel_rfl) (by decide) (by kernel_rfl) (by kernel_rfl)
theorem KG {kp : Value → Prop} : Has ⟨Go.Proofs.Try.prog, kp⟩ Da := Ba 54 Go.Proofs.Try.f54 (by kernel_rfl) (by kernel_rfl) (by kernel_rfl) (by decide) (by kernel_rfl) (by kernel_rfl)
theorem Mj {kp : Value → Prop} : Has ⟨Go.Proofs.Try.prog, kp⟩ DH := Ba 97 Go.Proofs.Try.f97 (by kernel_rfl) (by kernel_rfl) (by kernel_rfl) (by decide) (by kernel_rfl) (by kernel_rfl)
theorem N2 {kp : Value → Prop} : Has ⟨Go.Proofs.Try.prog, kp⟩ Ey := Ba 98 Go.Proofs.Try.f98 (by kernel_rfl) (by kernel_rfl) (by kernel_rfl) (by decide) (by kernel_rfl) (by kernel_rfl)
theorem LK {kp : Value → Prop} : Has ⟨Go.Proofs.Try.prog, kp⟩ Dr := Ba 105 Go.Proofs.Try.f105 (by kernel_rfl) (by kernel_rfl) (by kernel_rfl) (by decide) (by kernel_rfl) (by kernel_rfl)
theorem Ju {kp : Value → Prop} : Has ⟨Go.Proofs.Try.prog, kp⟩ CG := Ba 96 Go.Proofs.Try.f96 (by kernel_rfl) (by kernel_rfl) (by kernel_rfl) (by decide) (by kernel_rfl) (by kernel_rfl)
theorem RW {kp : Value → Prop} : Has ⟨Go.Proofs.Try.prog, kp⟩ G0 := Ba 111 Go.Proofs.Try.f111 (by kernel_rfl) (by kernel_rfl) (by kernel_rfl) (by decide) (by kernel_rfl) (by kernel_rfl)
theorem QL {kp : Value → Prop} : Has ⟨Go.Proofs.Try.prog, kp⟩ Gn := Ba 106 Go.Proofs.Try.f106 (by kernel_rfl) (by kernel_rfl) (by kernel_rfl) (by decide) (by kernel_rfl) (by kernel_rfl)
theorem JX {kp : Value → Prop} : Has ⟨Go.Proofs.Try.prog, kp⟩ C0 := Ba 100 Go.Proofs.Try.f100 (by kernel_rfl) (by kernel_rfl) (by kernel_rfl) (by decide) (by kernel_rfl) (by kernel_rfl)
theorem JV {kp : Value → Prop} : Has ⟨Go.Proofs.Try.prog, kp⟩ CY := Ba 91 Go.Proofs.Try.f91 (by kernel_rfl) (by kernel_rfl) (by kernel_rfl) (by decide) (by kernel_rfl) (by kernel_rfl)
theorem Ia {kp : Value → Prop} : Has ⟨Go.Proofs.Try.prog, kp⟩ Cn := Ba 83 Go.Proofs.Try.f83 (by kernel_rfl) (by kernel_rfl) (by kernel_rfl) (by decide) (by kernel_rfl) (by kernel_rfl)
theorem JU {kp : Value → Prop} : Has ⟨Go.Proofs.Try.prog, kp⟩ CX := Ba 81 Go.Proofs.Try.f81 (by kernel_rfl) (by kernel_rfl) (by kernel_rfl) (by decide) (by kernel_rfl) (by kernel_rfl)
theorem Mh {kp : Value → Prop} : Has ⟨Go.Proofs.Try.prog, kp⟩ DF := Ba 88 Go.Proofs.Try.f88 (by kernel_rfl) (by kernel_rfl) (by kernel_rfl) (by decide) (by kernel_rfl) (by kernel_rfl)
end Go.VS
