/- The program has these functions. -/
import Derived.Test.YtbandpkgjepklaaKGf0
import Derived.Test.YtbandpkgjepklaaProg
import Derived.KernelRfl
set_option linter.unusedVariables false
set_option linter.unusedSimpArgs false
namespace Go.VS
theorem WN {kp : Value → Prop} : Has ⟨Go.Proofs.Try.prog, kp⟩ K8 := Ba 16 Go.Proofs.Try.f16 (by kernel_rfl) (by kernel_rfl) (by kernel_rfl) (by decide) (by kernel_rfl) (by kernel_rfl)
theorem UT {kp : Value → Prop} : Has ⟨Go.Proofs.Try.prog, kp⟩ Je := Ba 20 Go.Proofs.Try.f20 (by kernel_rfl) (by kernel_rfl) (by kernel_rfl) (by decide) (by kernel_rfl) (by kernel_rfl)
theorem LH {kp : Value → Prop} : Has ⟨Go.Proofs.Try.prog, kp⟩ Dn := Ba 74 Go.Proofs.Try.f74 (by kernel_rfl) (by kernel_rfl) (by kernel_rfl) (by decide) (by kernel_rfl) (by kernel_rfl)
theorem Mi {kp : Value → Prop} : Has ⟨Go.Proofs.Try.prog, kp⟩ DG := Ba 53 Go.Proofs.Try.f53 (by kernel_rfl) (by kernel_rfl) (by kernel_rfl) (by decide) (by kernel_rfl) (by kernel_rfl)
theorem LJ {kp : Value → Prop} : Has ⟨Go.Proofs.Try.prog, kp⟩ Dq := Ba 99 Go.Proofs.Try.f99 (by kernel_rfl) (by kernel_rfl) (by kernel_rfl) (by decide) (by kernel_rfl) (by kernel_rfl)
theorem Mg {kp : Value → Prop} : Has ⟨Go.Proofs.Try.prog, kp⟩ DE := Ba 76 Go.Proofs.Try.f76 (by kernel_rfl) (by kernel_rfl) (by kernel_rfl) (by decide) (by kernel_rfl) (by kernel_rfl)
theorem KG {kp : Value → Prop} : Has ⟨Go.Proofs.Try.prog, kp⟩ Da := Ba 54 Go.Proofs.Try.f54 (by kernel_rfl) (by kernel_rfl) (by kernel_rfl) (by decide) (by kernel_rfl) (by kernel_rfl)
theorem Mj {kp : Value → Prop} : Has ⟨Go.Proofs.Try.prog, kp⟩ DH := Ba 97 Go.Proofs.Try.f97 (by kernel_rfl) (by kernel_rfl) (by kernel_rfl) (by decide) (by kernel_rfl) (by kernel_rfl)
theorem N2 {kp : Value → Prop} : Has ⟨Go.Proofs.Try.prog, kp⟩ Ey := Ba 98 Go.Proofs.Try.f98 (by kernel_rfl) (by kernel_rfl) (by kernel_rfl) (by decide) (by kernel_rfl) (by kernel_rfl)
theorem LK {kp : Value → Prop} : Has ⟨Go.Proofs.Try.prog, kp⟩ Dr := Ba 105 Go.Proofs.Try.f105 (by kernel_rfl) (by kernel_rfl) (by kernel_rfl) (by decide) (by kernel_rfl) (by kernel_rfl)
end Go.VS
