/- The program has these functions. -/
import Derived.Test.YtbandpkgjepklaaKGf0
import Derived.Test.YtbandpkgjepklaaKGf1
import Derived.Test.YtbandpkgjepklaaProg
import Derived.KernelRfl
set_option linter.unusedVariables false
set_option linter.unusedSimpArgs false
namespace Go.VS
theorem WN {kp : Value → Prop} : Has ⟨Go.Proofs.Try.prog, kp⟩ K8 := Ba 16 Go.Proofs.Try.f16 (by kernel_rfl) (by kernel_rfl) (by kernel_rfl) (by decide) (by kernel_rfl) (by kernel_rfl)
theorem Yq {kp : Value → Prop} : Has ⟨Go.Proofs.Try.prog, kp⟩ MA := Ba 31 Go.Proofs.Try.f31 (by kernel_rfl) (by kernel_rfl) (by kernel_rfl) (by decide) (by kernel_rfl) (by kernel_rfl)
theorem AgE {kp : Value → Prop} : Has ⟨Go.Proofs.Try.prog, kp⟩ AbM := Ba 60 Go.Proofs.Try.f60 (by kernel_rfl) (by kernel_rfl) (by kernel_rfl) (by decide) (by kernel_rfl) (by kernel_rfl)
theorem AhH {kp : Value → Prop} : Has ⟨Go.Proofs.Try.prog, kp⟩ AbU := Ba 40 Go.Proofs.Try.f40 (by kernel_rfl) (by kernel_rfl) (by kernel_rfl) (by decide) (by kernel_rfl) (by kernel_rfl)
theorem Ahm {kp : Value → Prop} : Has ⟨Go.Proofs.Try.prog, kp⟩ AbR := Ba 19 Go.Proofs.Try.f19 (by kernel_rfl) (by kernel_rfl) (by kernel_rfl) (by decide) (by kernel_rfl) (by kernel_rfl)
theorem UT {kp : Value → Prop} : Has ⟨Go.Proofs.Try.prog, kp⟩ Je := Ba 20 Go.Proofs.Try.f20 (by kernel_rfl) (by kernel_rfl) (by kernel_rfl) (by decide) (by kernel_rfl) (by kernel_rfl)
theorem QF {kp : Value → Prop} : Has ⟨Go.Proofs.Try.prog, kp⟩ Gh := Ba 10 Go.Proofs.Try.f10 (by kernel_rfl) (by kernel_rfl) (by kernel_rfl) (by decide) (by kernel_rfl) (by kernel_rfl)
theorem LH {kp : Value → Prop} : Has ⟨Go.Proofs.Try.prog, kp⟩ Dn := Ba 74 Go.Proofs.Try.f74 (by kernel_rfl) (by kernel_rfl) (by kernel_rfl) (by decide) (by kernel_rfl) (by kernel_rfl)
theorem Mi {kp : Value → Prop} : Has ⟨Go.Proofs.Try.prog, kp⟩ DG := Ba 53 Go.Proofs.Try.f53 (by kernel_rfl) (by kernel_rfl) (by kernel_rfl) (by decide) (by kernel_rfl) (by kernel_rfl)
theorem LJ {kp : Value → Prop} : Has ⟨Go.Proofs.Try.prog, kp⟩ Dq := Ba 99 Go.Proofs.Try.f99 (by kernel_rfl) (by kernel_rfl) (by kernel_rfl) (by decide) (by kernel_rfl) (by kernel_rfl)
theorem Mg {kp : Value → Prop} : Has ⟨Go.Proofs.Try.prog, kp⟩ DE := Ba 76 Go.Proofs.Try.f76 (by kernel_rfl) (by kernel_rfl) (by kernel_rfl) (by decide) (by kernel_rfl) (by kernel_rfl)
theorem KG {kp : Value → Prop} : Has ⟨Go.Proofs.Try.prog, kp⟩ Da := Ba 54 Go.Proofs.Try.f54 (by kernel_rfl) (by kernel_rfl) (by kernel_rfl) (by decide) (by kernel_rfl) (by kernel_rfl)
end Go.VS
