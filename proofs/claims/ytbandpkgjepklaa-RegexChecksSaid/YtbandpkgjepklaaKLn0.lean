/- The program has these functions. -/
import Derived.Test.YtbandpkgjepklaaKGf0
import Derived.Test.YtbandpkgjepklaaKGf1
import Derived.Test.YtbandpkgjepklaaKGf2
import Derived.Test.YtbandpkgjepklaaProg
import Derived.KernelRfl
set_option linter.unusedVariables false
set_option linter.unusedSimpArgs false
namespace Go.VS
theorem WN {kp : Value → Prop} : Has ⟨Go.Proofs.Try.prog, kp⟩ K8 := Ba 16 Go.Proofs.Try.f16 (by kernel_rfl) (by kernel_rfl) (by kernel_rfl) (by decide) (by kernel_rfl) (by kernel_rfl)
theorem Yq {kp : Value → Prop} : Has ⟨Go.Proofs.Try.prog, kp⟩ MA := Ba 31 Go.Proofs.Try.f31 (by kernel_rfl) (by kernel_rfl) (by kernel_rfl) (by decide) (by kernel_rfl) (by kernel_rfl)
theorem Tb {kp : Value → Prop} : Has ⟨Go.Proofs.Try.prog, kp⟩ Ig := Ba 22 Go.Proofs.Try.f22 (by kernel_rfl) (by kernel_rfl) (by kernel_rfl) (by decide) (by kernel_rfl) (by kernel_rfl)
theorem AgE {kp : Value → Prop} : Has ⟨Go.Proofs.Try.prog, kp⟩ AbM := Ba 60 Go.Proofs.Try.f60 (by kernel_rfl) (by kernel_rfl) (by kernel_rfl) (by decide) (by kernel_rfl) (by kernel_rfl)
theorem AhH {kp : Value → Prop} : Has ⟨Go.Proofs.Try.prog, kp⟩ AbU := Ba 40 Go.Proofs.Try.f40 (by kernel_rfl) (by kernel_rfl) (by kernel_rfl) (by decide) (by kernel_rfl) (by kernel_rfl)
theorem Ahm {kp : Value → Prop} : Has ⟨Go.Proofs.Try.prog, kp⟩ AbR := Ba 19 Go.Proofs.Try.f19 (by kernel_rfl) (by kernel_rfl) (by kernel_rfl) (by decide) (by kernel_rfl) (by kernel_rfl)
theorem Ahh {kp : Value → Prop} : Has ⟨Go.Proofs.Try.prog, kp⟩ Aei := Ba 25 Go.Proofs.Try.f25 (by kernel_rfl) (by kernel_rfl) (by kernel_rfl) (by decide) (by kernel_rfl) (by kernel_rfl)
theorem UT {kp : Value → Prop} : Has ⟨Go.Proofs.Try.prog, kp⟩ Je := Ba 20 Go.Proofs.Try.f20 (by kernel_rfl) (by kernel_rfl) (by kernel_rfl) (by decide) (by kernel_rfl) (by kernel_rfl)
theorem Ag5 {kp : Value → Prop} : Has ⟨Go.Proofs.Try.prog, kp⟩ Ad6 := Ba 61 Go.Proofs.Try.f61 (by kernel_rfl) (by kernel_rfl) (by kernel_rfl) (by decide) (by kernel_rfl) (by kernel_rfl)
theorem AgD {kp : Value → Prop} : Has ⟨Go.Proofs.Try.prog, kp⟩ Ad1 := Ba 41 Go.Proofs.Try.f41 (by kernel_rfl) (by kernel_rfl) (by kernel_rfl) (by decide) (by kernel_rfl) (by kernel_rfl)
theorem Ag4 {kp : Value → Prop} : Has ⟨Go.Proofs.Try.prog, kp⟩ Ad5 := Ba 23 Go.Proofs.Try.f23 (by kernel_rfl) (by kernel_rfl) (by kernel_rfl) (by decide) (by kernel_rfl) (by kernel_rfl)
theorem AlQ {kp : Value → Prop} : Has ⟨Go.Proofs.Try.prog, kp⟩ AlB := Ba 42 Go.Proofs.Try.f42 (by kernel_rfl) (by kernel_rfl) (by kernel_rfl) (by decide) (by kernel_rfl) (by kernel_rfl)
theorem AlP {kp : Value → Prop} : Has ⟨Go.Proofs.Try.prog, kp⟩ AlA := Ba 24 Go.Proofs.Try.f24 (by kernel_rfl) (by kernel_rfl) (by kernel_rfl) (by decide) (by kernel_rfl) (by kernel_rfl)
theorem PK {kp : Value → Prop} : Has ⟨Go.Proofs.Try.prog, kp⟩ Fl := Ba 94 Go.Proofs.Try.f94 (by kernel_rfl) (by kernel_rfl) (by kernel_rfl) (by decide) (by kernel_rfl) (by kernel_rfl)
theorem PL {kp : Value → Prop} : Has ⟨Go.Proofs.Try.prog, kp⟩ Fm := Ba 107 Go.Proofs.Try.f107 (by kernel_rfl) (by kernel_rfl) (by kernel_rfl) (by decide) (by kernel_rfl) (by kernel_rfl)
theorem QK {kp : Value → Prop} : Has ⟨Go.Proofs.Try.prog, kp⟩ Gm := Ba 108 Go.Proofs.Try.f108 (by kernel_rfl) (by kernel_rfl) (by kernel_rfl) (by decide) (by kernel_rfl) (by kernel_rfl)
theorem QI {kp : Value → Prop} : Has ⟨Go.Proofs.Try.prog, kp⟩ Gk := Ba 101 Go.Proofs.Try.f101 (by kernel_rfl) (by kernel_rfl) (by kernel_rfl) (by decide) (by kernel_rfl) (by kernel_rfl)
theorem Mf {kp : Value → Prop} : Has ⟨Go.Proofs.Try.prog, kp⟩ DD := Ba 93 Go.Proofs.Try.f93 (by kernel_rfl) (by kernel_rfl) (by kernel_rfl) (by decide) (by kernel_rfl) (by kernel_rfl)
theorem MV {kp : Value → Prop} : Has ⟨Go.Proofs.Try.prog, kp⟩ Ed := Ba 56 Go.Proofs.Try.f56 (by kernel_rfl) (by kernel_rfl) (by kernel_rfl) (by decide) (by kernel_rfl) (by kernel_rfl)
end Go.VS
