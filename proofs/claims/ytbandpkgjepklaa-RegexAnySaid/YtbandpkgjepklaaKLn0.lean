/- The program has these functions. -/
import Derived.Test.YtbandpkgjepklaaKGf0
import Derived.Test.YtbandpkgjepklaaKGf1
import Derived.Test.YtbandpkgjepklaaProg
import Derived.KernelRfl
set_option linter.unusedVariables false
set_option linter.unusedSimpArgs false
namespace Go.VS
theorem Tb {kp : Value → Prop} : Has ⟨Go.Proofs.Try.prog, kp⟩ Ig := Ba 22 Go.Proofs.Try.f22 (by kernel_rfl) (by kernel_rfl) (by kernel_rfl) (by decide) (by kernel_rfl) (by kernel_rfl)
theorem UT {kp : Value → Prop} : Has ⟨Go.Proofs.Try.prog, kp⟩ Je := Ba 20 Go.Proofs.Try.f20 (by kernel_rfl) (by kernel_rfl) (by kernel_rfl) (by decide) (by kernel_rfl) (by kernel_rfl)
theorem PK {kp : Value → Prop} : Has ⟨Go.Proofs.Try.prog, kp⟩ Fl := Ba 94 Go.Proofs.Try.f94 (by kernel_rfl) (by kernel_rfl) (by kernel_rfl) (by decide) (by kernel_rfl) (by kernel_rfl)
theorem PL {kp : Value → Prop} : Has ⟨Go.Proofs.Try.prog, kp⟩ Fm := Ba 107 Go.Proofs.Try.f107 (by kernel_rfl) (by kernel_rfl) (by kernel_rfl) (by decide) (by kernel_rfl) (by kernel_rfl)
theorem QK {kp : Value → Prop} : Has ⟨Go.Proofs.Try.prog, kp⟩ Gm := Ba 108 Go.Proofs.Try.f108 (by kernel_rfl) (by kernel_rfl) (by kernel_rfl) (by decide) (by kernel_rfl) (by kernel_rfl)
theorem QI {kp : Value → Prop} : Has ⟨Go.Proofs.Try.prog, kp⟩ Gk := Ba 101 Go.Proofs.Try.f101 (by kernel_rfl) (by kernel_rfl) (by kernel_rfl) (by decide) (by kernel_rfl) (by kernel_rfl)
theorem Mf {kp : Value → Prop} : Has ⟨Go.Proofs.Try.prog, kp⟩ DD := Ba 93 Go.Proofs.Try.f93 (by kernel_rfl) (by kernel_rfl) (by kernel_rfl) (by decide) (by kernel_rfl) (by kernel_rfl)
theorem MV {kp : Value → Prop} : Has ⟨Go.Proofs.Try.prog, kp⟩ Ed := Ba 56 Go.Proofs.Try.f56 (by kernel_rfl) (by kernel_rfl) (by kernel_rfl) (by decide) (by kernel_rfl) (by kernel_rfl)
theorem LF {kp : Value → Prop} : Has ⟨Go.Proofs.Try.prog, kp⟩ Dl := Ba 57 Go.Proofs.Try.f57 (by kernel_rfl) (by kernel_rfl) (by kernel_rfl) (by decide) (by kernel_rfl) (by kernel_rfl)
theorem LD {kp : Value → Prop} : Has ⟨Go.Proofs.Try.prog, kp⟩ Dk := Ba 35 Go.Proofs.Try.f35 (by kernel_rfl) (by kernel_rfl) (by kernel_rfl) (by decide) (by kernel_rfl) (by kernel_rfl)
theorem KD {kp : Value → Prop} : Has ⟨Go.Proofs.Try.prog, kp⟩ C8 := Ba 92 Go.Proofs.Try.f92 (by kernel_rfl) (by kernel_rfl) (by kernel_rfl) (by decide) (by kernel_rfl) (by kernel_rfl)
theorem JT {kp : Value → Prop} : Has ⟨Go.Proofs.Try.prog, kp⟩ CW := Ba 85 Go.Proofs.Try.f85 (by kernel_rfl) (by kernel_rfl) (by kernel_rfl) (by decide) (by kernel_rfl) (by kernel_rfl)
theorem QJ {kp : Value → Prop} : Has ⟨Go.Proofs.Try.prog, kp⟩ Gl := Ba 13 Go.Proofs.Try.f13 (by kernel_rfl) (by kernel_rfl) (by kernel_rfl) (by decide) (by kernel_rfl) (by kernel_rfl)
theorem Js {kp : Value → Prop} : Has ⟨Go.Proofs.Try.prog, kp⟩ Cd := Ba 34 Go.Proofs.Try.f34 (by kernel_rfl) (by kernel_rfl) (by kernel_rfl) (by decide) (by kernel_rfl) (by kernel_rfl)
theorem HJ {kp : Value → Prop} : Has ⟨Go.Proofs.Try.prog, kp⟩ Bl := Ba 55 Go.Proofs.Try.f55 (by kernel_rfl) (by kernel_rfl) (by kernel_rfl) (by decide) (by kernel_rfl) (by kernel_rfl)
theorem KE {kp : Value → Prop} : Has ⟨Go.Proofs.Try.prog, kp⟩ BL := Ba 77 Go.Proofs.Try.f77 (by kernel_rfl) (by kernel_rfl) (by kernel_rfl) (by decide) (by kernel_rfl) (by kernel_rfl)
end Go.VS
