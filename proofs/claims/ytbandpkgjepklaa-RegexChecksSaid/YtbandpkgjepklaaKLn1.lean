/- The program has these functions. -/
import Derived.Test.YtbandpkgjepklaaKGf0
import Derived.Test.YtbandpkgjepklaaKGf1
import Derived.Test.YtbandpkgjepklaaKGf2
import Derived.Test.YtbandpkgjepklaaProg
import Derived.KernelRfl
set_option linter.unusedVariables false
set_option linter.unusedSimpArgs false
namespace Go.VS
theorem LF {kp : Value → Prop} : Has ⟨Go.Proofs.Try.prog, kp⟩ Dl := Ba 57 Go.Proofs.Try.f57 (by kernel_rfl) (by kernel_rfl) (by kernel_rfl) (by decide) (by kernel_rfl) (by kernel_rfl)
theorem LD {kp : Value → Prop} : Has ⟨Go.Proofs.Try.prog, kp⟩ Dk := Ba 35 Go.Proofs.Try.f35 (by kernel_rfl) (by kernel_rfl) (by kernel_rfl) (by decide) (by kernel_rfl) (by kernel_rfl)
theorem KD {kp : Value → Prop} : Has ⟨Go.Proofs.Try.prog, kp⟩ C8 := Ba 92 Go.Proofs.Try.f92 (by kernel_rfl) (by kernel_rfl) (by kernel_rfl) (by decide) (by kernel_rfl) (by kernel_rfl)
theorem QF {kp : Value → Prop} : Has ⟨Go.Proofs.Try.prog, kp⟩ Gh := Ba 10 Go.Proofs.Try.f10 (by kernel_rfl) (by kernel_rfl) (by kernel_rfl) (by decide) (by kernel_rfl) (by kernel_rfl)
theorem JT {kp : Value → Prop} : Has ⟨Go.Proofs.Try.prog, kp⟩ CW := Ba 85 Go.Proofs.Try.f85 (by kernel_rfl) (by kernel_rfl) (by kernel_rfl) (by decide) (by kernel_rfl) (by kernel_rfl)
theorem QJ {kp : Value → Prop} : Has ⟨Go.Proofs.Try.prog, kp⟩ Gl := Ba 13 Go.Proofs.Try.f13 (by kernel_rfl) (by kernel_rfl) (by kernel_rfl) (by decide) (by kernel_rfl) (by kernel_rfl)
theorem Js {kp : Value → Prop} : Has ⟨Go.Proofs.Try.prog, kp⟩ Cd := Ba 34 Go.Proofs.Try.f34 (by kernel_rfl) (by kernel_rfl) (by kernel_rfl) (by decide) (by kernel_rfl) (by kernel_rfl)
theorem HJ {kp : Value → Prop} : Has ⟨Go.Proofs.Try.prog, kp⟩ Bl := Ba 55 Go.Proofs.Try.f55 (by kernel_rfl) (by kernel_rfl) (by kernel_rfl) (by decide) (by kernel_rfl) (by kernel_rfl)
theorem KE {kp : Value → Prop} : Has ⟨Go.Proofs.Try.prog, kp⟩ BL := Ba 77 Go.Proofs.Try.f77 (by kernel_rfl) (by kernel_rfl) (by kernel_rfl) (by decide) (by kernel_rfl) (by kernel_rfl)
theorem LC {kp : Value → Prop} : Has ⟨Go.Proofs.Try.prog, kp⟩ BG := Ba 84 Go.Proofs.Try.f84 (by kernel_rfl) (by kernel_rfl) (by kernel_rfl) (by decide) (by kernel_rfl) (by kernel_rfl)
theorem LH {kp : Value → Prop} : Has ⟨Go.Proofs.Try.prog, kp⟩ Dn := Ba 74 Go.Proofs.Try.f74 (by kernel_rfl) (by kernel_rfl) (by kernel_rfl) (by decide) (by kernel_rfl) (by kernel_rfl)
theorem Mi {kp : Value → Prop} : Has ⟨Go.Proofs.Try.prog, kp⟩ DG := Ba 53 Go.Proofs.Try.f53 (by kernel_rfl) (by kernel_rfl) (by kernel_rfl) (by decide) (by kernel_rfl) (by kernel_rfl)
theorem LJ {kp : Value → Prop} : Has ⟨Go.Proofs.Try.prog, kp⟩ Dq := Ba 99 Go.Proofs.Try.f99 (by kernel_rfl) (by kernel_rfl) (by kernel_rfl) (by decide) (by kernel_rfl) (by kernel_rfl)
theorem Mg {kp : Value → Prop} : Has ⟨Go.Proofs.Try.prog, kp⟩ DE := Ba 76 Go.Proofs.Try.f76 (by kernel_rfl) (by kernel_rfl) (by kernel_rfl) (by decide) (by kernel_rfl) (by kernel_rfl)
theorem KG {kp : Value → Prop} : Has ⟨Go.Proofs.Try.prog, kp⟩ Da := Ba 54 Go.Proofs.Try.f54 (by kernel_rfl) (by kernel_rfl) (by kernel_rfl) (by decide) (by kernel_rfl) (by kernel_rfl)
theorem Mj {kp : Value → Prop} : Has ⟨Go.Proofs.Try.prog, kp⟩ DH := Ba 97 Go.Proofs.Try.f97 (by kernel_rfl) (by kernel_rfl) (by kernel_rfl) (by decide) (by kernel_rfl) (by kernel_rfl)
theorem N2 {kp : Value → Prop} : Has ⟨Go.Proofs.Try.prog, kp⟩ Ey := Ba 98 Go.Proofs.Try.f98 (by kernel_rfl) (by kernel_rfl) (by kernel_rfl) (by decide) (by kernel_rfl) (by kernel_rfl)
theorem LK {kp : Value → Prop} : Has ⟨Go.Proofs.Try.prog, kp⟩ Dr := Ba 105 Go.Proofs.Try.f105 (by kernel_rfl) (by kernel_rfl) (by kernel_rfl) (by decide) (by kernel_rfl) (by kernel_rfl)
theorem Ju {kp : Value → Prop} : Has ⟨Go.Proofs.Try.prog, kp⟩ CG := Ba 96 Go.Proofs.Try.f96 (by kernel_rfl) (by kernel_rfl) (by kernel_rfl) (by decide) (by kernel_rfl) (by kernel_rfl)
end Go.VS
