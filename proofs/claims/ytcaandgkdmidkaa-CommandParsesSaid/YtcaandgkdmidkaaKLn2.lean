/- The program has these functions. -/
import Derived.Test.YtcaandgkdmidkaaKGf0
import Derived.Test.YtcaandgkdmidkaaKGf1
import Derived.Test.YtcaandgkdmidkaaProg
import Derived.KernelRfl
set_option linter.unusedVariables false
set_option linter.unusedSimpArgs false
namespace Go.VS
theorem Pm {kp : Value → Prop} : Has ⟨Go.Proofs.Try.prog, kp⟩ E7 := Bt 10 Go.Proofs.Try.f10 (by kernel_rfl) (by kernel_rfl) (by kernel_rfl) (by decide) (by kernel_rfl) (by kernel_rfl)
theorem Pn {kp : Value → Prop} : Has ⟨Go.Proofs.Try.prog, kp⟩ E8 := Bt 12 Go.Proofs.Try.f12 (by kernel_rfl) (by kernel_rfl) (by kernel_rfl) (by decide) (by kernel_rfl) (by kernel_rfl)
theorem Po {kp : Value → Prop} : Has ⟨Go.Proofs.Try.prog, kp⟩ E9 := Bt 21 Go.Proofs.Try.f21 (by kernel_rfl) (by kernel_rfl) (by kernel_rfl) (by decide) (by kernel_rfl) (by kernel_rfl)
theorem MT {kp : Value → Prop} : Has ⟨Go.Proofs.Try.prog, kp⟩ D0 := Bt 5 Go.Proofs.Try.f5 (by kernel_rfl) (by kernel_rfl) (by kernel_rfl) (by decide) (by kernel_rfl) (by kernel_rfl)
theorem N3 {kp : Value → Prop} : Has ⟨Go.Proofs.Try.prog, kp⟩ EE := Bt 9 Go.Proofs.Try.f9 (by kernel_rfl) (by kernel_rfl) (by kernel_rfl) (by decide) (by kernel_rfl) (by kernel_rfl)
theorem RQ {kp : Value → Prop} : Has ⟨Go.Proofs.Try.prog, kp⟩ GS := Bt 16 Go.Proofs.Try.f16 (by kernel_rfl) (by kernel_rfl) (by kernel_rfl) (by decide) (by kernel_rfl) (by kernel_rfl)
theorem NX {kp : Value → Prop} : Has ⟨Go.Proofs.Try.prog, kp⟩ Ey := Bt 7 Go.Proofs.Try.f7 (by kernel_rfl) (by kernel_rfl) (by kernel_rfl) (by decide) (by kernel_rfl) (by kernel_rfl)
theorem Pl {kp : Value → Prop} : Has ⟨Go.Proofs.Try.prog, kp⟩ E6 := Bt 6 Go.Proofs.Try.f6 (by kernel_rfl) (by kernel_rfl) (by kernel_rfl) (by decide) (by kernel_rfl) (by kernel_rfl)
theorem NY {kp : Value → Prop} : Has ⟨Go.Proofs.Try.prog, kp⟩ Ez := Bt 4 Go.Proofs.Try.f4 (by kernel_rfl) (by kernel_rfl) (by kernel_rfl) (by decide) (by kernel_rfl) (by kernel_rfl)
theorem Hu {kp : Value → Prop} : Has ⟨Go.Proofs.Try.prog, kp⟩ Cb := Bt 3 Go.Proofs.Try.f3 (by kernel_rfl) (by kernel_rfl) (by kernel_rfl) (by decide) (by kernel_rfl) (by kernel_rfl)
end Go.VS
