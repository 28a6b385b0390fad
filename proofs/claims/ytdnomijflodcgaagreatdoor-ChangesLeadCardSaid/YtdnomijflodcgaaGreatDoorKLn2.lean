/- The program has these functions. -/
import Derived.Test.YtdnomijflodcgaaGreatDoorKGf0
import Derived.Test.YtdnomijflodcgaaGreatDoorKGf1
import Derived.Test.YtdnomijflodcgaaGreatDoorProg
import Derived.KernelRfl
set_option linter.unusedVariables false
set_option linter.unusedSimpArgs false
namespace Go.VS
theorem AlP {kp : Value → Prop} : Has ⟨Go.Proofs.Tryz.prog, kp⟩ Alg := Bb 29 Go.Proofs.Tryz.f29 (by kernel_rfl) (by kernel_rfl) (by kernel_rfl) (by decide) (by kernel_rfl) (by kernel_rfl)
theorem Aip {kp : Value → Prop} : Has ⟨Go.Proofs.Tryz.prog, kp⟩ AgB := Bb 42 Go.Proofs.Tryz.f42 (by kernel_rfl) (by kernel_rfl) (by kernel_rfl) (by decide) (by kernel_rfl) (by kernel_rfl)
theorem Abw {kp : Value → Prop} : Has ⟨Go.Proofs.Tryz.prog, kp⟩ MK := Bb 84 Go.Proofs.Tryz.f84 (by kernel_rfl) (by kernel_rfl) (by kernel_rfl) (by decide) (by kernel_rfl) (by kernel_rfl)
theorem Ah9 {kp : Value → Prop} : Has ⟨Go.Proofs.Tryz.prog, kp⟩ Agv := Bb 53 Go.Proofs.Tryz.f53 (by kernel_rfl) (by kernel_rfl) (by kernel_rfl) (by decide) (by kernel_rfl) (by kernel_rfl)
theorem Aja {kp : Value → Prop} : Has ⟨Go.Proofs.Tryz.prog, kp⟩ AgU := Bb 43 Go.Proofs.Tryz.f43 (by kernel_rfl) (by kernel_rfl) (by kernel_rfl) (by decide) (by kernel_rfl) (by kernel_rfl)
theorem Ahw {kp : Value → Prop} : Has ⟨Go.Proofs.Tryz.prog, kp⟩ Ags := Bb 10 Go.Proofs.Tryz.f10 (by kernel_rfl) (by kernel_rfl) (by kernel_rfl) (by decide) (by kernel_rfl) (by kernel_rfl)
theorem AhC {kp : Value → Prop} : Has ⟨Go.Proofs.Tryz.prog, kp⟩ Agw := Bb 14 Go.Proofs.Tryz.f14 (by kernel_rfl) (by kernel_rfl) (by kernel_rfl) (by decide) (by kernel_rfl) (by kernel_rfl)
theorem XL {kp : Value → Prop} : Has ⟨Go.Proofs.Tryz.prog, kp⟩ Jf := Bb 85 Go.Proofs.Tryz.f85 (by kernel_rfl) (by kernel_rfl) (by kernel_rfl) (by decide) (by kernel_rfl) (by kernel_rfl)
theorem T5 {kp : Value → Prop} : Has ⟨Go.Proofs.Tryz.prog, kp⟩ GS := Bb 40 Go.Proofs.Tryz.f40 (by kernel_rfl) (by kernel_rfl) (by kernel_rfl) (by decide) (by kernel_rfl) (by kernel_rfl)
theorem T4 {kp : Value → Prop} : Has ⟨Go.Proofs.Tryz.prog, kp⟩ GR := Bb 41 Go.Proofs.Tryz.f41 (by kernel_rfl) (by kernel_rfl) (by kernel_rfl) (by decide) (by kernel_rfl) (by kernel_rfl)
theorem VA {kp : Value → Prop} : Has ⟨Go.Proofs.Tryz.prog, kp⟩ HY := Bb 8 Go.Proofs.Tryz.f8 (by kernel_rfl) (by kernel_rfl) (by kernel_rfl) (by decide) (by kernel_rfl) (by kernel_rfl)
theorem AiT {kp : Value → Prop} : Has ⟨Go.Proofs.Tryz.prog, kp⟩ AgH := Bb 7 Go.Proofs.Tryz.f7 (by kernel_rfl) (by kernel_rfl) (by kernel_rfl) (by decide) (by kernel_rfl) (by kernel_rfl)
theorem Alo {kp : Value → Prop} : Has ⟨Go.Proofs.Tryz.prog, kp⟩ Alb := Bb 5 Go.Proofs.Tryz.f5 (by kernel_rfl) (by kernel_rfl) (by kernel_rfl) (by decide) (by kernel_rfl) (by kernel_rfl)
end Go.VS
