/- The program has these functions. -/
import Derived.Test.YtdnomijflodcgaaGreatDoorKGf0
import Derived.Test.YtdnomijflodcgaaGreatDoorKGf1
import Derived.Test.YtdnomijflodcgaaGreatDoorKGf2
import Derived.Test.YtdnomijflodcgaaGreatDoorProg
import Derived.KernelRfl
set_option linter.unusedVariables false
set_option linter.unusedSimpArgs false
namespace Go.VS
theorem ZO {kp : Value → Prop} : Has ⟨Go.Proofs.Tryz.prog, kp⟩ Lb := Bb 9 Go.Proofs.Tryz.f9 (by kernel_rfl) (by kernel_rfl) (by kernel_rfl) (by decide) (by kernel_rfl) (by kernel_rfl)
theorem Nc {kp : Value → Prop} : Has ⟨Go.Proofs.Tryz.prog, kp⟩ Et := Bb 171 Go.Proofs.Tryz.f171 (by kernel_rfl) (by kernel_rfl) (by kernel_rfl) (by decide) (by kernel_rfl) (by kernel_rfl)
theorem Abx {kp : Value → Prop} : Has ⟨Go.Proofs.Tryz.prog, kp⟩ ML := Bb 39 Go.Proofs.Tryz.f39 (by kernel_rfl) (by kernel_rfl) (by kernel_rfl) (by decide) (by kernel_rfl) (by kernel_rfl)
theorem RS {kp : Value → Prop} : Has ⟨Go.Proofs.Tryz.prog, kp⟩ Gk := Bb 129 Go.Proofs.Tryz.f129 (by kernel_rfl) (by kernel_rfl) (by kernel_rfl) (by decide) (by kernel_rfl) (by kernel_rfl)
theorem T9 {kp : Value → Prop} : Has ⟨Go.Proofs.Tryz.prog, kp⟩ GY := Bb 150 Go.Proofs.Tryz.f150 (by kernel_rfl) (by kernel_rfl) (by kernel_rfl) (by decide) (by kernel_rfl) (by kernel_rfl)
theorem T8 {kp : Value → Prop} : Has ⟨Go.Proofs.Tryz.prog, kp⟩ GX := Bb 102 Go.Proofs.Tryz.f102 (by kernel_rfl) (by kernel_rfl) (by kernel_rfl) (by decide) (by kernel_rfl) (by kernel_rfl)
theorem QC {kp : Value → Prop} : Has ⟨Go.Proofs.Tryz.prog, kp⟩ Fp := Bb 98 Go.Proofs.Tryz.f98 (by kernel_rfl) (by kernel_rfl) (by kernel_rfl) (by decide) (by kernel_rfl) (by kernel_rfl)
theorem QD {kp : Value → Prop} : Has ⟨Go.Proofs.Tryz.prog, kp⟩ Fq := Bb 101 Go.Proofs.Tryz.f101 (by kernel_rfl) (by kernel_rfl) (by kernel_rfl) (by decide) (by kernel_rfl) (by kernel_rfl)
theorem Dn {kp : Value → Prop} : Has ⟨Go.Proofs.Tryz.prog, kp⟩ AY := Bb 145 Go.Proofs.Tryz.f145 (by kernel_rfl) (by kernel_rfl) (by kernel_rfl) (by decide) (by kernel_rfl) (by kernel_rfl)
theorem Dp {kp : Value → Prop} : Has ⟨Go.Proofs.Tryz.prog, kp⟩ AZ := Bb 145 Go.Proofs.Tryz.f145 (by kernel_rfl) (by kernel_rfl) (by kernel_rfl) (by decide) (by kernel_rfl) (by kernel_rfl)
theorem C5 {kp : Value → Prop} : Has ⟨Go.Proofs.Tryz.prog, kp⟩ AR := Bb 97 Go.Proofs.Tryz.f97 (by kernel_rfl) (by kernel_rfl) (by kernel_rfl) (by decide) (by kernel_rfl) (by kernel_rfl)
theorem C6 {kp : Value → Prop} : Has ⟨Go.Proofs.Tryz.prog, kp⟩ AU := Bb 97 Go.Proofs.Tryz.f97 (by kernel_rfl) (by kernel_rfl) (by kernel_rfl) (by decide) (by kernel_rfl) (by kernel_rfl)
theorem Nf {kp : Value → Prop} : Has ⟨Go.Proofs.Tryz.prog, kp⟩ Fo := Bb 73 Go.Proofs.Tryz.f73 (by kernel_rfl) (by kernel_rfl) (by kernel_rfl) (by decide) (by kernel_rfl) (by kernel_rfl)
theorem RW {kp : Value → Prop} : Has ⟨Go.Proofs.Tryz.prog, kp⟩ Gn := Bb 60 Go.Proofs.Tryz.f60 (by kernel_rfl) (by kernel_rfl) (by kernel_rfl) (by decide) (by kernel_rfl) (by kernel_rfl)
theorem RT {kp : Value → Prop} : Has ⟨Go.Proofs.Tryz.prog, kp⟩ Gl := Bb 172 Go.Proofs.Tryz.f172 (by kernel_rfl) (by kernel_rfl) (by kernel_rfl) (by decide) (by kernel_rfl) (by kernel_rfl)
theorem RR {kp : Value → Prop} : Has ⟨Go.Proofs.Tryz.prog, kp⟩ Gj := Bb 166 Go.Proofs.Tryz.f166 (by kernel_rfl) (by kernel_rfl) (by kernel_rfl) (by decide) (by kernel_rfl) (by kernel_rfl)
theorem LU {kp : Value → Prop} : Has ⟨Go.Proofs.Tryz.prog, kp⟩ EX := Bb 123 Go.Proofs.Tryz.f123 (by kernel_rfl) (by kernel_rfl) (by kernel_rfl) (by decide) (by kernel_rfl) (by kernel_rfl)
theorem T3 {kp : Value → Prop} : Has ⟨Go.Proofs.Tryz.prog, kp⟩ GQ := Bb 126 Go.Proofs.Tryz.f126 (by kernel_rfl) (by kernel_rfl) (by kernel_rfl) (by decide) (by kernel_rfl) (by kernel_rfl)
end Go.VS
