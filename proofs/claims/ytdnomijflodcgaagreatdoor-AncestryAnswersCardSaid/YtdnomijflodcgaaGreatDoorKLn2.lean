/- The program has these functions. -/
import Derived.Test.YtdnomijflodcgaaGreatDoorKGf0
import Derived.Test.YtdnomijflodcgaaGreatDoorKGf1
import Derived.Test.YtdnomijflodcgaaGreatDoorKGf2
import Derived.Test.YtdnomijflodcgaaGreatDoorProg
import Derived.KernelRfl
set_option linter.unusedVariables false
set_option linter.unusedSimpArgs false
namespace Go.VS
theorem T4 {kp : Value → Prop} : Has ⟨Go.Proofs.Tryz.prog, kp⟩ GR := Bb 41 Go.Proofs.Tryz.f41 (by kernel_rfl) (by kernel_rfl) (by kernel_rfl) (by decide) (by kernel_rfl) (by kernel_rfl)
theorem VA {kp : Value → Prop} : Has ⟨Go.Proofs.Tryz.prog, kp⟩ HY := Bb 8 Go.Proofs.Tryz.f8 (by kernel_rfl) (by kernel_rfl) (by kernel_rfl) (by decide) (by kernel_rfl) (by kernel_rfl)
theorem Ks {kp : Value → Prop} : Has ⟨Go.Proofs.Tryz.prog, kp⟩ Dx := Bb 57 Go.Proofs.Tryz.f57 (by kernel_rfl) (by kernel_rfl) (by kernel_rfl) (by decide) (by kernel_rfl) (by kernel_rfl)
theorem Ow {kp : Value → Prop} : Has ⟨Go.Proofs.Tryz.prog, kp⟩ EJ := Bb 56 Go.Proofs.Tryz.f56 (by kernel_rfl) (by kernel_rfl) (by kernel_rfl) (by decide) (by kernel_rfl) (by kernel_rfl)
theorem Abw {kp : Value → Prop} : Has ⟨Go.Proofs.Tryz.prog, kp⟩ MK := Bb 84 Go.Proofs.Tryz.f84 (by kernel_rfl) (by kernel_rfl) (by kernel_rfl) (by decide) (by kernel_rfl) (by kernel_rfl)
theorem Kr {kp : Value → Prop} : Has ⟨Go.Proofs.Tryz.prog, kp⟩ Dw := Bb 19 Go.Proofs.Tryz.f19 (by kernel_rfl) (by kernel_rfl) (by kernel_rfl) (by decide) (by kernel_rfl) (by kernel_rfl)
theorem RM {kp : Value → Prop} : Has ⟨Go.Proofs.Tryz.prog, kp⟩ Ge := Bb 21 Go.Proofs.Tryz.f21 (by kernel_rfl) (by kernel_rfl) (by kernel_rfl) (by decide) (by kernel_rfl) (by kernel_rfl)
theorem XJ {kp : Value → Prop} : Has ⟨Go.Proofs.Tryz.prog, kp⟩ Jd := Bb 27 Go.Proofs.Tryz.f27 (by kernel_rfl) (by kernel_rfl) (by kernel_rfl) (by decide) (by kernel_rfl) (by kernel_rfl)
theorem RQ {kp : Value → Prop} : Has ⟨Go.Proofs.Tryz.prog, kp⟩ Gi := Bb 18 Go.Proofs.Tryz.f18 (by kernel_rfl) (by kernel_rfl) (by kernel_rfl) (by decide) (by kernel_rfl) (by kernel_rfl)
theorem RY {kp : Value → Prop} : Has ⟨Go.Proofs.Tryz.prog, kp⟩ Gq := Bb 58 Go.Proofs.Tryz.f58 (by kernel_rfl) (by kernel_rfl) (by kernel_rfl) (by decide) (by kernel_rfl) (by kernel_rfl)
theorem T7 {kp : Value → Prop} : Has ⟨Go.Proofs.Tryz.prog, kp⟩ GW := Bb 59 Go.Proofs.Tryz.f59 (by kernel_rfl) (by kernel_rfl) (by kernel_rfl) (by decide) (by kernel_rfl) (by kernel_rfl)
theorem T6 {kp : Value → Prop} : Has ⟨Go.Proofs.Tryz.prog, kp⟩ GV := Bb 62 Go.Proofs.Tryz.f62 (by kernel_rfl) (by kernel_rfl) (by kernel_rfl) (by decide) (by kernel_rfl) (by kernel_rfl)
theorem Nd {kp : Value → Prop} : Has ⟨Go.Proofs.Tryz.prog, kp⟩ Eu := Bb 20 Go.Proofs.Tryz.f20 (by kernel_rfl) (by kernel_rfl) (by kernel_rfl) (by decide) (by kernel_rfl) (by kernel_rfl)
theorem XM {kp : Value → Prop} : Has ⟨Go.Proofs.Tryz.prog, kp⟩ Jg := Bb 22 Go.Proofs.Tryz.f22 (by kernel_rfl) (by kernel_rfl) (by kernel_rfl) (by decide) (by kernel_rfl) (by kernel_rfl)
theorem RX {kp : Value → Prop} : Has ⟨Go.Proofs.Tryz.prog, kp⟩ Gp := Bb 24 Go.Proofs.Tryz.f24 (by kernel_rfl) (by kernel_rfl) (by kernel_rfl) (by decide) (by kernel_rfl) (by kernel_rfl)
theorem LA {kp : Value → Prop} : Has ⟨Go.Proofs.Tryz.prog, kp⟩ DO := Bb 26 Go.Proofs.Tryz.f26 (by kernel_rfl) (by kernel_rfl) (by kernel_rfl) (by decide) (by kernel_rfl) (by kernel_rfl)
theorem IX {kp : Value → Prop} : Has ⟨Go.Proofs.Tryz.prog, kp⟩ CV := Bb 4 Go.Proofs.Tryz.f4 (by kernel_rfl) (by kernel_rfl) (by kernel_rfl) (by decide) (by kernel_rfl) (by kernel_rfl)
end Go.VS
