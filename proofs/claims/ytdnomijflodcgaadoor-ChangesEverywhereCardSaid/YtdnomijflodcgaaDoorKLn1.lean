/- The program has these functions. -/
import Derived.Test.YtdnomijflodcgaaDoorKGf0
import Derived.Test.YtdnomijflodcgaaDoorKGf1
import Derived.Test.YtdnomijflodcgaaDoorProg
import Derived.KernelRfl
set_option linter.unusedVariables false
set_option linter.unusedSimpArgs false
namespace Go.VS
theorem Sr {kp : Value → Prop} : Has ⟨Go.Proofs.Tryd.prog, kp⟩ Gl := Br 91 Go.Proofs.Tryd.f91 (by kernel_rfl) (by kernel_rfl) (by kernel_rfl) (by decide) (by kernel_rfl) (by kernel_rfl)
theorem IC {kp : Value → Prop} : Has ⟨Go.Proofs.Tryd.prog, kp⟩ C6 := Br 158 Go.Proofs.Tryd.f158 (by kernel_rfl) (by kernel_rfl) (by kernel_rfl) (by decide) (by kernel_rfl) (by kernel_rfl)
theorem Hn {kp : Value → Prop} : Has ⟨Go.Proofs.Tryd.prog, kp⟩ Cy := Br 131 Go.Proofs.Tryd.f131 (by kernel_rfl) (by kernel_rfl) (by kernel_rfl) (by decide) (by kernel_rfl) (by kernel_rfl)
theorem CS {kp : Value → Prop} : Has ⟨Go.Proofs.Tryd.prog, kp⟩ AO := Br 132 Go.Proofs.Tryd.f132 (by kernel_rfl) (by kernel_rfl) (by kernel_rfl) (by decide) (by kernel_rfl) (by kernel_rfl)
theorem Oq {kp : Value → Prop} : Has ⟨Go.Proofs.Tryd.prog, kp⟩ EU := Br 130 Go.Proofs.Tryd.f130 (by kernel_rfl) (by kernel_rfl) (by kernel_rfl) (by decide) (by kernel_rfl) (by kernel_rfl)
theorem CD {kp : Value → Prop} : Has ⟨Go.Proofs.Tryd.prog, kp⟩ AK := Br 92 Go.Proofs.Tryd.f92 (by kernel_rfl) (by kernel_rfl) (by kernel_rfl) (by decide) (by kernel_rfl) (by kernel_rfl)
theorem QF {kp : Value → Prop} : Has ⟨Go.Proofs.Tryd.prog, kp⟩ FP := Br 89 Go.Proofs.Tryd.f89 (by kernel_rfl) (by kernel_rfl) (by kernel_rfl) (by decide) (by kernel_rfl) (by kernel_rfl)
theorem C5 {kp : Value → Prop} : Has ⟨Go.Proofs.Tryd.prog, kp⟩ AY := Br 132 Go.Proofs.Tryd.f132 (by kernel_rfl) (by kernel_rfl) (by kernel_rfl) (by decide) (by kernel_rfl) (by kernel_rfl)
theorem QE {kp : Value → Prop} : Has ⟨Go.Proofs.Tryd.prog, kp⟩ FO := Br 93 Go.Proofs.Tryd.f93 (by kernel_rfl) (by kernel_rfl) (by kernel_rfl) (by decide) (by kernel_rfl) (by kernel_rfl)
theorem CP {kp : Value → Prop} : Has ⟨Go.Proofs.Tryd.prog, kp⟩ AN := Br 92 Go.Proofs.Tryd.f92 (by kernel_rfl) (by kernel_rfl) (by kernel_rfl) (by decide) (by kernel_rfl) (by kernel_rfl)
theorem QG {kp : Value → Prop} : Has ⟨Go.Proofs.Tryd.prog, kp⟩ FQ := Br 90 Go.Proofs.Tryd.f90 (by kernel_rfl) (by kernel_rfl) (by kernel_rfl) (by decide) (by kernel_rfl) (by kernel_rfl)
theorem Uc {kp : Value → Prop} : Has ⟨Go.Proofs.Tryd.prog, kp⟩ Hs := Br 61 Go.Proofs.Tryd.f61 (by kernel_rfl) (by kernel_rfl) (by kernel_rfl) (by decide) (by kernel_rfl) (by kernel_rfl)
theorem V0 {kp : Value → Prop} : Has ⟨Go.Proofs.Tryd.prog, kp⟩ Iq := Br 56 Go.Proofs.Tryd.f56 (by kernel_rfl) (by kernel_rfl) (by kernel_rfl) (by decide) (by kernel_rfl) (by kernel_rfl)
theorem VZ {kp : Value → Prop} : Has ⟨Go.Proofs.Tryd.prog, kp⟩ Ip := Br 28 Go.Proofs.Tryd.f28 (by kernel_rfl) (by kernel_rfl) (by kernel_rfl) (by decide) (by kernel_rfl) (by kernel_rfl)
theorem Ud {kp : Value → Prop} : Has ⟨Go.Proofs.Tryd.prog, kp⟩ Ht := Br 34 Go.Proofs.Tryd.f34 (by kernel_rfl) (by kernel_rfl) (by kernel_rfl) (by decide) (by kernel_rfl) (by kernel_rfl)
end Go.VS
