/- The program has these functions. -/
import Derived.Test.YtbpbcfiodckhjaaDoorKGf0
import Derived.Test.YtbpbcfiodckhjaaDoorProg
import Derived.KernelRfl
set_option linter.unusedVariables false
set_option linter.unusedSimpArgs false
namespace Go.VS
theorem V1 {kp : Value → Prop} : Has ⟨Go.Proofs.Tryd.prog, kp⟩ Vl := Dc 29 Go.Proofs.Tryd.f29 (by kernel_rfl) (by kernel_rfl) (by kernel_rfl) (by decide) (by kernel_rfl) (by kernel_rfl)
theorem NQ {kp : Value → Prop} : Has ⟨Go.Proofs.Tryd.prog, kp⟩ Fk := Dc 26 Go.Proofs.Tryd.f26 (by kernel_rfl) (by kernel_rfl) (by kernel_rfl) (by decide) (by kernel_rfl) (by kernel_rfl)
theorem Wa {kp : Value → Prop} : Has ⟨Go.Proofs.Tryd.prog, kp⟩ Vn := Dc 27 Go.Proofs.Tryd.f27 (by kernel_rfl) (by kernel_rfl) (by kernel_rfl) (by decide) (by kernel_rfl) (by kernel_rfl)
theorem MM {kp : Value → Prop} : Has ⟨Go.Proofs.Tryd.prog, kp⟩ Et := Dc 21 Go.Proofs.Tryd.f21 (by kernel_rfl) (by kernel_rfl) (by kernel_rfl) (by decide) (by kernel_rfl) (by kernel_rfl)
theorem Lz {kp : Value → Prop} : Has ⟨Go.Proofs.Tryd.prog, kp⟩ D6 := Dc 19 Go.Proofs.Tryd.f19 (by kernel_rfl) (by kernel_rfl) (by kernel_rfl) (by decide) (by kernel_rfl) (by kernel_rfl)
theorem VX {kp : Value → Prop} : Has ⟨Go.Proofs.Tryd.prog, kp⟩ Vh := Dc 24 Go.Proofs.Tryd.f24 (by kernel_rfl) (by kernel_rfl) (by kernel_rfl) (by decide) (by kernel_rfl) (by kernel_rfl)
theorem VH {kp : Value → Prop} : Has ⟨Go.Proofs.Tryd.prog, kp⟩ Vd := Dc 6 Go.Proofs.Tryd.f6 (by kernel_rfl) (by kernel_rfl) (by kernel_rfl) (by decide) (by kernel_rfl) (by kernel_rfl)
end Go.VS
