/- The program has these functions. -/
import Derived.Test.YtfkfmokccekccaaDoorKGf0
import Derived.Test.YtfkfmokccekccaaDoorKGf1
import Derived.Test.YtfkfmokccekccaaDoorProg
import Derived.KernelRfl
set_option linter.unusedVariables false
set_option linter.unusedSimpArgs false
namespace Go.VS
theorem Vj{kp:Value→Prop}:Has ⟨Go.Proofs.Tryd.prog,kp⟩ Il:=BG 6 Go.Proofs.Tryd.f6 (by kernel_rfl) (by kernel_rfl) (by kernel_rfl) (by decide) (by kernel_rfl) (by kernel_rfl)
theorem WX{kp:Value→Prop}:Has ⟨Go.Proofs.Tryd.prog,kp⟩ JL:=BG 18 Go.Proofs.Tryd.f18 (by kernel_rfl) (by kernel_rfl) (by kernel_rfl) (by decide) (by kernel_rfl) (by kernel_rfl)
theorem Oo{kp:Value→Prop}:Has ⟨Go.Proofs.Tryd.prog,kp⟩ EE:=BG 17 Go.Proofs.Tryd.f17 (by kernel_rfl) (by kernel_rfl) (by kernel_rfl) (by decide) (by kernel_rfl) (by kernel_rfl)
theorem Tf{kp:Value→Prop}:Has ⟨Go.Proofs.Tryd.prog,kp⟩ G1:=BG 29 Go.Proofs.Tryd.f29 (by kernel_rfl) (by kernel_rfl) (by kernel_rfl) (by decide) (by kernel_rfl) (by kernel_rfl)
theorem P7{kp:Value→Prop}:Has ⟨Go.Proofs.Tryd.prog,kp⟩ E9:=BG 74 Go.Proofs.Tryd.f74 (by kernel_rfl) (by kernel_rfl) (by kernel_rfl) (by decide) (by kernel_rfl) (by kernel_rfl)
theorem P6{kp:Value→Prop}:Has ⟨Go.Proofs.Tryd.prog,kp⟩ E8:=BG 43 Go.Proofs.Tryd.f43 (by kernel_rfl) (by kernel_rfl) (by kernel_rfl) (by decide) (by kernel_rfl) (by kernel_rfl)
theorem P8{kp:Value→Prop}:Has ⟨Go.Proofs.Tryd.prog,kp⟩ Fa:=BG 25 Go.Proofs.Tryd.f25 (by kernel_rfl) (by kernel_rfl) (by kernel_rfl) (by decide) (by kernel_rfl) (by kernel_rfl)
theorem AdG{kp:Value→Prop}:Has ⟨Go.Proofs.Tryd.prog,kp⟩ AbT:=BG 92 Go.Proofs.Tryd.f92 (by kernel_rfl) (by kernel_rfl) (by kernel_rfl) (by decide) (by kernel_rfl) (by kernel_rfl)
end Go.VS
