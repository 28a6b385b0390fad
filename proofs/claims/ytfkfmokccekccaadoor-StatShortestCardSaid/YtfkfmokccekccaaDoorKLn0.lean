/- The program has these functions. -/
import Derived.Test.YtfkfmokccekccaaDoorKGf0
import Derived.Test.YtfkfmokccekccaaDoorProg
import Derived.KernelRfl
set_option linter.unusedVariables false
set_option linter.unusedSimpArgs false
namespace Go.VS
theorem Vj{kp:Value→Prop}:Has ⟨Go.Proofs.Tryd.prog,kp⟩ Il:=BG 6 Go.Proofs.Tryd.f6 (by kernel_rfl) (by kernel_rfl) (by kernel_rfl) (by decide) (by kernel_rfl) (by kernel_rfl)
theorem WX{kp:Value→Prop}:Has ⟨Go.Proofs.Tryd.prog,kp⟩ JL:=BG 18 Go.Proofs.Tryd.f18 (by kernel_rfl) (by kernel_rfl) (by kernel_rfl) (by decide) (by kernel_rfl) (by kernel_rfl)
theorem Ou{kp:Value→Prop}:Has ⟨Go.Proofs.Tryd.prog,kp⟩ EH:=BG 45 Go.Proofs.Tryd.f45 (by kernel_rfl) (by kernel_rfl) (by kernel_rfl) (by decide) (by kernel_rfl) (by kernel_rfl)
theorem P5{kp:Value→Prop}:Has ⟨Go.Proofs.Tryd.prog,kp⟩ E7:=BG 76 Go.Proofs.Tryd.f76 (by kernel_rfl) (by kernel_rfl) (by kernel_rfl) (by decide) (by kernel_rfl) (by kernel_rfl)
theorem Ti{kp:Value→Prop}:Has ⟨Go.Proofs.Tryd.prog,kp⟩ G4:=BG 46 Go.Proofs.Tryd.f46 (by kernel_rfl) (by kernel_rfl) (by kernel_rfl) (by decide) (by kernel_rfl) (by kernel_rfl)
theorem Th{kp:Value→Prop}:Has ⟨Go.Proofs.Tryd.prog,kp⟩ G3:=BG 27 Go.Proofs.Tryd.f27 (by kernel_rfl) (by kernel_rfl) (by kernel_rfl) (by decide) (by kernel_rfl) (by kernel_rfl)
theorem Nk{kp:Value→Prop}:Has ⟨Go.Proofs.Tryd.prog,kp⟩ D4:=BG 80 Go.Proofs.Tryd.f80 (by kernel_rfl) (by kernel_rfl) (by kernel_rfl) (by decide) (by kernel_rfl) (by kernel_rfl)
theorem Oq{kp:Value→Prop}:Has ⟨Go.Proofs.Tryd.prog,kp⟩ EF:=BG 50 Go.Proofs.Tryd.f50 (by kernel_rfl) (by kernel_rfl) (by kernel_rfl) (by decide) (by kernel_rfl) (by kernel_rfl)
theorem Ov{kp:Value→Prop}:Has ⟨Go.Proofs.Tryd.prog,kp⟩ EI:=BG 47 Go.Proofs.Tryd.f47 (by kernel_rfl) (by kernel_rfl) (by kernel_rfl) (by decide) (by kernel_rfl) (by kernel_rfl)
end Go.VS
