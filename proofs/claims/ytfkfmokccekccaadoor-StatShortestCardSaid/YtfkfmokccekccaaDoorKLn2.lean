/- The program has these functions. -/
import Derived.Test.YtfkfmokccekccaaDoorKGf0
import Derived.Test.YtfkfmokccekccaaDoorProg
import Derived.KernelRfl
set_option linter.unusedVariables false
set_option linter.unusedSimpArgs false
namespace Go.VS
theorem Mj{kp:Value→Prop}:Has ⟨Go.Proofs.Tryd.prog,kp⟩ DM:=BG 85 Go.Proofs.Tryd.f85 (by kernel_rfl) (by kernel_rfl) (by kernel_rfl) (by decide) (by kernel_rfl) (by kernel_rfl)
theorem LA{kp:Value→Prop}:Has ⟨Go.Proofs.Tryd.prog,kp⟩ Ds:=BG 54 Go.Proofs.Tryd.f54 (by kernel_rfl) (by kernel_rfl) (by kernel_rfl) (by decide) (by kernel_rfl) (by kernel_rfl)
theorem Ot{kp:Value→Prop}:Has ⟨Go.Proofs.Tryd.prog,kp⟩ EG:=BG 30 Go.Proofs.Tryd.f30 (by kernel_rfl) (by kernel_rfl) (by kernel_rfl) (by decide) (by kernel_rfl) (by kernel_rfl)
theorem Jm{kp:Value→Prop}:Has ⟨Go.Proofs.Tryd.prog,kp⟩ CE:=BG 57 Go.Proofs.Tryd.f57 (by kernel_rfl) (by kernel_rfl) (by kernel_rfl) (by decide) (by kernel_rfl) (by kernel_rfl)
theorem Kl{kp:Value→Prop}:Has ⟨Go.Proofs.Tryd.prog,kp⟩ Db:=BG 32 Go.Proofs.Tryd.f32 (by kernel_rfl) (by kernel_rfl) (by kernel_rfl) (by decide) (by kernel_rfl) (by kernel_rfl)
theorem Jn{kp:Value→Prop}:Has ⟨Go.Proofs.Tryd.prog,kp⟩ CF:=BG 56 Go.Proofs.Tryd.f56 (by kernel_rfl) (by kernel_rfl) (by kernel_rfl) (by decide) (by kernel_rfl) (by kernel_rfl)
theorem LB{kp:Value→Prop}:Has ⟨Go.Proofs.Tryd.prog,kp⟩ Dt:=BG 16 Go.Proofs.Tryd.f16 (by kernel_rfl) (by kernel_rfl) (by kernel_rfl) (by decide) (by kernel_rfl) (by kernel_rfl)
theorem P4{kp:Value→Prop}:Has ⟨Go.Proofs.Tryd.prog,kp⟩ E6:=BG 15 Go.Proofs.Tryd.f15 (by kernel_rfl) (by kernel_rfl) (by kernel_rfl) (by decide) (by kernel_rfl) (by kernel_rfl)
theorem HU{kp:Value→Prop}:Has ⟨Go.Proofs.Tryd.prog,kp⟩ Ca:=BG 4 Go.Proofs.Tryd.f4 (by kernel_rfl) (by kernel_rfl) (by kernel_rfl) (by decide) (by kernel_rfl) (by kernel_rfl)
end Go.VS
