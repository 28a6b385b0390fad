/- The program has these functions. -/
import Derived.Test.YtfkfmokccekccaaDoorKGf0
import Derived.Test.YtfkfmokccekccaaDoorProg
import Derived.KernelRfl
set_option linter.unusedVariables false
set_option linter.unusedSimpArgs false
namespace Go.VS
theorem Oo{kp:Value→Prop}:Has ⟨Go.Proofs.Tryd.prog,kp⟩ EE:=BG 17 Go.Proofs.Tryd.f17 (by kernel_rfl) (by kernel_rfl) (by kernel_rfl) (by decide) (by kernel_rfl) (by kernel_rfl)
theorem Tf{kp:Value→Prop}:Has ⟨Go.Proofs.Tryd.prog,kp⟩ G1:=BG 29 Go.Proofs.Tryd.f29 (by kernel_rfl) (by kernel_rfl) (by kernel_rfl) (by decide) (by kernel_rfl) (by kernel_rfl)
theorem P7{kp:Value→Prop}:Has ⟨Go.Proofs.Tryd.prog,kp⟩ E9:=BG 74 Go.Proofs.Tryd.f74 (by kernel_rfl) (by kernel_rfl) (by kernel_rfl) (by decide) (by kernel_rfl) (by kernel_rfl)
theorem P6{kp:Value→Prop}:Has ⟨Go.Proofs.Tryd.prog,kp⟩ E8:=BG 43 Go.Proofs.Tryd.f43 (by kernel_rfl) (by kernel_rfl) (by kernel_rfl) (by decide) (by kernel_rfl) (by kernel_rfl)
theorem P8{kp:Value→Prop}:Has ⟨Go.Proofs.Tryd.prog,kp⟩ Fa:=BG 25 Go.Proofs.Tryd.f25 (by kernel_rfl) (by kernel_rfl) (by kernel_rfl) (by decide) (by kernel_rfl) (by kernel_rfl)
theorem Te{kp:Value→Prop}:Has ⟨Go.Proofs.Tryd.prog,kp⟩ G0:=BG 13 Go.Proofs.Tryd.f13 (by kernel_rfl) (by kernel_rfl) (by kernel_rfl) (by decide) (by kernel_rfl) (by kernel_rfl)
theorem Tg{kp:Value→Prop}:Has ⟨Go.Proofs.Tryd.prog,kp⟩ G2:=BG 14 Go.Proofs.Tryd.f14 (by kernel_rfl) (by kernel_rfl) (by kernel_rfl) (by decide) (by kernel_rfl) (by kernel_rfl)
theorem Om{kp:Value→Prop}:Has ⟨Go.Proofs.Tryd.prog,kp⟩ ED:=BG 12 Go.Proofs.Tryd.f12 (by kernel_rfl) (by kernel_rfl) (by kernel_rfl) (by decide) (by kernel_rfl) (by kernel_rfl)
theorem P3{kp:Value→Prop}:Has ⟨Go.Proofs.Tryd.prog,kp⟩ E5:=BG 31 Go.Proofs.Tryd.f31 (by kernel_rfl) (by kernel_rfl) (by kernel_rfl) (by decide) (by kernel_rfl) (by kernel_rfl)
end Go.VS
